/- What functions of the program come to: parts of the walk (Ge). -/
import Derived.Test.YtohleiikedpmkaaGd
import Derived.Test.YtohleiikedpmkaaGb
import Derived.KernelRfl
import Derived.Test.YtohleiikedpmkaaProg
import Derived.Test.YtohleiikedpmkaaGc
import Derived.Test.YtohleiikedpmkaaVmc
import Derived.Test.YtohleiikedpmkaaGa
set_option linter.unusedSimpArgs false
set_option linter.unusedVariables false
namespace Go.Proofs.Ytohleiikedpmkaa.W
end Go.Proofs.Ytohleiikedpmkaa.W
namespace Go.Proofs.Ytohleiikedpmkaa.Vm
open Go Go.Proofs Go.Proofs.Ytohleiikedpmkaa
end Go.Proofs.Ytohleiikedpmkaa.Vm

namespace Go.Proofs.Ytohleiikedpmkaa.Vm
open Go Go.Proofs Go.Proofs.Ytohleiikedpmkaa
end Go.Proofs.Ytohleiikedpmkaa.Vm

namespace Go.Proofs.Ytohleiikedpmkaa.Vm
open Go Go.Proofs Go.Proofs.Ytohleiikedpmkaa
set_option maxRecDepth 100000
end Go.Proofs.Ytohleiikedpmkaa.Vm

namespace Go.Proofs.Ytohleiikedpmkaa.W
open Go Go.Proofs.Ytohleiikedpmkaa.Vm
theorem cR_lk (Y X : Nat → Nat → Int) (j : Nat) : ∀ k, cR Y X j k ≤ k
  | 0 => Nat.le_refl _
  | k + 1 => by
    show (bif eqc Y X j k then cR Y X j k else cR Y X j k + 1) ≤ k + 1
    have := cR_lk Y X j k
    cases eqc Y X j k
    · show cR Y X j k + 1 ≤ k + 1; omega
    · show cR Y X j k ≤ k + 1; omega
theorem cA_lk (Y X : Nat → Nat → Int) (cw : Nat) : ∀ i, cA Y X cw i ≤ i * cw
  | 0 => Nat.zero_le _
  | i + 1 => by
    show cA Y X cw i + cR Y X i cw ≤ (i + 1) * cw
    have h1 := cA_lk Y X cw i
    have h2 := cR_lk Y X i cw
    rw [Nat.succ_mul]; omega
theorem sN_gk {L : Rn} (h : ∀ q, q < L.length → 1 ≤ rn L q) : ∀ k, k ≤ L.length → k ≤ sN L k
  | 0, _ => Nat.le_refl _
  | k + 1, hk => by
    show k + 1 ≤ sN L k + rn L k
    have h1 := sN_gk h k (by omega)
    have h2 := h k (by omega)
    omega
theorem runs_len54 (Y X : Nat → Nat → Int) {rr cw : Nat} (hr : rr ≤ 6) (hc : cw ≤ 9) : (runs Y X cw rr).length ≤ 54 ∧ sN (runs Y X cw rr) (runs Y X cw rr).length ≤ 54 := by
  have h1 := runs_sum X Y rr cw
  have h2 := cA_lk Y X cw rr
  have h3 := sN_gk (fun q hq => (runs_ok X Y rr cw q hq).1) _ (Nat.le_refl _)
  have h4 : rr * cw ≤ 6 * 9 := Nat.mul_le_mul hr hc
  omega
theorem runs_L (Y X : Nat → Nat → Int) {rr cw : Nat} (hr : rr ≤ 6) (hc : cw ≤ 9) : (runs Y X cw rr).length ≤ 4000 := by
  have := runs_len54 Y X hr hc; omega
theorem runs_120 (Y X : Nat → Nat → Int) {rr cw : Nat} (hc : cw ≤ 120) : ∀ i, i < (runs Y X cw rr).length → rn (runs Y X cw rr) i ≤ 120 ∧ ∀ p, p < rn (runs Y X cw rr) i * 4 → Y (ra (runs Y X cw rr) i) (p + rb (runs Y X cw rr) i * 4) = Y (ra (runs Y X cw rr) i) (p + rb (runs Y X cw rr) i * 4) := fun i hi => by
  have := runs_ok X Y rr cw i hi
  exact ⟨by omega, fun _ _ => rfl⟩
end Go.Proofs.Ytohleiikedpmkaa.W
namespace Go.Proofs.Ytohleiikedpmkaa.Vm
open Go Go.Proofs Go.Proofs.Ytohleiikedpmkaa
theorem frX_self (rr cw : Nat) (X : Nat → Nat → Int) : W.frX rr cw X rr cw = X := by
  unfold W.frX; rw [if_pos ⟨rfl, rfl⟩]
end Go.Proofs.Ytohleiikedpmkaa.Vm

namespace Go.Proofs.Ytohleiikedpmkaa.Vm
open Go Go.Proofs Go.Proofs.Ytohleiikedpmkaa
set_option maxRecDepth 100000
theorem rcell_ok_t (a b c d : Int)
    (h : 32 ≤ a ∧ a ≤ 1114111 ∧ ¬ a = 127 ∧ (a < 55296 ∨ 57343 < a) ∧ 0 ≤ b ∧ b ≤ 8 ∧ 0 ≤ c ∧ c ≤ 8 ∧ 0 ≤ d ∧ d ≤ 7)
    (h0 : (a < (55296 : Int))) :
    PureF Try.prog 35 [(.agg [(.int .i32 a), (.int .i64 b), (.int .i64 c), (.int .i64 d)])] (.c (.bool (true))) :=
  Contract0.fr 300 [(4, ⟨.auto, some (.c (.bool (true)))⟩), (8, ⟨.auto, some (.c (.bool (true)))⟩), (13, ⟨.auto, some (.c (.bool (true)))⟩), (19, ⟨.auto, some (.c (.bool (true)))⟩), (28, ⟨.auto, some (.c (.bool (true)))⟩), (33, ⟨.auto, some (.c (.bool (true)))⟩), (38, ⟨.auto, some (.c (.bool (true)))⟩), (43, ⟨.auto, some (.c (.bool (true)))⟩), (48, ⟨.auto, some (.c (.bool (true)))⟩), (53, ⟨.auto, some (.c (.bool (true)))⟩)] [] [EB (decide (d ≤ 7)) true,
      EB (decide (d ≥ 0)) true,
      EB (decide (c ≤ 8)) true,
      EB (decide (c ≥ 0)) true,
      EB (decide (b ≤ 8)) true,
      EB (decide (b ≥ 0)) true,
      EB (decide (a < 55296)) true,
      EB (a != 127) true,
      EB (decide (a ≤ 1114111)) true,
      EB (decide (a ≥ 32)) true] mixed Try.func35 (by kernel_rfl) ⟨.mk (decide_eq_true (by omega)), .mk (decide_eq_true (by omega)), .mk (decide_eq_true (by omega)), .mk (decide_eq_true (by omega)), .mk (decide_eq_true (by omega)), .mk (decide_eq_true (by omega)), .mk (decide_eq_true h0), .mk (bne_t (by omega)), .mk (decide_eq_true (by omega)), .mk (decide_eq_true (by omega)), trivial⟩
theorem rcell_ok_f (a b c d : Int)
    (h : 32 ≤ a ∧ a ≤ 1114111 ∧ ¬ a = 127 ∧ (a < 55296 ∨ 57343 < a) ∧ 0 ≤ b ∧ b ≤ 8 ∧ 0 ≤ c ∧ c ≤ 8 ∧ 0 ≤ d ∧ d ≤ 7)
    (h0 : (¬a < (55296 : Int))) :
    PureF Try.prog 35 [(.agg [(.int .i32 a), (.int .i64 b), (.int .i64 c), (.int .i64 d)])] (.c (.bool (true))) :=
  Contract0.fr 300 [(4, ⟨.auto, some (.c (.bool (true)))⟩), (8, ⟨.auto, some (.c (.bool (true)))⟩), (13, ⟨.auto, some (.c (.bool (true)))⟩), (19, ⟨.auto, some (.c (.bool (false)))⟩), (22, ⟨.auto, some (.c (.bool (true)))⟩), (28, ⟨.auto, some (.c (.bool (true)))⟩), (33, ⟨.auto, some (.c (.bool (true)))⟩), (38, ⟨.auto, some (.c (.bool (true)))⟩), (43, ⟨.auto, some (.c (.bool (true)))⟩), (48, ⟨.auto, some (.c (.bool (true)))⟩), (53, ⟨.auto, some (.c (.bool (true)))⟩)] [] [EB (decide (d ≤ 7)) true,
      EB (decide (d ≥ 0)) true,
      EB (decide (c ≤ 8)) true,
      EB (decide (c ≥ 0)) true,
      EB (decide (b ≤ 8)) true,
      EB (decide (b ≥ 0)) true,
      EB (decide (a > 57343)) true,
      EB (decide (a < 55296)) false,
      EB (a != 127) true,
      EB (decide (a ≤ 1114111)) true,
      EB (decide (a ≥ 32)) true] mixed Try.func35 (by kernel_rfl) ⟨.mk (decide_eq_true (by omega)), .mk (decide_eq_true (by omega)), .mk (decide_eq_true (by omega)), .mk (decide_eq_true (by omega)), .mk (decide_eq_true (by omega)), .mk (decide_eq_true (by omega)), .mk (decide_eq_true (by omega)), .mk (decide_eq_false h0), .mk (bne_t (by omega)), .mk (decide_eq_true (by omega)), .mk (decide_eq_true (by omega)), trivial⟩
theorem rsize_ok (r c : Int)
    (h0 : 1 ≤ r ∧ r ≤ 60)
    (h1 : 1 ≤ c ∧ c ≤ 120) :
    PureF Try.prog 34 [(.c (.int .i64 r)), (.c (.int .i64 c))] (.c (.bool (true))) :=
  Contract0.fr 300 [(2, ⟨.auto, some (.c (.bool (true)))⟩), (5, ⟨.auto, some (.c (.bool (true)))⟩), (9, ⟨.auto, some (.c (.bool (true)))⟩), (13, ⟨.auto, some (.c (.bool (true)))⟩)] [] [EB (decide (c ≤ 120)) true,
      EB (decide (c ≥ 1)) true,
      EB (decide (r ≤ 60)) true,
      EB (decide (r ≥ 1)) true] mixed Try.func34 (by kernel_rfl) ⟨.mk (decide_eq_true (by omega)), .mk (decide_eq_true (by omega)), .mk (decide_eq_true (by omega)), .mk (decide_eq_true (by omega)), trivial⟩
end Go.Proofs.Ytohleiikedpmkaa.Vm

namespace Go.Proofs.Ytohleiikedpmkaa.Vm
open Go Go.Proofs Go.Proofs.Ytohleiikedpmkaa
theorem rcell_ok (a b c d : Int) (h : 32 ≤ a ∧ a ≤ 1114111 ∧ ¬ a = 127 ∧ (a < 55296 ∨ 57343 < a) ∧ 0 ≤ b ∧ b ≤ 8 ∧ 0 ≤ c ∧ c ≤ 8 ∧ 0 ≤ d ∧ d ≤ 7) :
    PureF Try.prog 35 [(.agg [(.int .i32 a), (.int .i64 b), (.int .i64 c), (.int .i64 d)])] (.c (.bool (true))) := by
  by_cases h0 : a < 55296
  · exact rcell_ok_t a b c d h h0
  · exact rcell_ok_f a b c d h h0
end Go.Proofs.Ytohleiikedpmkaa.Vm

namespace Go.Proofs.Ytohleiikedpmkaa.Vm
open Go Go.Proofs Go.Proofs.Ytohleiikedpmkaa
set_option maxRecDepth 100000
noncomputable def LRaI (rr cw : Nat) (X : Nat → Nat → Int) (ro co : Int) (hi : Bool) (i k : Nat) : S0 :=
  ⟨[(1, (.c (.ptr 3 0 0))), (3, (.c (.int .i64 (i : Int)))), (2, (.c (.bool (false)))), (4, (.c (.int .i64 (k : Int))))], [(1, (.one ⟨false, false, (.gen rr (fun j_ => (.sl 2 j_ 0 cw 4)))⟩)), (2, (.many (fun j_ => some ⟨false, false, (.ig (W.rl rr (cw * 4) j_) W.ck (fun p_ => (X j_ p_)))⟩))), (3, (.one ⟨true, true, (.cells [(.int .i64 (↑rr)), (.int .i64 (↑cw)), (.sl 1 0 0 rr 1), (.int .i64 ro), (.int .i64 co), (.bool hi)])⟩))], 100016⟩
theorem LRa_by {α : Type} (I : α → S0) (Inv : α → Prop) (μ : α → Nat) {ex : Ex} {s' : S0} (hex : ex ≠ .normal)
    (step : ∀ x, Inv x → (∃ y, Inv y ∧ μ y < μ x ∧ CodeOk Try.prog 74 100000 (kAt (kOf Try.prog Try.f20) [true, true, false, true, false, false, true, false, false, true, true, false, false]) (I x) .normal (I y)) ∨ CodeOk Try.prog 74 100000 (kAt (kOf Try.prog Try.f20) [true, true, false, true, false, false, true, false, false, true, true, false, false]) (I x) ex s') (x : α) (hx : Inv x) :
    CodeOk Try.prog 74 100000 (kAt (kOf Try.prog Try.f20) [true, true, false, true, false, false, true, false, false, true, true, false]) (I x) ex s' := by
  have hk : (kAt (kOf Try.prog Try.f20) [true, true, false, true, false, false, true, false, false, true, true, false]) = .loop (kAt (kOf Try.prog Try.f20) [true, true, false, true, false, false, true, false, false, true, true, false, false]) := by kernel_rfl
  rw [hk]
  exact CodeOk.loop I Inv μ hex step x hx
theorem LRa_rt (rr cw : Nat) (X : Nat → Nat → Int) (ro co : Int) (hi : Bool) (i k : Nat)
    (hrr : 1 ≤ rr ∧ rr ≤ 60)
    (hcw : 1 ≤ cw ∧ cw ≤ 120)
    (hro : 0 ≤ ro ∧ ro < rr)
    (hco : 0 ≤ co ∧ co < cw)
    (hX : ∀ j, j < rr → W.okRow (X j) cw)
    (hil : i < rr)
    (hkl : k ≤ cw)
    (h0 : ((↑k : Int) < (↑cw : Int))) :
    CodeOk Try.prog 74 100000 (kAt (kOf Try.prog Try.f20) [true, true, false, true, false, false, true, false, false, true, true, false, false]) (LRaI rr cw X ro co hi i k) .normal (LRaI rr cw X ro co hi i (k + 1)) :=
  CodeOk.of_runs (fuel := 300) (v := ⟨[1, 3, 2, 4], [1, 2, 3], [], 100016⟩) (hs := [(3, ⟨.auto, some (.c (.bool (true)))⟩), (8, ⟨.ask, none⟩), (9, ⟨.ask, none⟩), (11, ⟨.ask, none⟩), (12, ⟨.ask, some (.agg [(.int .i32 (X i (k * 4))), (.int .i64 (X i (k * 4 + 1))), (.int .i64 (X i (k * 4 + 2))), (.int .i64 (X i (k * 4 + 3)))])⟩), (13, ⟨.call [] (.c (.bool (true))) [] [], none⟩), (17, ⟨.auto, some (.c (.int .i64 (↑(k + 1))))⟩)])
    (cs := [EI .i64 (IntKind.wrap IntKind.i64 ((↑k : Int) + 1)) ((↑(k + 1) : Int)),
      Contract Try.prog 35 [(.agg [(.int .i32 (X i (k * 4))), (.int .i64 (X i (k * 4 + 1))), (.int .i64 (X i (k * 4 + 2))), (.int .i64 (X i (k * 4 + 3)))])] [] 100208 (.c (.bool (true))) [] [],
      ((.agg ((List.range 4).map (fun p_ => .int (W.ck (p_ + k * 4)) (X i (p_ + k * 4))))) : V) = (.agg [(.int .i32 (X i (k * 4))), (.int .i64 (X i (k * 4 + 1))), (.int .i64 (X i (k * 4 + 2))), (.int .i64 (X i (k * 4 + 3)))]),
      (k * (4 : Nat) + (4 : Nat) ≤ W.rl rr (cw * (4 : Nat)) i),
      ((0 : Int) ≤ (↑k : Int) ∧ (↑k : Int) < (↑cw : Int)),
      (i + (1 : Nat) ≤ rr),
      ((0 : Int) ≤ (↑i : Int) ∧ (↑i : Int) < (↑rr : Int)),
      EB (decide ((↑k : Int) < (↑cw : Int))) true])
    mixed (by kernel_rfl) ⟨.mk (by simp only [addO_eq, mulE_eq, mulE_one, Int.toNat_natCast, IntKind.wrap_i64, mmin, mmax]; omega), Contract0.in1 (rcell_ok (X i (k * 4)) (X i (k * 4 + 1)) (X i (k * 4 + 2)) (X i (k * 4 + 3)) (by exact hX _ (by omega) _ (by omega))) [] [none] [] [] (by kernel_rfl), EV.ck4 (g := (fun p_ => (X i p_))) (o := (k * 4)) (by omega) (by omega), (by rw [rl_lt (by omega)]; omega), (by omega), (by omega), (by omega), .mk (decide_eq_true h0), trivial⟩
theorem LRa_xf (rr cw : Nat) (X : Nat → Nat → Int) (ro co : Int) (hi : Bool) (i k : Nat)
    (hrr : 1 ≤ rr ∧ rr ≤ 60)
    (hcw : 1 ≤ cw ∧ cw ≤ 120)
    (hro : 0 ≤ ro ∧ ro < rr)
    (hco : 0 ≤ co ∧ co < cw)
    (hX : ∀ j, j < rr → W.okRow (X j) cw)
    (hil : i < rr)
    (hkl : k ≤ cw)
    (h0 : (¬(↑k : Int) < (↑cw : Int))) :
    CodeOk Try.prog 74 100000 (kAt (kOf Try.prog Try.f20) [true, true, false, true, false, false, true, false, false, true, true, false, false]) (LRaI rr cw X ro co hi i k) (.exit 2) (LRaI rr cw X ro co hi i k) :=
  CodeOk.of_runs (fuel := 300) (v := ⟨[1, 3, 2, 4], [1, 2, 3], [], 100016⟩) (hs := [(3, ⟨.auto, some (.c (.bool (false)))⟩)])
    (cs := [EB (decide ((↑k : Int) < (↑cw : Int))) false])
    mixed (by kernel_rfl) ⟨.mk (decide_eq_false h0), trivial⟩
end Go.Proofs.Ytohleiikedpmkaa.Vm

namespace Go.Proofs.Ytohleiikedpmkaa.Vm
open Go Go.Proofs Go.Proofs.Ytohleiikedpmkaa
theorem rs_inner (rr cw : Nat) (X : Nat → Nat → Int) (ro co : Int) (hi : Bool) (i : Nat)
    (hrr : 1 ≤ rr ∧ rr ≤ 60)
    (hcw : 1 ≤ cw ∧ cw ≤ 120)
    (hro : 0 ≤ ro ∧ ro < rr)
    (hco : 0 ≤ co ∧ co < cw)
    (hX : ∀ j, j < rr → W.okRow (X j) cw)
    (hil : i < rr)
    : CodeOk Try.prog 74 100000 (kAt (kOf Try.prog Try.f20) [true, true, false, true, false, false, true, false, false, true, true, false]) (LRaI rr cw X ro co hi i 0) (.exit 2) (LRaI rr cw X ro co hi i (cw)) := by
  have h : CodeOk Try.prog 74 100000 (kAt (kOf Try.prog Try.f20) [true, true, false, true, false, false, true, false, false, true, true, false]) (LRaI rr cw X ro co hi i 0) (.exit 2) (LRaI rr cw X ro co hi i (cw)) := by
    refine LRa_by (fun k => LRaI rr cw X ro co hi i k) (fun k => k ≤ cw) (fun k => cw - k) (by simp) ?_ 0 (Nat.zero_le _)
    intro k hi_
    by_cases h0 : (k : Int) < ((cw : Nat) : Int)
    · exact .inl ⟨k + 1, by omega, by omega, LRa_rt rr cw X ro co hi i k hrr hcw hro hco hX hil hi_ h0⟩
    · have e : k = cw := by omega
      have x := LRa_xf rr cw X ro co hi i k hrr hcw hro hco hX hil hi_ h0
      refine .inr ?_
      rw [e] at x ⊢
      exact x
  exact h
end Go.Proofs.Ytohleiikedpmkaa.Vm

namespace Go.Proofs.Ytohleiikedpmkaa.Vm
open Go Go.Proofs Go.Proofs.Ytohleiikedpmkaa
set_option maxRecDepth 100000
noncomputable def LRbI (rr cw : Nat) (X : Nat → Nat → Int) (ro co : Int) (hi : Bool) (i : Nat) : S0 :=
  ⟨[(1, (.c (.ptr 3 0 0))), (2, (.c (.bool (false)))), (3, (.c (.int .i64 (i : Int))))], [(1, (.one ⟨false, false, (.gen rr (fun j_ => (.sl 2 j_ 0 cw 4)))⟩)), (2, (.many (fun j_ => some ⟨false, false, (.ig (W.rl rr (cw * 4) j_) W.ck (fun p_ => (X j_ p_)))⟩))), (3, (.one ⟨true, true, (.cells [(.int .i64 (↑rr)), (.int .i64 (↑cw)), (.sl 1 0 0 rr 1), (.int .i64 ro), (.int .i64 co), (.bool hi)])⟩))], 675⟩
theorem LRb_by {α : Type} (I : α → S0) (Inv : α → Prop) (μ : α → Nat) {ex : Ex} {s' : S0} (hex : ex ≠ .normal)
    (step : ∀ x, Inv x → (∃ y, Inv y ∧ μ y < μ x ∧ CodeOk Try.prog 74 659 (kAt (kOf Try.prog Try.f20) [true, true, false, true, false, false]) (I x) .normal (I y)) ∨ CodeOk Try.prog 74 659 (kAt (kOf Try.prog Try.f20) [true, true, false, true, false, false]) (I x) ex s') (x : α) (hx : Inv x) :
    CodeOk Try.prog 74 659 (kAt (kOf Try.prog Try.f20) [true, true, false, true, false]) (I x) ex s' := by
  have hk : (kAt (kOf Try.prog Try.f20) [true, true, false, true, false]) = .loop (kAt (kOf Try.prog Try.f20) [true, true, false, true, false, false]) := by kernel_rfl
  rw [hk]
  exact CodeOk.loop I Inv μ hex step x hx
noncomputable def LRb0 (rr cw : Nat) (X : Nat → Nat → Int) (ro co : Int) (hi : Bool) : S0 :=
  ⟨[(1, (.c (.ptr 3 0 0))), (2, (.c (.bool (false)))), (3, (.c (.int .i64 0)))], [(1, (.one ⟨false, false, (.gen rr (fun j_ => (.sl 2 j_ 0 cw 4)))⟩)), (2, (.many (fun j_ => some ⟨false, false, (.ig (W.rl rr (cw * 4) j_) W.ck (fun p_ => (X j_ p_)))⟩))), (3, (.one ⟨true, true, (.cells [(.int .i64 (↑rr)), (.int .i64 (↑cw)), (.sl 1 0 0 rr 1), (.int .i64 ro), (.int .i64 co), (.bool hi)])⟩))], 659⟩
theorem LRb_rt (rr cw : Nat) (X : Nat → Nat → Int) (ro co : Int) (hi : Bool) (i : Nat)
    (hrr : 1 ≤ rr ∧ rr ≤ 60)
    (hcw : 1 ≤ cw ∧ cw ≤ 120)
    (hro : 0 ≤ ro ∧ ro < rr)
    (hco : 0 ≤ co ∧ co < cw)
    (hX : ∀ j, j < rr → W.okRow (X j) cw)
    (hil : i ≤ rr)
    (h0 : ((↑i : Int) < (↑rr : Int))) :
    CodeOk Try.prog 74 659 (kAt (kOf Try.prog Try.f20) [true, true, false, true, false, false]) (LRbI rr cw X ro co hi i) .normal (LRbI rr cw X ro co hi (i + 1)) :=
  CodeOk.of_runs (fuel := 300) (v := ⟨[1, 2, 3], [1, 2, 3], [], 675⟩) (hs := [(3, ⟨.auto, some (.c (.bool (true)))⟩), (8, ⟨.ask, none⟩), (9, ⟨.ask, none⟩), (13, ⟨.auto, some (.c (.bool (false)))⟩), (16, ⟨.sum ⟨[1, 3, 2, 4], [1, 2, 3], [], 100016⟩ (.exit 2) (LRaI rr cw X ro co hi i cw), none⟩), (18, ⟨.auto, some (.c (.int .i64 (↑(i + 1))))⟩)])
    (cs := [EI .i64 (IntKind.wrap IntKind.i64 ((↑i : Int) + 1)) ((↑(i + 1) : Int)),
      CodeOk Try.prog 74 899 (kAt (kOf Try.prog Try.f20) [true, true, false, true, false, false, true, false, false, true, true, false]) (LRaI rr cw X ro co hi i 0) (.exit 2) (LRaI rr cw X ro co hi i cw),
      EB ((↑cw : Int) != (↑cw : Int)) false,
      (i + (1 : Nat) ≤ rr),
      ((0 : Int) ≤ (↑i : Int) ∧ (↑i : Int) < (↑rr : Int)),
      EB (decide ((↑i : Int) < (↑rr : Int))) true])
    mixed (by kernel_rfl) ⟨.mk (by simp only [addO_eq, mulE_eq, mulE_one, Int.toNat_natCast, IntKind.wrap_i64, mmin, mmax]; omega), (CodeOk.mono (rs_inner rr cw X ro co hi i (by omega) (by omega) (by omega) (by omega) (by omega) (by omega)) (by decide)), .mk (bne_f (Decidable.of_not_not (by omega))), (by omega), (by omega), .mk (decide_eq_true h0), trivial⟩
theorem LRb_xf (rr cw : Nat) (X : Nat → Nat → Int) (ro co : Int) (hi : Bool) (i : Nat)
    (hrr : 1 ≤ rr ∧ rr ≤ 60)
    (hcw : 1 ≤ cw ∧ cw ≤ 120)
    (hro : 0 ≤ ro ∧ ro < rr)
    (hco : 0 ≤ co ∧ co < cw)
    (hX : ∀ j, j < rr → W.okRow (X j) cw)
    (hil : i ≤ rr)
    (h0 : (¬(↑i : Int) < (↑rr : Int))) :
    CodeOk Try.prog 74 659 (kAt (kOf Try.prog Try.f20) [true, true, false, true, false, false]) (LRbI rr cw X ro co hi i) (.exit 0) (LRbI rr cw X ro co hi i) :=
  CodeOk.of_runs (fuel := 300) (v := ⟨[1, 2, 3], [1, 2, 3], [], 675⟩) (hs := [(3, ⟨.auto, some (.c (.bool (false)))⟩)])
    (cs := [EB (decide ((↑i : Int) < (↑rr : Int))) false])
    mixed (by kernel_rfl) ⟨.mk (decide_eq_false h0), trivial⟩
end Go.Proofs.Ytohleiikedpmkaa.Vm

namespace Go.Proofs.Ytohleiikedpmkaa.Vm
open Go Go.Proofs Go.Proofs.Ytohleiikedpmkaa
theorem rs_loop (rr cw : Nat) (X : Nat → Nat → Int) (ro co : Int) (hi : Bool)
    (hrr : 1 ≤ rr ∧ rr ≤ 60)
    (hcw : 1 ≤ cw ∧ cw ≤ 120)
    (hro : 0 ≤ ro ∧ ro < rr)
    (hco : 0 ≤ co ∧ co < cw)
    (hX : ∀ j, j < rr → W.okRow (X j) cw)
    : CodeOk Try.prog 74 659 (kAt (kOf Try.prog Try.f20) [true, true, false, true, false]) (LRb0 rr cw X ro co hi) (.exit 0) (LRbI rr cw X ro co hi (rr)) := by
  have h : CodeOk Try.prog 74 659 (kAt (kOf Try.prog Try.f20) [true, true, false, true, false]) (LRbI rr cw X ro co hi 0) (.exit 0) (LRbI rr cw X ro co hi (rr)) := by
    refine LRb_by (fun i => LRbI rr cw X ro co hi i) (fun i => i ≤ rr) (fun i => rr - i) (by simp) ?_ 0 (Nat.zero_le _)
    intro i hi_
    by_cases h0 : (i : Int) < ((rr : Nat) : Int)
    · exact .inl ⟨i + 1, by omega, by omega, LRb_rt rr cw X ro co hi i hrr hcw hro hco hX hi_ h0⟩
    · have e : i = rr := by omega
      have x := LRb_xf rr cw X ro co hi i hrr hcw hro hco hX hi_ h0
      refine .inr ?_
      rw [e] at x ⊢
      exact x
  refine CodeOk.enter (Move.same (by decide) (by decide) (by decide) rfl ?_) h
  exact ⟨SameB.refl rfl, fun j k e => SameB.refl e, SameB.refl rfl, trivial⟩
end Go.Proofs.Ytohleiikedpmkaa.Vm

namespace Go.Proofs.Ytohleiikedpmkaa.Vm
open Go Go.Proofs Go.Proofs.Ytohleiikedpmkaa
set_option maxRecDepth 100000
theorem rs_ok (rr cw : Nat) (X : Nat → Nat → Int) (ro co : Int) (hi : Bool)
    (hrr : 1 ≤ rr ∧ rr ≤ 60)
    (hcw : 1 ≤ cw ∧ cw ≤ 120)
    (hro : 0 ≤ ro ∧ ro < rr)
    (hco : 0 ≤ co ∧ co < cw)
    (hX : ∀ j, j < rr → W.okRow (X j) cw) :
    Contract0 Try.prog 20 [(.agg [(.int .i64 (↑rr)), (.int .i64 (↑cw)), (.sl 1 0 0 rr 1), (.int .i64 ro), (.int .i64 co), (.bool hi)])] [(1, (.one ⟨false, false, (.gen rr (fun j_ => (.sl 2 j_ 0 cw 4)))⟩)), (2, (.many (fun j_ => some ⟨false, false, (.ig (W.rl rr (cw * 4) j_) W.ck (fun p_ => (X j_ p_)))⟩)))] 3 (.c (.bool (true))) [] [] :=
  Contract0.of_frunF (res := (.c (.bool (true)))) (up := []) (kill := []) (n0 := 3) (m := [(1, (.one ⟨false, false, (.gen rr (fun j_ => (.sl 2 j_ 0 cw 4)))⟩)), (2, (.many (fun j_ => some ⟨false, false, (.ig (W.rl rr (cw * 4) j_) W.ck (fun p_ => (X j_ p_)))⟩)))]) (args := [(.agg [(.int .i64 (↑rr)), (.int .i64 (↑cw)), (.sl 1 0 0 rr 1), (.int .i64 ro), (.int .i64 co), (.bool hi)])]) (fn := Try.f20) (c := bodyOf Try.f20) (fuel := 300) (k := kOf Try.prog Try.f20) (outs := []) (hs := [(6, ⟨.call [] (.c (.bool (true))) [] [], none⟩), (14, ⟨.auto, some (.c (.bool (false)))⟩), (19, ⟨.auto, some (.c (.bool (false)))⟩), (26, ⟨.auto, some (.c (.bool (false)))⟩), (31, ⟨.auto, some (.c (.bool (false)))⟩), (38, ⟨.auto, some (.c (.bool (false)))⟩), (42, ⟨.sum ⟨[1, 2, 3], [1, 2, 3], [], 659⟩ (.exit 0) (LRbI rr cw X ro co hi rr), none⟩)])
    (cs := [CodeOk Try.prog 74 659 (kAt (kOf Try.prog Try.f20) [true, true, false, true, false]) (LRb0 rr cw X ro co hi) (.exit 0) (LRbI rr cw X ro co hi rr),
      EB (decide (co ≥ (↑cw : Int))) false,
      EB (decide (co < 0)) false,
      EB (decide (ro ≥ (↑rr : Int))) false,
      EB (decide (ro < 0)) false,
      EB ((↑rr : Int) != (↑rr : Int)) false,
      Contract Try.prog 34 [(.c (.int .i64 (↑rr))), (.c (.int .i64 (↑cw)))] [] 99 (.c (.bool (true))) [] []])
    mixed Try.func20 (by kernel_rfl) (by kernel_rfl) (by kernel_rfl) ⟨rfl, (.inr (RoF.of (fun _ => rfl))), trivial⟩ (by kernel_rfl) ⟨(rs_loop rr cw X ro co hi (by omega) (by omega) (by omega) (by omega) (by omega)), .mk (decide_eq_false (by omega)), .mk (decide_eq_false (by omega)), .mk (decide_eq_false (by omega)), .mk (decide_eq_false (by omega)), .mk (bne_f (Decidable.of_not_not (by omega))), Contract0.in1 (rsize_ok ((↑rr : Int)) ((↑cw : Int)) (by omega) (by omega)) [] [none, none] [] [] (by kernel_rfl), trivial⟩
end Go.Proofs.Ytohleiikedpmkaa.Vm

namespace Go.Proofs.Ytohleiikedpmkaa.Vm
open Go Go.Proofs Go.Proofs.Ytohleiikedpmkaa
set_option maxRecDepth 100000
theorem sza_ttttttt (r c a b : Int)
    (h0 : (r ≥ (1 : Int)))
    (h1 : (r ≤ (60 : Int)))
    (h2 : (c ≥ (1 : Int)))
    (h3 : (c ≤ (120 : Int)))
    (h4 : (a ≥ (0 : Int)))
    (h5 : (a < r))
    (h6 : (b ≥ (0 : Int))) :
    PureF Try.prog 32 [(.c (.int .i64 r)), (.c (.int .i64 c)), (.c (.int .i64 a)), (.c (.int .i64 b))] (.c (.bool (decide (b < c)))) :=
  Contract0.fr 300 [(3, ⟨.auto, some (.c (.bool (true)))⟩), (7, ⟨.auto, some (.c (.bool (true)))⟩), (11, ⟨.auto, some (.c (.bool (true)))⟩), (15, ⟨.auto, some (.c (.bool (true)))⟩), (19, ⟨.auto, some (.c (.bool (true)))⟩), (24, ⟨.auto, some (.c (.bool (true)))⟩), (28, ⟨.auto, some (.c (.bool (true)))⟩)] [] [EB (decide (b ≥ 0)) true,
      EB (decide (a < r)) true,
      EB (decide (a ≥ 0)) true,
      EB (decide (c ≤ 120)) true,
      EB (decide (c ≥ 1)) true,
      EB (decide (r ≤ 60)) true,
      EB (decide (r ≥ 1)) true] mixed Try.func32 (by kernel_rfl) ⟨.mk (decide_eq_true h6), .mk (decide_eq_true h5), .mk (decide_eq_true h4), .mk (decide_eq_true h3), .mk (decide_eq_true h2), .mk (decide_eq_true h1), .mk (decide_eq_true h0), trivial⟩
theorem sza_ttttttf (r c a b : Int)
    (h0 : (r ≥ (1 : Int)))
    (h1 : (r ≤ (60 : Int)))
    (h2 : (c ≥ (1 : Int)))
    (h3 : (c ≤ (120 : Int)))
    (h4 : (a ≥ (0 : Int)))
    (h5 : (a < r))
    (h6 : (¬b ≥ (0 : Int))) :
    PureF Try.prog 32 [(.c (.int .i64 r)), (.c (.int .i64 c)), (.c (.int .i64 a)), (.c (.int .i64 b))] (.c (.bool (false))) :=
  Contract0.fr 300 [(3, ⟨.auto, some (.c (.bool (true)))⟩), (7, ⟨.auto, some (.c (.bool (true)))⟩), (11, ⟨.auto, some (.c (.bool (true)))⟩), (15, ⟨.auto, some (.c (.bool (true)))⟩), (19, ⟨.auto, some (.c (.bool (true)))⟩), (24, ⟨.auto, some (.c (.bool (true)))⟩), (28, ⟨.auto, some (.c (.bool (false)))⟩)] [] [EB (decide (b ≥ 0)) false,
      EB (decide (a < r)) true,
      EB (decide (a ≥ 0)) true,
      EB (decide (c ≤ 120)) true,
      EB (decide (c ≥ 1)) true,
      EB (decide (r ≤ 60)) true,
      EB (decide (r ≥ 1)) true] mixed Try.func32 (by kernel_rfl) ⟨.mk (decide_eq_false h6), .mk (decide_eq_true h5), .mk (decide_eq_true h4), .mk (decide_eq_true h3), .mk (decide_eq_true h2), .mk (decide_eq_true h1), .mk (decide_eq_true h0), trivial⟩
theorem sza_tttttf (r c a b : Int)
    (h0 : (r ≥ (1 : Int)))
    (h1 : (r ≤ (60 : Int)))
    (h2 : (c ≥ (1 : Int)))
    (h3 : (c ≤ (120 : Int)))
    (h4 : (a ≥ (0 : Int)))
    (h5 : (¬a < r)) :
    PureF Try.prog 32 [(.c (.int .i64 r)), (.c (.int .i64 c)), (.c (.int .i64 a)), (.c (.int .i64 b))] (.c (.bool (false))) :=
  Contract0.fr 300 [(3, ⟨.auto, some (.c (.bool (true)))⟩), (7, ⟨.auto, some (.c (.bool (true)))⟩), (11, ⟨.auto, some (.c (.bool (true)))⟩), (15, ⟨.auto, some (.c (.bool (true)))⟩), (19, ⟨.auto, some (.c (.bool (true)))⟩), (24, ⟨.auto, some (.c (.bool (false)))⟩)] [] [EB (decide (a < r)) false,
      EB (decide (a ≥ 0)) true,
      EB (decide (c ≤ 120)) true,
      EB (decide (c ≥ 1)) true,
      EB (decide (r ≤ 60)) true,
      EB (decide (r ≥ 1)) true] mixed Try.func32 (by kernel_rfl) ⟨.mk (decide_eq_false h5), .mk (decide_eq_true h4), .mk (decide_eq_true h3), .mk (decide_eq_true h2), .mk (decide_eq_true h1), .mk (decide_eq_true h0), trivial⟩
theorem sza_ttttf (r c a b : Int)
    (h0 : (r ≥ (1 : Int)))
    (h1 : (r ≤ (60 : Int)))
    (h2 : (c ≥ (1 : Int)))
    (h3 : (c ≤ (120 : Int)))
    (h4 : (¬a ≥ (0 : Int))) :
    PureF Try.prog 32 [(.c (.int .i64 r)), (.c (.int .i64 c)), (.c (.int .i64 a)), (.c (.int .i64 b))] (.c (.bool (false))) :=
  Contract0.fr 300 [(3, ⟨.auto, some (.c (.bool (true)))⟩), (7, ⟨.auto, some (.c (.bool (true)))⟩), (11, ⟨.auto, some (.c (.bool (true)))⟩), (15, ⟨.auto, some (.c (.bool (true)))⟩), (19, ⟨.auto, some (.c (.bool (false)))⟩)] [] [EB (decide (a ≥ 0)) false,
      EB (decide (c ≤ 120)) true,
      EB (decide (c ≥ 1)) true,
      EB (decide (r ≤ 60)) true,
      EB (decide (r ≥ 1)) true] mixed Try.func32 (by kernel_rfl) ⟨.mk (decide_eq_false h4), .mk (decide_eq_true h3), .mk (decide_eq_true h2), .mk (decide_eq_true h1), .mk (decide_eq_true h0), trivial⟩
theorem sza_tttf (r c a b : Int)
    (h0 : (r ≥ (1 : Int)))
    (h1 : (r ≤ (60 : Int)))
    (h2 : (c ≥ (1 : Int)))
    (h3 : (¬c ≤ (120 : Int))) :
    PureF Try.prog 32 [(.c (.int .i64 r)), (.c (.int .i64 c)), (.c (.int .i64 a)), (.c (.int .i64 b))] (.c (.bool (false))) :=
  Contract0.fr 300 [(3, ⟨.auto, some (.c (.bool (true)))⟩), (7, ⟨.auto, some (.c (.bool (true)))⟩), (11, ⟨.auto, some (.c (.bool (true)))⟩), (15, ⟨.auto, some (.c (.bool (false)))⟩)] [] [EB (decide (c ≤ 120)) false,
      EB (decide (c ≥ 1)) true,
      EB (decide (r ≤ 60)) true,
      EB (decide (r ≥ 1)) true] mixed Try.func32 (by kernel_rfl) ⟨.mk (decide_eq_false h3), .mk (decide_eq_true h2), .mk (decide_eq_true h1), .mk (decide_eq_true h0), trivial⟩
theorem sza_ttf (r c a b : Int)
    (h0 : (r ≥ (1 : Int)))
    (h1 : (r ≤ (60 : Int)))
    (h2 : (¬c ≥ (1 : Int))) :
    PureF Try.prog 32 [(.c (.int .i64 r)), (.c (.int .i64 c)), (.c (.int .i64 a)), (.c (.int .i64 b))] (.c (.bool (false))) :=
  Contract0.fr 300 [(3, ⟨.auto, some (.c (.bool (true)))⟩), (7, ⟨.auto, some (.c (.bool (true)))⟩), (11, ⟨.auto, some (.c (.bool (false)))⟩)] [] [EB (decide (c ≥ 1)) false,
      EB (decide (r ≤ 60)) true,
      EB (decide (r ≥ 1)) true] mixed Try.func32 (by kernel_rfl) ⟨.mk (decide_eq_false h2), .mk (decide_eq_true h1), .mk (decide_eq_true h0), trivial⟩
theorem sza_tf (r c a b : Int)
    (h0 : (r ≥ (1 : Int)))
    (h1 : (¬r ≤ (60 : Int))) :
    PureF Try.prog 32 [(.c (.int .i64 r)), (.c (.int .i64 c)), (.c (.int .i64 a)), (.c (.int .i64 b))] (.c (.bool (false))) :=
  Contract0.fr 300 [(3, ⟨.auto, some (.c (.bool (true)))⟩), (7, ⟨.auto, some (.c (.bool (false)))⟩)] [] [EB (decide (r ≤ 60)) false,
      EB (decide (r ≥ 1)) true] mixed Try.func32 (by kernel_rfl) ⟨.mk (decide_eq_false h1), .mk (decide_eq_true h0), trivial⟩
theorem sza_f (r c a b : Int)
    (h0 : (¬r ≥ (1 : Int))) :
    PureF Try.prog 32 [(.c (.int .i64 r)), (.c (.int .i64 c)), (.c (.int .i64 a)), (.c (.int .i64 b))] (.c (.bool (false))) :=
  Contract0.fr 300 [(3, ⟨.auto, some (.c (.bool (false)))⟩)] [] [EB (decide (r ≥ 1)) false] mixed Try.func32 (by kernel_rfl) ⟨.mk (decide_eq_false h0), trivial⟩
theorem rza_ttt (r c : Int)
    (h0 : (r ≥ (1 : Int)))
    (h1 : (r ≤ (60 : Int)))
    (h2 : (c ≥ (1 : Int))) :
    PureF Try.prog 34 [(.c (.int .i64 r)), (.c (.int .i64 c))] (.c (.bool (decide (c ≤ 120)))) :=
  Contract0.fr 300 [(3, ⟨.auto, some (.c (.bool (true)))⟩), (7, ⟨.auto, some (.c (.bool (true)))⟩), (11, ⟨.auto, some (.c (.bool (true)))⟩)] [] [EB (decide (c ≥ 1)) true,
      EB (decide (r ≤ 60)) true,
      EB (decide (r ≥ 1)) true] mixed Try.func34 (by kernel_rfl) ⟨.mk (decide_eq_true h2), .mk (decide_eq_true h1), .mk (decide_eq_true h0), trivial⟩
theorem rza_ttf (r c : Int)
    (h0 : (r ≥ (1 : Int)))
    (h1 : (r ≤ (60 : Int)))
    (h2 : (¬c ≥ (1 : Int))) :
    PureF Try.prog 34 [(.c (.int .i64 r)), (.c (.int .i64 c))] (.c (.bool (false))) :=
  Contract0.fr 300 [(3, ⟨.auto, some (.c (.bool (true)))⟩), (7, ⟨.auto, some (.c (.bool (true)))⟩), (11, ⟨.auto, some (.c (.bool (false)))⟩)] [] [EB (decide (c ≥ 1)) false,
      EB (decide (r ≤ 60)) true,
      EB (decide (r ≥ 1)) true] mixed Try.func34 (by kernel_rfl) ⟨.mk (decide_eq_false h2), .mk (decide_eq_true h1), .mk (decide_eq_true h0), trivial⟩
theorem rza_tf (r c : Int)
    (h0 : (r ≥ (1 : Int)))
    (h1 : (¬r ≤ (60 : Int))) :
    PureF Try.prog 34 [(.c (.int .i64 r)), (.c (.int .i64 c))] (.c (.bool (false))) :=
  Contract0.fr 300 [(3, ⟨.auto, some (.c (.bool (true)))⟩), (7, ⟨.auto, some (.c (.bool (false)))⟩)] [] [EB (decide (r ≤ 60)) false,
      EB (decide (r ≥ 1)) true] mixed Try.func34 (by kernel_rfl) ⟨.mk (decide_eq_false h1), .mk (decide_eq_true h0), trivial⟩
theorem rza_f (r c : Int)
    (h0 : (¬r ≥ (1 : Int))) :
    PureF Try.prog 34 [(.c (.int .i64 r)), (.c (.int .i64 c))] (.c (.bool (false))) :=
  Contract0.fr 300 [(3, ⟨.auto, some (.c (.bool (false)))⟩)] [] [EB (decide (r ≥ 1)) false] mixed Try.func34 (by kernel_rfl) ⟨.mk (decide_eq_false h0), trivial⟩
noncomputable def LVeI (X X2 : Nat → Int) (n N N2 i : Nat) : S0 :=
  ⟨[(0, (.c (.sl 1 0 0 n 4))), (1, (.c (.sl 2 0 0 n 4))), (12, (.c (.int .i64 (↑n)))), (4, (.c (.bool (false)))), (13, (.c (.int .i64 (i : Int))))], [(1, (.one ⟨false, false, (.ig N W.ck X)⟩)), (2, (.one ⟨false, false, (.ig N2 W.ck X2)⟩))], 163⟩
theorem LVe_by {α : Type} (I : α → S0) (Inv : α → Prop) (μ : α → Nat) {ex : Ex} {s' : S0} (hex : ex ≠ .normal)
    (step : ∀ x, Inv x → (∃ y, Inv y ∧ μ y < μ x ∧ CodeOk Try.prog 26 147 (kAt (kOf Try.prog Try.f38) [true, true, false, true, false, false]) (I x) .normal (I y)) ∨ CodeOk Try.prog 26 147 (kAt (kOf Try.prog Try.f38) [true, true, false, true, false, false]) (I x) ex s') (x : α) (hx : Inv x) :
    CodeOk Try.prog 26 147 (kAt (kOf Try.prog Try.f38) [true, true, false, true, false]) (I x) ex s' := by
  have hk : (kAt (kOf Try.prog Try.f38) [true, true, false, true, false]) = .loop (kAt (kOf Try.prog Try.f38) [true, true, false, true, false, false]) := by kernel_rfl
  rw [hk]
  exact CodeOk.loop I Inv μ hex step x hx
noncomputable def LVe0 (X X2 : Nat → Int) (n N N2 : Nat) : S0 :=
  ⟨[(0, (.c (.sl 1 0 0 n 4))), (1, (.c (.sl 2 0 0 n 4))), (12, (.c (.int .i64 (↑n)))), (4, (.c (.bool (false)))), (13, (.c (.int .i64 0)))], [(1, (.one ⟨false, false, (.ig N W.ck X)⟩)), (2, (.one ⟨false, false, (.ig N2 W.ck X2)⟩))], 147⟩
theorem LVe_rtt (X X2 : Nat → Int) (n N N2 i : Nat)
    (hN : n * 4 ≤ N)
    (hN2 : n * 4 ≤ N2)
    (hn : n ≤ 1048576)
    (hil : i ≤ n)
    (h0 : ((↑i : Int) < (↑n : Int)))
    (h1 : ((X (i * (4 : Nat)) == X2 (i * (4 : Nat)) && (X (i * (4 : Nat) + (1 : Nat)) == X2 (i * (4 : Nat) + (1 : Nat)) && (X (i * (4 : Nat) + (2 : Nat)) == X2 (i * (4 : Nat) + (2 : Nat)) && (X (i * (4 : Nat) + (3 : Nat)) == X2 (i * (4 : Nat) + (3 : Nat)) && true)))) = true)) :
    CodeOk Try.prog 26 147 (kAt (kOf Try.prog Try.f38) [true, true, false, true, false, false]) (LVeI X X2 n N N2 i) .normal (LVeI X X2 n N N2 (i + 1)) :=
  CodeOk.of_runs (fuel := 300) (v := ⟨[0, 1, 12, 4, 13], [1, 2], [], 163⟩) (hs := [(0, ⟨.auto, some (.c (.bool (true)))⟩), (6, ⟨.ask, none⟩), (7, ⟨.ask, some (.agg [(.int .i32 (X (i * 4))), (.int .i64 (X (i * 4 + 1))), (.int .i64 (X (i * 4 + 2))), (.int .i64 (X (i * 4 + 3)))])⟩), (10, ⟨.ask, none⟩), (11, ⟨.ask, some (.agg [(.int .i32 (X2 (i * 4))), (.int .i64 (X2 (i * 4 + 1))), (.int .i64 (X2 (i * 4 + 2))), (.int .i64 (X2 (i * 4 + 3)))])⟩), (12, ⟨.auto, some (.c (.bool (false)))⟩), (14, ⟨.auto, some (.c (.int .i64 (↑(i + 1))))⟩)])
    (cs := [EI .i64 (IntKind.wrap IntKind.i64 ((↑i : Int) + 1)) ((↑(i + 1) : Int)),
      EB (!(X (i * 4) == X2 (i * 4) && (X (i * 4 + 1) == X2 (i * 4 + 1) && (X (i * 4 + 2) == X2 (i * 4 + 2) && (X (i * 4 + 3) == X2 (i * 4 + 3) && true))))) false,
      ((.agg ((List.range 4).map (fun p_ => .int (W.ck (p_ + i * 4)) (X2 (p_ + i * 4))))) : V) = (.agg [(.int .i32 (X2 (i * 4))), (.int .i64 (X2 (i * 4 + 1))), (.int .i64 (X2 (i * 4 + 2))), (.int .i64 (X2 (i * 4 + 3)))]),
      (i * (4 : Nat) + (4 : Nat) ≤ N2),
      ((0 : Int) ≤ (↑i : Int) ∧ (↑i : Int) < (↑n : Int)),
      ((.agg ((List.range 4).map (fun p_ => .int (W.ck (p_ + i * 4)) (X (p_ + i * 4))))) : V) = (.agg [(.int .i32 (X (i * 4))), (.int .i64 (X (i * 4 + 1))), (.int .i64 (X (i * 4 + 2))), (.int .i64 (X (i * 4 + 3)))]),
      (i * (4 : Nat) + (4 : Nat) ≤ N),
      ((0 : Int) ≤ (↑i : Int) ∧ (↑i : Int) < (↑n : Int)),
      EB (decide ((↑i : Int) < (↑n : Int))) true])
    mixed (by kernel_rfl) ⟨.mk (by simp only [addO_eq, mulE_eq, mulE_one, Int.toNat_natCast, IntKind.wrap_i64, mmin, mmax]; omega), .mk (not_f h1), EV.ck4 (g := (fun p_ => (X2 p_))) (o := (i * 4)) (by omega) (by omega), (by omega), (by omega), EV.ck4 (g := (fun p_ => (X p_))) (o := (i * 4)) (by omega) (by omega), (by omega), (by omega), .mk (decide_eq_true h0), trivial⟩
theorem LVe_xtf (X X2 : Nat → Int) (n N N2 i : Nat)
    (hN : n * 4 ≤ N)
    (hN2 : n * 4 ≤ N2)
    (hn : n ≤ 1048576)
    (hil : i ≤ n)
    (h0 : ((↑i : Int) < (↑n : Int)))
    (h1 : (¬(X (i * (4 : Nat)) == X2 (i * (4 : Nat)) && (X (i * (4 : Nat) + (1 : Nat)) == X2 (i * (4 : Nat) + (1 : Nat)) && (X (i * (4 : Nat) + (2 : Nat)) == X2 (i * (4 : Nat) + (2 : Nat)) && (X (i * (4 : Nat) + (3 : Nat)) == X2 (i * (4 : Nat) + (3 : Nat)) && true)))) = true)) :
    CodeOk Try.prog 26 147 (kAt (kOf Try.prog Try.f38) [true, true, false, true, false, false]) (LVeI X X2 n N N2 i) .ret ⟨[(0, (.c (.sl 1 0 0 n 4))), (1, (.c (.sl 2 0 0 n 4))), (12, (.c (.int .i64 (↑n)))), (4, (.c (.bool (false)))), (13, (.c (.int .i64 (↑i))))], [(1, (.one ⟨false, false, (.ig N W.ck X)⟩)), (2, (.one ⟨false, false, (.ig N2 W.ck X2)⟩))], 163⟩ :=
  CodeOk.of_runs (fuel := 300) (v := ⟨[0, 1, 12, 4, 13], [1, 2], [], 163⟩) (hs := [(0, ⟨.auto, some (.c (.bool (true)))⟩), (6, ⟨.ask, none⟩), (7, ⟨.ask, some (.agg [(.int .i32 (X (i * 4))), (.int .i64 (X (i * 4 + 1))), (.int .i64 (X (i * 4 + 2))), (.int .i64 (X (i * 4 + 3)))])⟩), (10, ⟨.ask, none⟩), (11, ⟨.ask, some (.agg [(.int .i32 (X2 (i * 4))), (.int .i64 (X2 (i * 4 + 1))), (.int .i64 (X2 (i * 4 + 2))), (.int .i64 (X2 (i * 4 + 3)))])⟩), (12, ⟨.auto, some (.c (.bool (true)))⟩)])
    (cs := [EB (!(X (i * 4) == X2 (i * 4) && (X (i * 4 + 1) == X2 (i * 4 + 1) && (X (i * 4 + 2) == X2 (i * 4 + 2) && (X (i * 4 + 3) == X2 (i * 4 + 3) && true))))) true,
      ((.agg ((List.range 4).map (fun p_ => .int (W.ck (p_ + i * 4)) (X2 (p_ + i * 4))))) : V) = (.agg [(.int .i32 (X2 (i * 4))), (.int .i64 (X2 (i * 4 + 1))), (.int .i64 (X2 (i * 4 + 2))), (.int .i64 (X2 (i * 4 + 3)))]),
      (i * (4 : Nat) + (4 : Nat) ≤ N2),
      ((0 : Int) ≤ (↑i : Int) ∧ (↑i : Int) < (↑n : Int)),
      ((.agg ((List.range 4).map (fun p_ => .int (W.ck (p_ + i * 4)) (X (p_ + i * 4))))) : V) = (.agg [(.int .i32 (X (i * 4))), (.int .i64 (X (i * 4 + 1))), (.int .i64 (X (i * 4 + 2))), (.int .i64 (X (i * 4 + 3)))]),
      (i * (4 : Nat) + (4 : Nat) ≤ N),
      ((0 : Int) ≤ (↑i : Int) ∧ (↑i : Int) < (↑n : Int)),
      EB (decide ((↑i : Int) < (↑n : Int))) true])
    mixed (by kernel_rfl) ⟨.mk (not_t (Bool.eq_false_iff.2 h1)), EV.ck4 (g := (fun p_ => (X2 p_))) (o := (i * 4)) (by omega) (by omega), (by omega), (by omega), EV.ck4 (g := (fun p_ => (X p_))) (o := (i * 4)) (by omega) (by omega), (by omega), (by omega), .mk (decide_eq_true h0), trivial⟩
noncomputable def LVfI (rr cw : Nat) (X X2 : Nat → Nat → Int) (i k : Nat) : S0 :=
  ⟨[(0, (.c (.sl 1 0 0 rr 1))), (1, (.c (.sl 3 0 0 rr 1))), (5, (.c (.int .i64 (i : Int)))), (4, (.c (.bool (false)))), (6, (.c (.int .i64 (k : Int))))], [(1, (.one ⟨false, false, (.gen rr (fun j_ => (.sl 2 j_ 0 cw 4)))⟩)), (2, (.many (fun j_ => some ⟨false, false, (.ig (W.rl rr (cw * 4) j_) W.ck (fun p_ => (X j_ p_)))⟩))), (3, (.one ⟨false, false, (.gen rr (fun j_ => (.sl 4 j_ 0 cw 4)))⟩)), (4, (.many (fun j_ => some ⟨false, false, (.ig (W.rl rr (cw * 4) j_) W.ck (fun p_ => (X2 j_ p_)))⟩)))], 100016⟩
theorem LVf_by {α : Type} (I : α → S0) (Inv : α → Prop) (μ : α → Nat) {ex : Ex} {s' : S0} (hex : ex ≠ .normal)
    (step : ∀ x, Inv x → (∃ y, Inv y ∧ μ y < μ x ∧ CodeOk Try.prog 53 100000 (kAt (kOf Try.prog Try.f36) [true, true, false, true, false, false, true, false, false, true, true, false, false]) (I x) .normal (I y)) ∨ CodeOk Try.prog 53 100000 (kAt (kOf Try.prog Try.f36) [true, true, false, true, false, false, true, false, false, true, true, false, false]) (I x) ex s') (x : α) (hx : Inv x) :
    CodeOk Try.prog 53 100000 (kAt (kOf Try.prog Try.f36) [true, true, false, true, false, false, true, false, false, true, true, false]) (I x) ex s' := by
  have hk : (kAt (kOf Try.prog Try.f36) [true, true, false, true, false, false, true, false, false, true, true, false]) = .loop (kAt (kOf Try.prog Try.f36) [true, true, false, true, false, false, true, false, false, true, true, false, false]) := by kernel_rfl
  rw [hk]
  exact CodeOk.loop I Inv μ hex step x hx
theorem LVf_rtt (rr cw : Nat) (X X2 : Nat → Nat → Int) (i k : Nat)
    (hrr : 1 ≤ rr ∧ rr ≤ 60)
    (hcw : 1 ≤ cw ∧ cw ≤ 120)
    (hil : i < rr)
    (hk : k ≤ cw)
    (h0 : ((↑k : Int) < (↑cw : Int)))
    (h1 : ((X i (k * (4 : Nat)) == X2 i (k * (4 : Nat)) && (X i (k * (4 : Nat) + (1 : Nat)) == X2 i (k * (4 : Nat) + (1 : Nat)) && (X i (k * (4 : Nat) + (2 : Nat)) == X2 i (k * (4 : Nat) + (2 : Nat)) && (X i (k * (4 : Nat) + (3 : Nat)) == X2 i (k * (4 : Nat) + (3 : Nat)) && true)))) = true)) :
    CodeOk Try.prog 53 100000 (kAt (kOf Try.prog Try.f36) [true, true, false, true, false, false, true, false, false, true, true, false, false]) (LVfI rr cw X X2 i k) .normal (LVfI rr cw X X2 i (k + 1)) :=
  CodeOk.of_runs (fuel := 300) (v := ⟨[0, 1, 5, 4, 6], [1, 2, 3, 4], [], 100016⟩) (hs := [(3, ⟨.ask, none⟩), (4, ⟨.ask, none⟩), (6, ⟨.auto, some (.c (.bool (true)))⟩), (10, ⟨.ask, none⟩), (11, ⟨.ask, none⟩), (13, ⟨.ask, none⟩), (14, ⟨.ask, some (.agg [(.int .i32 (X i (k * 4))), (.int .i64 (X i (k * 4 + 1))), (.int .i64 (X i (k * 4 + 2))), (.int .i64 (X i (k * 4 + 3)))])⟩), (17, ⟨.ask, none⟩), (18, ⟨.ask, none⟩), (20, ⟨.ask, none⟩), (21, ⟨.ask, some (.agg [(.int .i32 (X2 i (k * 4))), (.int .i64 (X2 i (k * 4 + 1))), (.int .i64 (X2 i (k * 4 + 2))), (.int .i64 (X2 i (k * 4 + 3)))])⟩), (22, ⟨.auto, some (.c (.bool (false)))⟩), (25, ⟨.auto, some (.c (.int .i64 (↑(k + 1))))⟩)])
    (cs := [EI .i64 (IntKind.wrap IntKind.i64 ((↑k : Int) + 1)) ((↑(k + 1) : Int)),
      EB (!(X i (k * 4) == X2 i (k * 4) && (X i (k * 4 + 1) == X2 i (k * 4 + 1) && (X i (k * 4 + 2) == X2 i (k * 4 + 2) && (X i (k * 4 + 3) == X2 i (k * 4 + 3) && true))))) false,
      ((.agg ((List.range 4).map (fun p_ => .int (W.ck (p_ + k * 4)) (X2 i (p_ + k * 4))))) : V) = (.agg [(.int .i32 (X2 i (k * 4))), (.int .i64 (X2 i (k * 4 + 1))), (.int .i64 (X2 i (k * 4 + 2))), (.int .i64 (X2 i (k * 4 + 3)))]),
      (k * (4 : Nat) + (4 : Nat) ≤ W.rl rr (cw * (4 : Nat)) i),
      ((0 : Int) ≤ (↑k : Int) ∧ (↑k : Int) < (↑cw : Int)),
      (i + (1 : Nat) ≤ rr),
      ((0 : Int) ≤ (↑i : Int) ∧ (↑i : Int) < (↑rr : Int)),
      ((.agg ((List.range 4).map (fun p_ => .int (W.ck (p_ + k * 4)) (X i (p_ + k * 4))))) : V) = (.agg [(.int .i32 (X i (k * 4))), (.int .i64 (X i (k * 4 + 1))), (.int .i64 (X i (k * 4 + 2))), (.int .i64 (X i (k * 4 + 3)))]),
      (k * (4 : Nat) + (4 : Nat) ≤ W.rl rr (cw * (4 : Nat)) i),
      ((0 : Int) ≤ (↑k : Int) ∧ (↑k : Int) < (↑cw : Int)),
      (i + (1 : Nat) ≤ rr),
      ((0 : Int) ≤ (↑i : Int) ∧ (↑i : Int) < (↑rr : Int)),
      EB (decide ((↑k : Int) < (↑cw : Int))) true,
      (i + (1 : Nat) ≤ rr),
      ((0 : Int) ≤ (↑i : Int) ∧ (↑i : Int) < (↑rr : Int))])
    mixed (by kernel_rfl) ⟨.mk (by simp only [addO_eq, mulE_eq, mulE_one, Int.toNat_natCast, IntKind.wrap_i64, mmin, mmax]; omega), .mk (not_f h1), EV.ck4 (g := (fun p_ => (X2 i p_))) (o := (k * 4)) (by omega) (by omega), (by rw [rl_lt (by omega)]; omega), (by omega), (by omega), (by omega), EV.ck4 (g := (fun p_ => (X i p_))) (o := (k * 4)) (by omega) (by omega), (by rw [rl_lt (by omega)]; omega), (by omega), (by omega), (by omega), .mk (decide_eq_true h0), (by omega), (by omega), trivial⟩
theorem LVf_xtf (rr cw : Nat) (X X2 : Nat → Nat → Int) (i k : Nat)
    (hrr : 1 ≤ rr ∧ rr ≤ 60)
    (hcw : 1 ≤ cw ∧ cw ≤ 120)
    (hil : i < rr)
    (hk : k ≤ cw)
    (h0 : ((↑k : Int) < (↑cw : Int)))
    (h1 : (¬(X i (k * (4 : Nat)) == X2 i (k * (4 : Nat)) && (X i (k * (4 : Nat) + (1 : Nat)) == X2 i (k * (4 : Nat) + (1 : Nat)) && (X i (k * (4 : Nat) + (2 : Nat)) == X2 i (k * (4 : Nat) + (2 : Nat)) && (X i (k * (4 : Nat) + (3 : Nat)) == X2 i (k * (4 : Nat) + (3 : Nat)) && true)))) = true)) :
    CodeOk Try.prog 53 100000 (kAt (kOf Try.prog Try.f36) [true, true, false, true, false, false, true, false, false, true, true, false, false]) (LVfI rr cw X X2 i k) .ret ⟨[(0, (.c (.sl 1 0 0 rr 1))), (1, (.c (.sl 3 0 0 rr 1))), (5, (.c (.int .i64 (↑i)))), (4, (.c (.bool (false)))), (6, (.c (.int .i64 (↑k))))], [(1, (.one ⟨false, false, (.gen rr (fun j_ => (.sl 2 j_ 0 cw 4)))⟩)), (2, (.many (fun j_ => some ⟨false, false, (.ig (W.rl rr (cw * 4) j_) W.ck (fun p_ => (X j_ p_)))⟩))), (3, (.one ⟨false, false, (.gen rr (fun j_ => (.sl 4 j_ 0 cw 4)))⟩)), (4, (.many (fun j_ => some ⟨false, false, (.ig (W.rl rr (cw * 4) j_) W.ck (fun p_ => (X2 j_ p_)))⟩)))], 100016⟩ :=
  CodeOk.of_runs (fuel := 300) (v := ⟨[0, 1, 5, 4, 6], [1, 2, 3, 4], [], 100016⟩) (hs := [(3, ⟨.ask, none⟩), (4, ⟨.ask, none⟩), (6, ⟨.auto, some (.c (.bool (true)))⟩), (10, ⟨.ask, none⟩), (11, ⟨.ask, none⟩), (13, ⟨.ask, none⟩), (14, ⟨.ask, some (.agg [(.int .i32 (X i (k * 4))), (.int .i64 (X i (k * 4 + 1))), (.int .i64 (X i (k * 4 + 2))), (.int .i64 (X i (k * 4 + 3)))])⟩), (17, ⟨.ask, none⟩), (18, ⟨.ask, none⟩), (20, ⟨.ask, none⟩), (21, ⟨.ask, some (.agg [(.int .i32 (X2 i (k * 4))), (.int .i64 (X2 i (k * 4 + 1))), (.int .i64 (X2 i (k * 4 + 2))), (.int .i64 (X2 i (k * 4 + 3)))])⟩), (22, ⟨.auto, some (.c (.bool (true)))⟩)])
    (cs := [EB (!(X i (k * 4) == X2 i (k * 4) && (X i (k * 4 + 1) == X2 i (k * 4 + 1) && (X i (k * 4 + 2) == X2 i (k * 4 + 2) && (X i (k * 4 + 3) == X2 i (k * 4 + 3) && true))))) true,
      ((.agg ((List.range 4).map (fun p_ => .int (W.ck (p_ + k * 4)) (X2 i (p_ + k * 4))))) : V) = (.agg [(.int .i32 (X2 i (k * 4))), (.int .i64 (X2 i (k * 4 + 1))), (.int .i64 (X2 i (k * 4 + 2))), (.int .i64 (X2 i (k * 4 + 3)))]),
      (k * (4 : Nat) + (4 : Nat) ≤ W.rl rr (cw * (4 : Nat)) i),
      ((0 : Int) ≤ (↑k : Int) ∧ (↑k : Int) < (↑cw : Int)),
      (i + (1 : Nat) ≤ rr),
      ((0 : Int) ≤ (↑i : Int) ∧ (↑i : Int) < (↑rr : Int)),
      ((.agg ((List.range 4).map (fun p_ => .int (W.ck (p_ + k * 4)) (X i (p_ + k * 4))))) : V) = (.agg [(.int .i32 (X i (k * 4))), (.int .i64 (X i (k * 4 + 1))), (.int .i64 (X i (k * 4 + 2))), (.int .i64 (X i (k * 4 + 3)))]),
      (k * (4 : Nat) + (4 : Nat) ≤ W.rl rr (cw * (4 : Nat)) i),
      ((0 : Int) ≤ (↑k : Int) ∧ (↑k : Int) < (↑cw : Int)),
      (i + (1 : Nat) ≤ rr),
      ((0 : Int) ≤ (↑i : Int) ∧ (↑i : Int) < (↑rr : Int)),
      EB (decide ((↑k : Int) < (↑cw : Int))) true,
      (i + (1 : Nat) ≤ rr),
      ((0 : Int) ≤ (↑i : Int) ∧ (↑i : Int) < (↑rr : Int))])
    mixed (by kernel_rfl) ⟨.mk (not_t (Bool.eq_false_iff.2 h1)), EV.ck4 (g := (fun p_ => (X2 i p_))) (o := (k * 4)) (by omega) (by omega), (by rw [rl_lt (by omega)]; omega), (by omega), (by omega), (by omega), EV.ck4 (g := (fun p_ => (X i p_))) (o := (k * 4)) (by omega) (by omega), (by rw [rl_lt (by omega)]; omega), (by omega), (by omega), (by omega), .mk (decide_eq_true h0), (by omega), (by omega), trivial⟩
theorem LVf_xf (rr cw : Nat) (X X2 : Nat → Nat → Int) (i k : Nat)
    (hrr : 1 ≤ rr ∧ rr ≤ 60)
    (hcw : 1 ≤ cw ∧ cw ≤ 120)
    (hil : i < rr)
    (hk : k ≤ cw)
    (h0 : (¬(↑k : Int) < (↑cw : Int))) :
    CodeOk Try.prog 53 100000 (kAt (kOf Try.prog Try.f36) [true, true, false, true, false, false, true, false, false, true, true, false, false]) (LVfI rr cw X X2 i k) (.exit 2) (LVfI rr cw X X2 i k) :=
  CodeOk.of_runs (fuel := 300) (v := ⟨[0, 1, 5, 4, 6], [1, 2, 3, 4], [], 100016⟩) (hs := [(3, ⟨.ask, none⟩), (4, ⟨.ask, none⟩), (6, ⟨.auto, some (.c (.bool (false)))⟩)])
    (cs := [EB (decide ((↑k : Int) < (↑cw : Int))) false,
      (i + (1 : Nat) ≤ rr),
      ((0 : Int) ≤ (↑i : Int) ∧ (↑i : Int) < (↑rr : Int))])
    mixed (by kernel_rfl) ⟨.mk (decide_eq_false h0), (by omega), (by omega), trivial⟩
end Go.Proofs.Ytohleiikedpmkaa.Vm

namespace Go.Proofs.Ytohleiikedpmkaa.W
def eqR (X X2 : Nat → Int) (n : Nat) : Bool := decide (∀ p, p < n * 4 → X p = X2 p)
def eqS (rr cw : Nat) (X X2 : Nat → Nat → Int) : Bool := decide (∀ j, j < rr → ∀ p, p < cw * 4 → X j p = X2 j p)
def szB (r c a b : Int) : Bool := decide (1 ≤ r ∧ r ≤ 60 ∧ 1 ≤ c ∧ c ≤ 120 ∧ 0 ≤ a ∧ a < r ∧ 0 ≤ b ∧ b < c)
def rzB (r c : Int) : Bool := decide (1 ≤ r ∧ r ≤ 60 ∧ 1 ≤ c ∧ c ≤ 120)
end Go.Proofs.Ytohleiikedpmkaa.W
namespace Go.Proofs.Ytohleiikedpmkaa.Vm
open Go Go.Proofs Go.Proofs.Ytohleiikedpmkaa
theorem dec_t {p : Prop} [Decidable p] {b : Bool} (h : b = true ↔ p) : b = decide p := by
  by_cases hp : p
  · rw [decide_eq_true hp]; exact h.2 hp
  · rw [decide_eq_false hp]
    cases b with
    | false => rfl
    | true => exact absurd (h.1 rfl) hp
theorem size_any (r c a b : Int) : PureF Try.prog 32 [(.c (.int .i64 r)), (.c (.int .i64 c)), (.c (.int .i64 a)), (.c (.int .i64 b))] (.c (.bool (W.szB r c a b))) := by
  unfold W.szB
  by_cases h0 : r ≥ 1
  · by_cases h1 : r ≤ 60
    · by_cases h2 : c ≥ 1
      · by_cases h3 : c ≤ 120
        · by_cases h4 : a ≥ 0
          · by_cases h5 : a < r
            · by_cases h6 : b ≥ 0
              · have := sza_ttttttt r c a b h0 h1 h2 h3 h4 h5 h6
                rwa [show (decide (b < c)) = decide (1 ≤ r ∧ r ≤ 60 ∧ 1 ≤ c ∧ c ≤ 120 ∧ 0 ≤ a ∧ a < r ∧ 0 ≤ b ∧ b < c) from dec_t (by rw [decide_eq_true_eq]; omega)] at this
              · rw [decide_eq_false (by omega)]; exact sza_ttttttf r c a b h0 h1 h2 h3 h4 h5 h6
            · rw [decide_eq_false (by omega)]; exact sza_tttttf r c a b h0 h1 h2 h3 h4 h5
          · rw [decide_eq_false (by omega)]; exact sza_ttttf r c a b h0 h1 h2 h3 h4
        · rw [decide_eq_false (by omega)]; exact sza_tttf r c a b h0 h1 h2 h3
      · rw [decide_eq_false (by omega)]; exact sza_ttf r c a b h0 h1 h2
    · rw [decide_eq_false (by omega)]; exact sza_tf r c a b h0 h1
  · rw [decide_eq_false (by omega)]; exact sza_f r c a b h0
theorem rsize_any (r c : Int) : PureF Try.prog 34 [(.c (.int .i64 r)), (.c (.int .i64 c))] (.c (.bool (W.rzB r c))) := by
  unfold W.rzB
  by_cases h0 : r ≥ 1
  · by_cases h1 : r ≤ 60
    · by_cases h2 : c ≥ 1
      · have := rza_ttt r c h0 h1 h2
        rwa [show (decide (c ≤ 120)) = decide (1 ≤ r ∧ r ≤ 60 ∧ 1 ≤ c ∧ c ≤ 120) from dec_t (by rw [decide_eq_true_eq]; omega)] at this
      · rw [decide_eq_false (by omega)]; exact rza_ttf r c h0 h1 h2
    · rw [decide_eq_false (by omega)]; exact rza_tf r c h0 h1
  · rw [decide_eq_false (by omega)]; exact rza_f r c h0
theorem eq4_get {a0 a1 a2 a3 b0 b1 b2 b3 : Int} (h : (a0 == b0 && (a1 == b1 && (a2 == b2 && (a3 == b3 && true)))) = true) : a0 = b0 ∧ a1 = b1 ∧ a2 = b2 ∧ a3 = b3 := by
  simpa using h
theorem eq4_up {X X2 : Nat → Int} {i : Nat} (h : ∀ p, p < i * 4 → X p = X2 p) (h1 : (X (i * (4 : Nat)) == X2 (i * (4 : Nat)) && (X (i * (4 : Nat) + (1 : Nat)) == X2 (i * (4 : Nat) + (1 : Nat)) && (X (i * (4 : Nat) + (2 : Nat)) == X2 (i * (4 : Nat) + (2 : Nat)) && (X (i * (4 : Nat) + (3 : Nat)) == X2 (i * (4 : Nat) + (3 : Nat)) && true)))) = true) : ∀ p, p < (i + 1) * 4 → X p = X2 p := by
  obtain ⟨a, b, c, d⟩ := eq4_get h1
  intro p hp
  by_cases hlt : p < i * 4
  · exact h p hlt
  · rcases (by omega : p = i * 4 ∨ p = i * 4 + 1 ∨ p = i * 4 + 2 ∨ p = i * 4 + 3) with e | e | e | e <;> rw [e]
    · exact a
    · exact b
    · exact c
    · exact d
theorem equal_nloop (X X2 : Nat → Int) (n N N2 : Nat) (hN : n * 4 ≤ N) (hN2 : n * 4 ≤ N2) (hn : n ≤ 1048576) (hD : ¬ ∀ p, p < n * 4 → X p = X2 p) :
    CodeOk Try.prog 26 147 (kAt (kOf Try.prog Try.f38) [true, true, false, true, false]) (LVe0 X X2 n N N2) .ret ⟨[(4, (.c (.bool (false))))], [], 163⟩ := by
  have h : CodeOk Try.prog 26 147 (kAt (kOf Try.prog Try.f38) [true, true, false, true, false]) (LVeI X X2 n N N2 0) .ret ⟨[(4, (.c (.bool (false))))], [], 163⟩ := by
    refine LVe_by (fun i => LVeI X X2 n N N2 i) (fun i => i ≤ n ∧ ∀ p, p < i * 4 → X p = X2 p) (fun i => n - i) (by simp) ?_ 0 ⟨Nat.zero_le _, fun p hp => by omega⟩
    intro i ⟨hi, he⟩
    by_cases h0 : (i : Int) < (n : Int)
    · by_cases h1 : (X (i * (4 : Nat)) == X2 (i * (4 : Nat)) && (X (i * (4 : Nat) + (1 : Nat)) == X2 (i * (4 : Nat) + (1 : Nat)) && (X (i * (4 : Nat) + (2 : Nat)) == X2 (i * (4 : Nat) + (2 : Nat)) && (X (i * (4 : Nat) + (3 : Nat)) == X2 (i * (4 : Nat) + (3 : Nat)) && true)))) = true
      · exact .inl ⟨i + 1, ⟨by omega, eq4_up he h1⟩, by omega, LVe_rtt X X2 n N N2 i hN hN2 hn hi h0 h1⟩
      · exact .inr ((LVe_xtf X X2 n N N2 i hN hN2 hn hi h0 h1).move (Move.less (by decide) (by decide) (by decide) rfl ⟨rfl, trivial⟩ trivial))
    · have e : i = n := by omega
      rw [e] at he
      exact absurd he hD
  refine CodeOk.enter (Move.same (by decide) (by decide) (by decide) rfl ?_) h
  exact ⟨SameB.refl rfl, SameB.refl rfl, trivial⟩
theorem sla_eq (rr cw : Nat) (X X2 : Nat → Nat → Int) (i : Nat) (hrr : 1 ≤ rr ∧ rr ≤ 60) (hcw : 1 ≤ cw ∧ cw ≤ 120) (hil : i < rr) (hE : ∀ p, p < cw * 4 → X i p = X2 i p) :
    CodeOk Try.prog 53 100000 (kAt (kOf Try.prog Try.f36) [true, true, false, true, false, false, true, false, false, true, true, false]) (LVfI rr cw X X2 i 0) (.exit 2) (LVfI rr cw X X2 i cw) := by
  refine LVf_by (fun k => LVfI rr cw X X2 i k) (fun k => k ≤ cw) (fun k => cw - k) (by simp) ?_ 0 (Nat.zero_le _)
  intro k hk
  by_cases h0 : (k : Int) < (cw : Int)
  · exact .inl ⟨k + 1, by omega, by omega, LVf_rtt rr cw X X2 i k hrr hcw hil hk h0 (eq4 hE (by omega))⟩
  · have e : k = cw := by omega
    have x := LVf_xf rr cw X X2 i k hrr hcw hil hk h0
    refine .inr ?_
    rw [e] at x ⊢
    exact x
theorem sla_ne (rr cw : Nat) (X X2 : Nat → Nat → Int) (i : Nat) (hrr : 1 ≤ rr ∧ rr ≤ 60) (hcw : 1 ≤ cw ∧ cw ≤ 120) (hil : i < rr) (hD : ¬ ∀ p, p < cw * 4 → X i p = X2 i p) :
    CodeOk Try.prog 53 100000 (kAt (kOf Try.prog Try.f36) [true, true, false, true, false, false, true, false, false, true, true, false]) (LVfI rr cw X X2 i 0) .ret ⟨[(4, (.c (.bool (false))))], [], 100016⟩ := by
  refine LVf_by (fun k => LVfI rr cw X X2 i k) (fun k => k ≤ cw ∧ ∀ p, p < k * 4 → X i p = X2 i p) (fun k => cw - k) (by simp) ?_ 0 ⟨Nat.zero_le _, fun p hp => by omega⟩
  intro k ⟨hk, he⟩
  by_cases h0 : (k : Int) < (cw : Int)
  · by_cases h1 : (X i (k * (4 : Nat)) == X2 i (k * (4 : Nat)) && (X i (k * (4 : Nat) + (1 : Nat)) == X2 i (k * (4 : Nat) + (1 : Nat)) && (X i (k * (4 : Nat) + (2 : Nat)) == X2 i (k * (4 : Nat) + (2 : Nat)) && (X i (k * (4 : Nat) + (3 : Nat)) == X2 i (k * (4 : Nat) + (3 : Nat)) && true)))) = true
    · exact .inl ⟨k + 1, ⟨by omega, eq4_up he h1⟩, by omega, LVf_rtt rr cw X X2 i k hrr hcw hil hk h0 h1⟩
    · exact .inr ((LVf_xtf rr cw X X2 i k hrr hcw hil hk h0 h1).move (Move.less (by decide) (by decide) (by decide) rfl ⟨rfl, trivial⟩ trivial))
  · have e : k = cw := by omega
    rw [e] at he
    exact absurd he hD
end Go.Proofs.Ytohleiikedpmkaa.Vm

namespace Go.Proofs.Ytohleiikedpmkaa.Vm
open Go Go.Proofs Go.Proofs.Ytohleiikedpmkaa
set_option maxRecDepth 100000
theorem equal_n (X X2 : Nat → Int) (n N N2 : Nat)
    (hN : n * 4 ≤ N)
    (hN2 : n * 4 ≤ N2)
    (hn : n ≤ 1048576)
    (hD : ¬ ∀ p, p < n * 4 → X p = X2 p) :
    Contract0 Try.prog 38 [(.c (.sl 1 0 0 n 4)), (.c (.sl 2 0 0 n 4))] [(1, (.one ⟨false, false, (.ig N W.ck X)⟩)), (2, (.one ⟨false, false, (.ig N2 W.ck X2)⟩))] 3 (.c (.bool (false))) [] [] :=
  Contract0.fr 300 [(5, ⟨.auto, some (.c (.bool (false)))⟩), (10, ⟨.sum ⟨[0, 1, 12, 4, 13], [1, 2], [], 147⟩ (.ret) ({ tm := [(4, V.c (C.bool false))], me := [], nx := 163 }), none⟩)] [] [CodeOk Try.prog 26 147 (kAt (kOf Try.prog Try.f38) [true, true, false, true, false]) (LVe0 X X2 n N N2) (.ret) ({ tm := [(4, V.c (C.bool false))], me := [], nx := 163 }),
      EB ((↑n : Int) != (↑n : Int)) false] mixed Try.func38 (by kernel_rfl) ⟨(equal_nloop X X2 n N N2 (by omega) (by omega) (by omega) (by omega)), .mk (bne_f (Decidable.of_not_not (by omega))), trivial⟩
noncomputable def LVgI (rr cw : Nat) (X X2 : Nat → Nat → Int) (i : Nat) : S0 :=
  ⟨[(0, (.c (.sl 1 0 0 rr 1))), (1, (.c (.sl 3 0 0 rr 1))), (4, (.c (.bool (false)))), (5, (.c (.int .i64 (i : Int))))], [(1, (.one ⟨false, false, (.gen rr (fun j_ => (.sl 2 j_ 0 cw 4)))⟩)), (2, (.many (fun j_ => some ⟨false, false, (.ig (W.rl rr (cw * 4) j_) W.ck (fun p_ => (X j_ p_)))⟩))), (3, (.one ⟨false, false, (.gen rr (fun j_ => (.sl 4 j_ 0 cw 4)))⟩)), (4, (.many (fun j_ => some ⟨false, false, (.ig (W.rl rr (cw * 4) j_) W.ck (fun p_ => (X2 j_ p_)))⟩)))], 133⟩
theorem LVg_by {α : Type} (I : α → S0) (Inv : α → Prop) (μ : α → Nat) {ex : Ex} {s' : S0} (hex : ex ≠ .normal)
    (step : ∀ x, Inv x → (∃ y, Inv y ∧ μ y < μ x ∧ CodeOk Try.prog 53 117 (kAt (kOf Try.prog Try.f36) [true, true, false, true, false, false]) (I x) .normal (I y)) ∨ CodeOk Try.prog 53 117 (kAt (kOf Try.prog Try.f36) [true, true, false, true, false, false]) (I x) ex s') (x : α) (hx : Inv x) :
    CodeOk Try.prog 53 117 (kAt (kOf Try.prog Try.f36) [true, true, false, true, false]) (I x) ex s' := by
  have hk : (kAt (kOf Try.prog Try.f36) [true, true, false, true, false]) = .loop (kAt (kOf Try.prog Try.f36) [true, true, false, true, false, false]) := by kernel_rfl
  rw [hk]
  exact CodeOk.loop I Inv μ hex step x hx
noncomputable def LVg0 (rr cw : Nat) (X X2 : Nat → Nat → Int) : S0 :=
  ⟨[(0, (.c (.sl 1 0 0 rr 1))), (1, (.c (.sl 3 0 0 rr 1))), (4, (.c (.bool (false)))), (5, (.c (.int .i64 0)))], [(1, (.one ⟨false, false, (.gen rr (fun j_ => (.sl 2 j_ 0 cw 4)))⟩)), (2, (.many (fun j_ => some ⟨false, false, (.ig (W.rl rr (cw * 4) j_) W.ck (fun p_ => (X j_ p_)))⟩))), (3, (.one ⟨false, false, (.gen rr (fun j_ => (.sl 4 j_ 0 cw 4)))⟩)), (4, (.many (fun j_ => some ⟨false, false, (.ig (W.rl rr (cw * 4) j_) W.ck (fun p_ => (X2 j_ p_)))⟩)))], 117⟩
theorem LVg_rt (rr cw : Nat) (X X2 : Nat → Nat → Int) (i : Nat)
    (hrr : 1 ≤ rr ∧ rr ≤ 60)
    (hcw : 1 ≤ cw ∧ cw ≤ 120)
    (hil : i ≤ rr)
    (hE : i < rr → ∀ p, p < cw * 4 → X i p = X2 i p)
    (h0 : ((↑i : Int) < (↑rr : Int))) :
    CodeOk Try.prog 53 117 (kAt (kOf Try.prog Try.f36) [true, true, false, true, false, false]) (LVgI rr cw X X2 i) .normal (LVgI rr cw X X2 (i + 1)) :=
  CodeOk.of_runs (fuel := 300) (v := ⟨[0, 1, 4, 5], [1, 2, 3, 4], [], 133⟩) (hs := [(3, ⟨.auto, some (.c (.bool (true)))⟩), (7, ⟨.ask, none⟩), (8, ⟨.ask, none⟩), (12, ⟨.ask, none⟩), (13, ⟨.ask, none⟩), (15, ⟨.auto, some (.c (.bool (false)))⟩), (18, ⟨.sum ⟨[0, 1, 5, 4, 6], [1, 2, 3, 4], [], 100016⟩ (.exit 2) (LVfI rr cw X X2 i cw), none⟩), (20, ⟨.auto, some (.c (.int .i64 (↑(i + 1))))⟩)])
    (cs := [EI .i64 (IntKind.wrap IntKind.i64 ((↑i : Int) + 1)) ((↑(i + 1) : Int)),
      CodeOk Try.prog 53 389 (kAt (kOf Try.prog Try.f36) [true, true, false, true, false, false, true, false, false, true, true, false]) (LVfI rr cw X X2 i 0) (.exit 2) (LVfI rr cw X X2 i cw),
      EB ((↑cw : Int) != (↑cw : Int)) false,
      (i + (1 : Nat) ≤ rr),
      ((0 : Int) ≤ (↑i : Int) ∧ (↑i : Int) < (↑rr : Int)),
      (i + (1 : Nat) ≤ rr),
      ((0 : Int) ≤ (↑i : Int) ∧ (↑i : Int) < (↑rr : Int)),
      EB (decide ((↑i : Int) < (↑rr : Int))) true])
    mixed (by kernel_rfl) ⟨.mk (by simp only [addO_eq, mulE_eq, mulE_one, Int.toNat_natCast, IntKind.wrap_i64, mmin, mmax]; omega), (CodeOk.mono (sla_eq rr cw X X2 i (by omega) (by omega) (by omega) (by exact hE (by omega))) (by decide)), .mk (bne_f (Decidable.of_not_not (by omega))), (by omega), (by omega), (by omega), (by omega), .mk (decide_eq_true h0), trivial⟩
theorem LVg_xf (rr cw : Nat) (X X2 : Nat → Nat → Int) (i : Nat)
    (hrr : 1 ≤ rr ∧ rr ≤ 60)
    (hcw : 1 ≤ cw ∧ cw ≤ 120)
    (hil : i ≤ rr)
    (hE : i < rr → ∀ p, p < cw * 4 → X i p = X2 i p)
    (h0 : (¬(↑i : Int) < (↑rr : Int))) :
    CodeOk Try.prog 53 117 (kAt (kOf Try.prog Try.f36) [true, true, false, true, false, false]) (LVgI rr cw X X2 i) (.exit 0) (LVgI rr cw X X2 i) :=
  CodeOk.of_runs (fuel := 300) (v := ⟨[0, 1, 4, 5], [1, 2, 3, 4], [], 133⟩) (hs := [(3, ⟨.auto, some (.c (.bool (false)))⟩)])
    (cs := [EB (decide ((↑i : Int) < (↑rr : Int))) false])
    mixed (by kernel_rfl) ⟨.mk (decide_eq_false h0), trivial⟩
noncomputable def LVhI (rr cw : Nat) (X X2 : Nat → Nat → Int) (i : Nat) : S0 :=
  ⟨[(0, (.c (.sl 1 0 0 rr 1))), (1, (.c (.sl 3 0 0 rr 1))), (4, (.c (.bool (false)))), (5, (.c (.int .i64 (i : Int))))], [(1, (.one ⟨false, false, (.gen rr (fun j_ => (.sl 2 j_ 0 cw 4)))⟩)), (2, (.many (fun j_ => some ⟨false, false, (.ig (W.rl rr (cw * 4) j_) W.ck (fun p_ => (X j_ p_)))⟩))), (3, (.one ⟨false, false, (.gen rr (fun j_ => (.sl 4 j_ 0 cw 4)))⟩)), (4, (.many (fun j_ => some ⟨false, false, (.ig (W.rl rr (cw * 4) j_) W.ck (fun p_ => (X2 j_ p_)))⟩)))], 133⟩
theorem LVh_xt (rr cw : Nat) (X X2 : Nat → Nat → Int) (i : Nat)
    (hrr : 1 ≤ rr ∧ rr ≤ 60)
    (hcw : 1 ≤ cw ∧ cw ≤ 120)
    (hil : i ≤ rr)
    (hD : i < rr → ¬ ∀ p, p < cw * 4 → X i p = X2 i p)
    (h0 : ((↑i : Int) < (↑rr : Int))) :
    CodeOk Try.prog 53 117 (kAt (kOf Try.prog Try.f36) [true, true, false, true, false, false]) (LVhI rr cw X X2 i) .ret ⟨[(4, (.c (.bool (false))))], [], 133⟩ :=
  CodeOk.of_runs (fuel := 300) (v := ⟨[4], [1, 2, 3, 4], [], 133⟩) (hs := [(3, ⟨.auto, some (.c (.bool (true)))⟩), (7, ⟨.ask, none⟩), (8, ⟨.ask, none⟩), (12, ⟨.ask, none⟩), (13, ⟨.ask, none⟩), (15, ⟨.auto, some (.c (.bool (false)))⟩), (18, ⟨.sum ⟨[0, 1, 5, 4, 6], [1, 2, 3, 4], [], 100016⟩ (.ret) ({ tm := [(4, V.c (C.bool false))], me := [], nx := 100016 }), none⟩)])
    (cs := [CodeOk Try.prog 53 389 (kAt (kOf Try.prog Try.f36) [true, true, false, true, false, false, true, false, false, true, true, false]) (LVfI rr cw X X2 i 0) (.ret) ({ tm := [(4, V.c (C.bool false))], me := [], nx := 100016 }),
      EB ((↑cw : Int) != (↑cw : Int)) false,
      (i + (1 : Nat) ≤ rr),
      ((0 : Int) ≤ (↑i : Int) ∧ (↑i : Int) < (↑rr : Int)),
      (i + (1 : Nat) ≤ rr),
      ((0 : Int) ≤ (↑i : Int) ∧ (↑i : Int) < (↑rr : Int)),
      EB (decide ((↑i : Int) < (↑rr : Int))) true])
    mixed (by kernel_rfl) ⟨(CodeOk.mono (sla_ne rr cw X X2 i (by omega) (by omega) (by omega) (by exact hD (by omega))) (by decide)), .mk (bne_f (Decidable.of_not_not (by omega))), (by omega), (by omega), (by omega), (by omega), .mk (decide_eq_true h0), trivial⟩
end Go.Proofs.Ytohleiikedpmkaa.Vm

namespace Go.Proofs.Ytohleiikedpmkaa.Vm
open Go Go.Proofs Go.Proofs.Ytohleiikedpmkaa
theorem equal_any (X X2 : Nat → Int) (n N N2 : Nat) (hN : n * 4 ≤ N) (hN2 : n * 4 ≤ N2) (hn : n ≤ 1048576) :
    Contract0 Try.prog 38 [(.c (.sl 1 0 0 n 4)), (.c (.sl 2 0 0 n 4))] [(1, (.one ⟨false, false, (.ig N W.ck X)⟩)), (2, (.one ⟨false, false, (.ig N2 W.ck X2)⟩))] 3 (.c (.bool (W.eqR X X2 n))) [] [] := by
  unfold W.eqR
  by_cases h : ∀ p, p < n * 4 → X p = X2 p
  · rw [decide_eq_true h]; exact equal_ok X X2 n N N2 hN hN2 hn h
  · rw [decide_eq_false h]; exact equal_n X X2 n N N2 hN hN2 hn h
theorem slo_eq (rr cw : Nat) (X X2 : Nat → Nat → Int) (hrr : 1 ≤ rr ∧ rr ≤ 60) (hcw : 1 ≤ cw ∧ cw ≤ 120) (hE : ∀ j, j < rr → ∀ p, p < cw * 4 → X j p = X2 j p) :
    CodeOk Try.prog 53 117 (kAt (kOf Try.prog Try.f36) [true, true, false, true, false]) (LVg0 rr cw X X2) (.exit 0) (LVgI rr cw X X2 rr) := by
  have h : CodeOk Try.prog 53 117 (kAt (kOf Try.prog Try.f36) [true, true, false, true, false]) (LVgI rr cw X X2 0) (.exit 0) (LVgI rr cw X X2 rr) := by
    refine LVg_by (fun i => LVgI rr cw X X2 i) (fun i => i ≤ rr) (fun i => rr - i) (by simp) ?_ 0 (Nat.zero_le _)
    intro i hi
    by_cases h0 : (i : Int) < (rr : Int)
    · exact .inl ⟨i + 1, by omega, by omega, LVg_rt rr cw X X2 i hrr hcw hi (fun h => hE i h) h0⟩
    · have e : i = rr := by omega
      have x := LVg_xf rr cw X X2 i hrr hcw hi (fun h => hE i h) h0
      refine .inr ?_
      rw [e] at x ⊢
      exact x
  refine CodeOk.enter (Move.same (by decide) (by decide) (by decide) rfl ?_) h
  exact ⟨SameB.refl rfl, fun j k e => SameB.refl e, SameB.refl rfl, fun j k e => SameB.refl e, trivial⟩
theorem slo_ne (rr cw : Nat) (X X2 : Nat → Nat → Int) (hrr : 1 ≤ rr ∧ rr ≤ 60) (hcw : 1 ≤ cw ∧ cw ≤ 120) (hD : ¬ ∀ j, j < rr → ∀ p, p < cw * 4 → X j p = X2 j p) :
    CodeOk Try.prog 53 117 (kAt (kOf Try.prog Try.f36) [true, true, false, true, false]) (LVg0 rr cw X X2) .ret ⟨[(4, (.c (.bool (false))))], [], 133⟩ := by
  have h : CodeOk Try.prog 53 117 (kAt (kOf Try.prog Try.f36) [true, true, false, true, false]) (LVgI rr cw X X2 0) .ret ⟨[(4, (.c (.bool (false))))], [], 133⟩ := by
    refine LVg_by (fun i => LVgI rr cw X X2 i) (fun i => i ≤ rr ∧ ∀ j, j < i → ∀ p, p < cw * 4 → X j p = X2 j p) (fun i => rr - i) (by simp) ?_ 0 ⟨Nat.zero_le _, fun j hj => by omega⟩
    intro i ⟨hi, he⟩
    by_cases h0 : (i : Int) < (rr : Int)
    · by_cases h1 : ∀ p, p < cw * 4 → X i p = X2 i p
      · exact .inl ⟨i + 1, ⟨by omega, fun j hj => by
          by_cases e : j = i
          · rw [e]; exact h1
          · exact he j (by omega)⟩, by omega, LVg_rt rr cw X X2 i hrr hcw hi (fun _ => h1) h0⟩
      · exact .inr (LVh_xt rr cw X X2 i hrr hcw hi (fun _ => h1) h0)
    · have e : i = rr := by omega
      rw [e] at he
      exact absurd he hD
  refine CodeOk.enter (Move.same (by decide) (by decide) (by decide) rfl ?_) h
  exact ⟨SameB.refl rfl, fun j k e => SameB.refl e, SameB.refl rfl, fun j k e => SameB.refl e, trivial⟩
end Go.Proofs.Ytohleiikedpmkaa.Vm

namespace Go.Proofs.Ytohleiikedpmkaa.Vm
open Go Go.Proofs Go.Proofs.Ytohleiikedpmkaa
set_option maxRecDepth 100000
theorem sl_t (rr cw : Nat) (X X2 : Nat → Nat → Int)
    (hrr : 1 ≤ rr ∧ rr ≤ 60)
    (hcw : 1 ≤ cw ∧ cw ≤ 120)
    (hE : ∀ j, j < rr → ∀ p, p < cw * 4 → X j p = X2 j p) :
    Contract0 Try.prog 36 [(.c (.sl 1 0 0 rr 1)), (.c (.sl 3 0 0 rr 1))] [(1, (.one ⟨false, false, (.gen rr (fun j_ => (.sl 2 j_ 0 cw 4)))⟩)), (2, (.many (fun j_ => some ⟨false, false, (.ig (W.rl rr (cw * 4) j_) W.ck (fun p_ => (X j_ p_)))⟩))), (3, (.one ⟨false, false, (.gen rr (fun j_ => (.sl 4 j_ 0 cw 4)))⟩)), (4, (.many (fun j_ => some ⟨false, false, (.ig (W.rl rr (cw * 4) j_) W.ck (fun p_ => (X2 j_ p_)))⟩)))] 5 (.c (.bool (true))) [] [] :=
  Contract0.of_frunF (res := (.c (.bool (true)))) (up := []) (kill := []) (n0 := 5) (m := [(1, (.one ⟨false, false, (.gen rr (fun j_ => (.sl 2 j_ 0 cw 4)))⟩)), (2, (.many (fun j_ => some ⟨false, false, (.ig (W.rl rr (cw * 4) j_) W.ck (fun p_ => (X j_ p_)))⟩))), (3, (.one ⟨false, false, (.gen rr (fun j_ => (.sl 4 j_ 0 cw 4)))⟩)), (4, (.many (fun j_ => some ⟨false, false, (.ig (W.rl rr (cw * 4) j_) W.ck (fun p_ => (X2 j_ p_)))⟩)))]) (args := [(.c (.sl 1 0 0 rr 1)), (.c (.sl 3 0 0 rr 1))]) (fn := Try.f36) (c := bodyOf Try.f36) (fuel := 300) (k := kOf Try.prog Try.f36) (outs := []) (hs := [(5, ⟨.auto, some (.c (.bool (false)))⟩), (8, ⟨.sum ⟨[0, 1, 4, 5], [1, 2, 3, 4], [], 117⟩ (.exit 0) (LVgI rr cw X X2 rr), none⟩)])
    (cs := [CodeOk Try.prog 53 117 (kAt (kOf Try.prog Try.f36) [true, true, false, true, false]) (LVg0 rr cw X X2) (.exit 0) (LVgI rr cw X X2 rr),
      EB ((↑rr : Int) != (↑rr : Int)) false])
    mixed Try.func36 (by kernel_rfl) (by kernel_rfl) (by kernel_rfl) ⟨rfl, (.inr (RoF.of (fun _ => rfl))), rfl, (.inr (RoF.of (fun _ => rfl))), trivial⟩ (by kernel_rfl) ⟨(slo_eq rr cw X X2 (by omega) (by omega) (by omega)), .mk (bne_f (Decidable.of_not_not (by omega))), trivial⟩
theorem sl_n (rr cw : Nat) (X X2 : Nat → Nat → Int)
    (hrr : 1 ≤ rr ∧ rr ≤ 60)
    (hcw : 1 ≤ cw ∧ cw ≤ 120)
    (hE : ¬ ∀ j, j < rr → ∀ p, p < cw * 4 → X j p = X2 j p) :
    Contract0 Try.prog 36 [(.c (.sl 1 0 0 rr 1)), (.c (.sl 3 0 0 rr 1))] [(1, (.one ⟨false, false, (.gen rr (fun j_ => (.sl 2 j_ 0 cw 4)))⟩)), (2, (.many (fun j_ => some ⟨false, false, (.ig (W.rl rr (cw * 4) j_) W.ck (fun p_ => (X j_ p_)))⟩))), (3, (.one ⟨false, false, (.gen rr (fun j_ => (.sl 4 j_ 0 cw 4)))⟩)), (4, (.many (fun j_ => some ⟨false, false, (.ig (W.rl rr (cw * 4) j_) W.ck (fun p_ => (X2 j_ p_)))⟩)))] 5 (.c (.bool (false))) [] [] :=
  Contract0.of_frunF (res := (.c (.bool (false)))) (up := []) (kill := []) (n0 := 5) (m := [(1, (.one ⟨false, false, (.gen rr (fun j_ => (.sl 2 j_ 0 cw 4)))⟩)), (2, (.many (fun j_ => some ⟨false, false, (.ig (W.rl rr (cw * 4) j_) W.ck (fun p_ => (X j_ p_)))⟩))), (3, (.one ⟨false, false, (.gen rr (fun j_ => (.sl 4 j_ 0 cw 4)))⟩)), (4, (.many (fun j_ => some ⟨false, false, (.ig (W.rl rr (cw * 4) j_) W.ck (fun p_ => (X2 j_ p_)))⟩)))]) (args := [(.c (.sl 1 0 0 rr 1)), (.c (.sl 3 0 0 rr 1))]) (fn := Try.f36) (c := bodyOf Try.f36) (fuel := 300) (k := kOf Try.prog Try.f36) (outs := []) (hs := [(5, ⟨.auto, some (.c (.bool (false)))⟩), (8, ⟨.sum ⟨[0, 1, 4, 5], [1, 2, 3, 4], [], 117⟩ (.ret) ({ tm := [(4, V.c (C.bool false))], me := [], nx := 133 }), none⟩)])
    (cs := [CodeOk Try.prog 53 117 (kAt (kOf Try.prog Try.f36) [true, true, false, true, false]) (LVg0 rr cw X X2) (.ret) ({ tm := [(4, V.c (C.bool false))], me := [], nx := 133 }),
      EB ((↑rr : Int) != (↑rr : Int)) false])
    mixed Try.func36 (by kernel_rfl) (by kernel_rfl) (by kernel_rfl) ⟨rfl, (.inr (RoF.of (fun _ => rfl))), rfl, (.inr (RoF.of (fun _ => rfl))), trivial⟩ (by kernel_rfl) ⟨(slo_ne rr cw X X2 (by omega) (by omega) (by omega)), .mk (bne_f (Decidable.of_not_not (by omega))), trivial⟩
noncomputable def LViI (rr cw : Nat) (X X2 : Nat → Nat → Int) (i : Nat) : S0 :=
  ⟨[(1, (.c (.sl 3 0 0 rr 1))), (2, (.c (.fn 38 []))), (15, (.c (.sl 1 0 0 rr 1))), (16, (.c (.int .i64 (↑rr)))), (6, (.c (.bool (false)))), (17, (.c (.int .i64 (i : Int))))], [(1, (.one ⟨false, false, (.gen rr (fun j_ => (.sl 2 j_ 0 cw 4)))⟩)), (2, (.many (fun j_ => some ⟨false, false, (.ig (W.rl rr (cw * 4) j_) W.ck (fun p_ => (X j_ p_)))⟩))), (3, (.one ⟨false, false, (.gen rr (fun j_ => (.sl 4 j_ 0 cw 4)))⟩)), (4, (.many (fun j_ => some ⟨false, false, (.ig (W.rl rr (cw * 4) j_) W.ck (fun p_ => (X2 j_ p_)))⟩)))], 165⟩
theorem LVi_by {α : Type} (I : α → S0) (Inv : α → Prop) (μ : α → Nat) {ex : Ex} {s' : S0} (hex : ex ≠ .normal)
    (step : ∀ x, Inv x → (∃ y, Inv y ∧ μ y < μ x ∧ CodeOk Try.prog 32 149 (kAt (kOf Try.prog Try.f37) [true, true, false, true, false, false]) (I x) .normal (I y)) ∨ CodeOk Try.prog 32 149 (kAt (kOf Try.prog Try.f37) [true, true, false, true, false, false]) (I x) ex s') (x : α) (hx : Inv x) :
    CodeOk Try.prog 32 149 (kAt (kOf Try.prog Try.f37) [true, true, false, true, false]) (I x) ex s' := by
  have hk : (kAt (kOf Try.prog Try.f37) [true, true, false, true, false]) = .loop (kAt (kOf Try.prog Try.f37) [true, true, false, true, false, false]) := by kernel_rfl
  rw [hk]
  exact CodeOk.loop I Inv μ hex step x hx
noncomputable def LVi0 (rr cw : Nat) (X X2 : Nat → Nat → Int) : S0 :=
  ⟨[(1, (.c (.sl 3 0 0 rr 1))), (2, (.c (.fn 38 []))), (15, (.c (.sl 1 0 0 rr 1))), (16, (.c (.int .i64 (↑rr)))), (6, (.c (.bool (false)))), (17, (.c (.int .i64 0)))], [(1, (.one ⟨false, false, (.gen rr (fun j_ => (.sl 2 j_ 0 cw 4)))⟩)), (2, (.many (fun j_ => some ⟨false, false, (.ig (W.rl rr (cw * 4) j_) W.ck (fun p_ => (X j_ p_)))⟩))), (3, (.one ⟨false, false, (.gen rr (fun j_ => (.sl 4 j_ 0 cw 4)))⟩)), (4, (.many (fun j_ => some ⟨false, false, (.ig (W.rl rr (cw * 4) j_) W.ck (fun p_ => (X2 j_ p_)))⟩)))], 149⟩
theorem LVi_rtt (rr cw : Nat) (X X2 : Nat → Nat → Int) (i : Nat)
    (hrr : 1 ≤ rr ∧ rr ≤ 60)
    (hcw : 1 ≤ cw ∧ cw ≤ 120)
    (hil : i ≤ rr)
    (h0 : ((↑i : Int) < (↑rr : Int)))
    (h1 : (W.eqR (fun p_ => X i p_) (fun p_ => X2 i p_) cw = true)) :
    CodeOk Try.prog 32 149 (kAt (kOf Try.prog Try.f37) [true, true, false, true, false, false]) (LViI rr cw X X2 i) .normal (LViI rr cw X X2 (i + 1)) :=
  CodeOk.of_runs (fuel := 300) (v := ⟨[1, 2, 15, 16, 6, 17], [1, 2, 3, 4], [], 165⟩) (hs := [(0, ⟨.auto, some (.c (.bool (true)))⟩), (3, ⟨.ask, none⟩), (4, ⟨.ask, none⟩), (9, ⟨.ask, none⟩), (10, ⟨.ask, none⟩), (15, ⟨.call [2, 4] (.c (.bool (W.eqR (fun p_ => X i p_) (fun p_ => X2 i p_) cw))) [] [], none⟩), (16, ⟨.auto, some (.c (.bool (false)))⟩), (18, ⟨.auto, some (.c (.int .i64 (↑(i + 1))))⟩)])
    (cs := [EI .i64 (IntKind.wrap IntKind.i64 ((↑i : Int) + 1)) ((↑(i + 1) : Int)),
      EB (!W.eqR (fun p_ => X i p_) (fun p_ => X2 i p_) cw) false,
      Contract Try.prog 38 [(.c (.sl 2 i 0 cw 4)), (.c (.sl 4 i 0 cw 4))] [(2, (.many (fun j_ => some ⟨false, false, (.ig (W.rl rr (cw * 4) j_) W.ck (fun p_ => (X j_ p_)))⟩))), (4, (.many (fun j_ => some ⟨false, false, (.ig (W.rl rr (cw * 4) j_) W.ck (fun p_ => (X2 j_ p_)))⟩)))] 389 (.c (.bool (W.eqR (fun p_ => X i p_) (fun p_ => X2 i p_) cw))) [] [],
      (i + (1 : Nat) ≤ rr),
      ((0 : Int) ≤ (↑i : Int) ∧ (↑i : Int) < (↑rr : Int)),
      (i + (1 : Nat) ≤ rr),
      ((0 : Int) ≤ (↑i : Int) ∧ (↑i : Int) < (↑rr : Int)),
      EB (decide ((↑i : Int) < (↑rr : Int))) true])
    mixed (by kernel_rfl) ⟨.mk (by simp only [addO_eq, mulE_eq, mulE_one, Int.toNat_natCast, IntKind.wrap_i64, mmin, mmax]; omega), .mk (not_f h1), ContractN.fin (ContractN.famB (bd := (.ig (W.rl rr (cw * 4) i) W.ck (fun p_ => (X i p_)))) (ex := false) (args1 := [(.c (.sl 404 0 0 cw 4)), (.c (.sl 4 i 0 cw 4))]) 404 2 i (ContractN.famB (bd := (.ig (W.rl rr (cw * 4) i) W.ck (fun p_ => (X2 i p_)))) (ex := false) (args1 := [(.c (.sl 404 0 0 cw 4)), (.c (.sl 403 0 0 cw 4))]) 403 4 i (Contract0.instN (equal_any (fun p_ => X i p_) (fun p_ => X2 i p_) cw (W.rl rr (cw * 4) i) (W.rl rr (cw * 4) i) (by rw [rl_lt (by omega)]; omega) (by rw [rl_lt (by omega)]; omega) (by omega)) [.b 404 1 true [], .b 403 2 true []] [none, none] [] [] (by kernel_rfl) (by kernel_rfl) (by kernel_rfl) (by kernel_rfl) (by kernel_rfl)) (by kernel_rfl) (by kernel_rfl) (by kernel_rfl) (by kernel_rfl) (by kernel_rfl) (by kernel_rfl)) (by kernel_rfl) (by kernel_rfl) (by kernel_rfl) (by kernel_rfl) (by kernel_rfl) (by kernel_rfl)) (by kernel_rfl), (by omega), (by omega), (by omega), (by omega), .mk (decide_eq_true h0), trivial⟩
theorem LVi_xtf (rr cw : Nat) (X X2 : Nat → Nat → Int) (i : Nat)
    (hrr : 1 ≤ rr ∧ rr ≤ 60)
    (hcw : 1 ≤ cw ∧ cw ≤ 120)
    (hil : i ≤ rr)
    (h0 : ((↑i : Int) < (↑rr : Int)))
    (h1 : (¬W.eqR (fun p_ => X i p_) (fun p_ => X2 i p_) cw = true)) :
    CodeOk Try.prog 32 149 (kAt (kOf Try.prog Try.f37) [true, true, false, true, false, false]) (LViI rr cw X X2 i) .ret ⟨[(1, (.c (.sl 3 0 0 rr 1))), (2, (.c (.fn 38 []))), (15, (.c (.sl 1 0 0 rr 1))), (16, (.c (.int .i64 (↑rr)))), (6, (.c (.bool (false)))), (17, (.c (.int .i64 (↑i))))], [(1, (.one ⟨false, false, (.gen rr (fun j_ => (.sl 2 j_ 0 cw 4)))⟩)), (2, (.many (fun j_ => some ⟨false, false, (.ig (W.rl rr (cw * 4) j_) W.ck (fun p_ => (X j_ p_)))⟩))), (3, (.one ⟨false, false, (.gen rr (fun j_ => (.sl 4 j_ 0 cw 4)))⟩)), (4, (.many (fun j_ => some ⟨false, false, (.ig (W.rl rr (cw * 4) j_) W.ck (fun p_ => (X2 j_ p_)))⟩)))], 165⟩ :=
  CodeOk.of_runs (fuel := 300) (v := ⟨[1, 2, 15, 16, 6, 17], [1, 2, 3, 4], [], 165⟩) (hs := [(0, ⟨.auto, some (.c (.bool (true)))⟩), (3, ⟨.ask, none⟩), (4, ⟨.ask, none⟩), (9, ⟨.ask, none⟩), (10, ⟨.ask, none⟩), (15, ⟨.call [2, 4] (.c (.bool (W.eqR (fun p_ => X i p_) (fun p_ => X2 i p_) cw))) [] [], none⟩), (16, ⟨.auto, some (.c (.bool (true)))⟩)])
    (cs := [EB (!W.eqR (fun p_ => X i p_) (fun p_ => X2 i p_) cw) true,
      Contract Try.prog 38 [(.c (.sl 2 i 0 cw 4)), (.c (.sl 4 i 0 cw 4))] [(2, (.many (fun j_ => some ⟨false, false, (.ig (W.rl rr (cw * 4) j_) W.ck (fun p_ => (X j_ p_)))⟩))), (4, (.many (fun j_ => some ⟨false, false, (.ig (W.rl rr (cw * 4) j_) W.ck (fun p_ => (X2 j_ p_)))⟩)))] 389 (.c (.bool (W.eqR (fun p_ => X i p_) (fun p_ => X2 i p_) cw))) [] [],
      (i + (1 : Nat) ≤ rr),
      ((0 : Int) ≤ (↑i : Int) ∧ (↑i : Int) < (↑rr : Int)),
      (i + (1 : Nat) ≤ rr),
      ((0 : Int) ≤ (↑i : Int) ∧ (↑i : Int) < (↑rr : Int)),
      EB (decide ((↑i : Int) < (↑rr : Int))) true])
    mixed (by kernel_rfl) ⟨.mk (not_t (Bool.eq_false_iff.2 h1)), ContractN.fin (ContractN.famB (bd := (.ig (W.rl rr (cw * 4) i) W.ck (fun p_ => (X i p_)))) (ex := false) (args1 := [(.c (.sl 404 0 0 cw 4)), (.c (.sl 4 i 0 cw 4))]) 404 2 i (ContractN.famB (bd := (.ig (W.rl rr (cw * 4) i) W.ck (fun p_ => (X2 i p_)))) (ex := false) (args1 := [(.c (.sl 404 0 0 cw 4)), (.c (.sl 403 0 0 cw 4))]) 403 4 i (Contract0.instN (equal_any (fun p_ => X i p_) (fun p_ => X2 i p_) cw (W.rl rr (cw * 4) i) (W.rl rr (cw * 4) i) (by rw [rl_lt (by omega)]; omega) (by rw [rl_lt (by omega)]; omega) (by omega)) [.b 404 1 true [], .b 403 2 true []] [none, none] [] [] (by kernel_rfl) (by kernel_rfl) (by kernel_rfl) (by kernel_rfl) (by kernel_rfl)) (by kernel_rfl) (by kernel_rfl) (by kernel_rfl) (by kernel_rfl) (by kernel_rfl) (by kernel_rfl)) (by kernel_rfl) (by kernel_rfl) (by kernel_rfl) (by kernel_rfl) (by kernel_rfl) (by kernel_rfl)) (by kernel_rfl), (by omega), (by omega), (by omega), (by omega), .mk (decide_eq_true h0), trivial⟩
end Go.Proofs.Ytohleiikedpmkaa.Vm

namespace Go.Proofs.Ytohleiikedpmkaa.Vm
open Go Go.Proofs Go.Proofs.Ytohleiikedpmkaa
theorem efn_ne (rr cw : Nat) (X X2 : Nat → Nat → Int) (hrr : 1 ≤ rr ∧ rr ≤ 60) (hcw : 1 ≤ cw ∧ cw ≤ 120) (hD : ¬ ∀ j, j < rr → ∀ p, p < cw * 4 → X j p = X2 j p) :
    CodeOk Try.prog 32 149 (kAt (kOf Try.prog Try.f37) [true, true, false, true, false]) (LVi0 rr cw X X2) .ret ⟨[(6, (.c (.bool (false))))], [], 165⟩ := by
  have h : CodeOk Try.prog 32 149 (kAt (kOf Try.prog Try.f37) [true, true, false, true, false]) (LViI rr cw X X2 0) .ret ⟨[(6, (.c (.bool (false))))], [], 165⟩ := by
    refine LVi_by (fun i => LViI rr cw X X2 i) (fun i => i ≤ rr ∧ ∀ j, j < i → ∀ p, p < cw * 4 → X j p = X2 j p) (fun i => rr - i) (by simp) ?_ 0 ⟨Nat.zero_le _, fun j hj => by omega⟩
    intro i ⟨hi, he⟩
    by_cases h0 : (i : Int) < (rr : Int)
    · by_cases h1 : ∀ p, p < cw * 4 → X i p = X2 i p
      · exact .inl ⟨i + 1, ⟨by omega, fun j hj => by
          by_cases e : j = i
          · rw [e]; exact h1
          · exact he j (by omega)⟩, by omega, LVi_rtt rr cw X X2 i hrr hcw hi h0 (decide_eq_true h1)⟩
      · exact .inr ((LVi_xtf rr cw X X2 i hrr hcw hi h0 (fun h => h1 (of_decide_eq_true h))).move (Move.less (by decide) (by decide) (by decide) rfl ⟨rfl, trivial⟩ trivial))
    · have e : i = rr := by omega
      rw [e] at he
      exact absurd he hD
  refine CodeOk.enter (Move.same (by decide) (by decide) (by decide) rfl ?_) h
  exact ⟨SameB.refl rfl, fun j k e => SameB.refl e, SameB.refl rfl, fun j k e => SameB.refl e, trivial⟩
theorem sl_any (rr cw rr2 cw2 : Nat) (X X2 : Nat → Nat → Int) (hrr : 1 ≤ rr ∧ rr ≤ 60) (hcw : 1 ≤ cw ∧ cw ≤ 120) (hr : rr2 = rr) (hc : cw2 = cw) :
    Contract0 Try.prog 36 [(.c (.sl 1 0 0 rr 1)), (.c (.sl 3 0 0 rr2 1))] [(1, (.one ⟨false, false, (.gen rr (fun j_ => (.sl 2 j_ 0 cw 4)))⟩)), (2, (.many (fun j_ => some ⟨false, false, (.ig (W.rl rr (cw * 4) j_) W.ck (X j_))⟩))), (3, (.one ⟨false, false, (.gen rr2 (fun j_ => (.sl 4 j_ 0 cw2 4)))⟩)), (4, (.many (fun j_ => some ⟨false, false, (.ig (W.rl rr2 (cw2 * 4) j_) W.ck (X2 j_))⟩)))] 5 (.c (.bool (W.eqS rr cw X X2))) [] [] := by
  subst hr; subst hc
  unfold W.eqS
  by_cases h : ∀ j, j < rr2 → ∀ p, p < cw2 * 4 → X j p = X2 j p
  · rw [decide_eq_true h]; exact sl_t rr2 cw2 X X2 hrr hcw h
  · rw [decide_eq_false h]; exact sl_n rr2 cw2 X X2 hrr hcw h
end Go.Proofs.Ytohleiikedpmkaa.Vm

namespace Go.Proofs.Ytohleiikedpmkaa.Vm
open Go Go.Proofs Go.Proofs.Ytohleiikedpmkaa
set_option maxRecDepth 100000
theorem eqf_n (rr cw : Nat) (X X2 : Nat → Nat → Int)
    (hrr : 1 ≤ rr ∧ rr ≤ 60)
    (hcw : 1 ≤ cw ∧ cw ≤ 120)
    (hE : ¬ ∀ j, j < rr → ∀ p, p < cw * 4 → X j p = X2 j p) :
    Contract0 Try.prog 37 [(.c (.sl 1 0 0 rr 1)), (.c (.sl 3 0 0 rr 1)), (.c (.fn 38 []))] [(1, (.one ⟨false, false, (.gen rr (fun j_ => (.sl 2 j_ 0 cw 4)))⟩)), (2, (.many (fun j_ => some ⟨false, false, (.ig (W.rl rr (cw * 4) j_) W.ck (fun p_ => (X j_ p_)))⟩))), (3, (.one ⟨false, false, (.gen rr (fun j_ => (.sl 4 j_ 0 cw 4)))⟩)), (4, (.many (fun j_ => some ⟨false, false, (.ig (W.rl rr (cw * 4) j_) W.ck (fun p_ => (X2 j_ p_)))⟩)))] 5 (.c (.bool (false))) [] [] :=
  Contract0.of_frunF (res := (.c (.bool (false)))) (up := []) (kill := []) (n0 := 5) (m := [(1, (.one ⟨false, false, (.gen rr (fun j_ => (.sl 2 j_ 0 cw 4)))⟩)), (2, (.many (fun j_ => some ⟨false, false, (.ig (W.rl rr (cw * 4) j_) W.ck (fun p_ => (X j_ p_)))⟩))), (3, (.one ⟨false, false, (.gen rr (fun j_ => (.sl 4 j_ 0 cw 4)))⟩)), (4, (.many (fun j_ => some ⟨false, false, (.ig (W.rl rr (cw * 4) j_) W.ck (fun p_ => (X2 j_ p_)))⟩)))]) (args := [(.c (.sl 1 0 0 rr 1)), (.c (.sl 3 0 0 rr 1)), (.c (.fn 38 []))]) (fn := Try.f37) (c := bodyOf Try.f37) (fuel := 300) (k := kOf Try.prog Try.f37) (outs := []) (hs := [(5, ⟨.auto, some (.c (.bool (false)))⟩), (10, ⟨.sum ⟨[1, 2, 15, 16, 6, 17], [1, 2, 3, 4], [], 149⟩ (.ret) ({ tm := [(6, V.c (C.bool false))], me := [], nx := 165 }), none⟩)])
    (cs := [CodeOk Try.prog 32 149 (kAt (kOf Try.prog Try.f37) [true, true, false, true, false]) (LVi0 rr cw X X2) (.ret) ({ tm := [(6, V.c (C.bool false))], me := [], nx := 165 }),
      EB ((↑rr : Int) != (↑rr : Int)) false])
    mixed Try.func37 (by kernel_rfl) (by kernel_rfl) (by kernel_rfl) ⟨rfl, (.inr (RoF.of (fun _ => rfl))), rfl, (.inr (RoF.of (fun _ => rfl))), trivial⟩ (by kernel_rfl) ⟨(efn_ne rr cw X X2 (by omega) (by omega) (by omega)), .mk (bne_f (Decidable.of_not_not (by omega))), trivial⟩
theorem rsm_ttttt (rr cw : Nat) (X : Nat → Nat → Int) (ro co : Int) (hi : Bool) (rr2 cw2 : Nat) (X2 : Nat → Nat → Int) (ro2 co2 : Int) (hi2 : Bool)
    (hrr : 1 ≤ rr ∧ rr ≤ 60)
    (hcw : 1 ≤ cw ∧ cw ≤ 120)
    (h0 : ((↑rr : Int) = (↑rr2 : Int)))
    (h1 : ((↑cw : Int) = (↑cw2 : Int)))
    (h2 : (ro = ro2))
    (h3 : (co = co2))
    (h4 : ((hi == hi2) = true)) :
    Contract0 Try.prog 17 [(.agg [(.int .i64 (↑rr)), (.int .i64 (↑cw)), (.sl 1 0 0 rr 1), (.int .i64 ro), (.int .i64 co), (.bool hi)]), (.agg [(.int .i64 (↑rr2)), (.int .i64 (↑cw2)), (.sl 3 0 0 rr2 1), (.int .i64 ro2), (.int .i64 co2), (.bool hi2)])] [(1, (.one ⟨false, false, (.gen rr (fun j_ => (.sl 2 j_ 0 cw 4)))⟩)), (2, (.many (fun j_ => some ⟨false, false, (.ig (W.rl rr (cw * 4) j_) W.ck (fun p_ => (X j_ p_)))⟩))), (3, (.one ⟨false, false, (.gen rr2 (fun j_ => (.sl 4 j_ 0 cw2 4)))⟩)), (4, (.many (fun j_ => some ⟨false, false, (.ig (W.rl rr2 (cw2 * 4) j_) W.ck (fun p_ => (X2 j_ p_)))⟩)))] 5 (.c (.bool (W.eqS rr cw (fun j_ p_ => X j_ p_) fun j_ p_ => X2 j_ p_))) [] [] :=
  Contract0.of_frunF (res := (.c (.bool (W.eqS rr cw (fun j_ p_ => X j_ p_) fun j_ p_ => X2 j_ p_)))) (up := []) (kill := []) (n0 := 5) (m := [(1, (.one ⟨false, false, (.gen rr (fun j_ => (.sl 2 j_ 0 cw 4)))⟩)), (2, (.many (fun j_ => some ⟨false, false, (.ig (W.rl rr (cw * 4) j_) W.ck (fun p_ => (X j_ p_)))⟩))), (3, (.one ⟨false, false, (.gen rr2 (fun j_ => (.sl 4 j_ 0 cw2 4)))⟩)), (4, (.many (fun j_ => some ⟨false, false, (.ig (W.rl rr2 (cw2 * 4) j_) W.ck (fun p_ => (X2 j_ p_)))⟩)))]) (args := [(.agg [(.int .i64 (↑rr)), (.int .i64 (↑cw)), (.sl 1 0 0 rr 1), (.int .i64 ro), (.int .i64 co), (.bool hi)]), (.agg [(.int .i64 (↑rr2)), (.int .i64 (↑cw2)), (.sl 3 0 0 rr2 1), (.int .i64 ro2), (.int .i64 co2), (.bool hi2)])]) (fn := Try.f17) (c := bodyOf Try.f17) (fuel := 300) (k := kOf Try.prog Try.f17) (outs := []) (hs := [(8, ⟨.auto, some (.c (.bool (true)))⟩), (15, ⟨.auto, some (.c (.bool (true)))⟩), (22, ⟨.auto, some (.c (.bool (true)))⟩), (29, ⟨.auto, some (.c (.bool (true)))⟩), (36, ⟨.auto, some (.c (.bool (true)))⟩), (41, ⟨.call [1, 3, 2, 4] (.c (.bool (W.eqS rr cw (fun j_ p_ => X j_ p_) fun j_ p_ => X2 j_ p_))) [] [], none⟩)])
    (cs := [Contract Try.prog 36 [(.c (.sl 1 0 0 rr 1)), (.c (.sl 3 0 0 rr2 1))] [(1, (.one ⟨false, false, (.gen rr (fun j_ => (.sl 2 j_ 0 cw 4)))⟩)), (3, (.one ⟨false, false, (.gen rr2 (fun j_ => (.sl 4 j_ 0 cw2 4)))⟩)), (2, (.many (fun j_ => some ⟨false, false, (.ig (W.rl rr (cw * 4) j_) W.ck (fun p_ => (X j_ p_)))⟩))), (4, (.many (fun j_ => some ⟨false, false, (.ig (W.rl rr2 (cw2 * 4) j_) W.ck (fun p_ => (X2 j_ p_)))⟩)))] 661 (.c (.bool (W.eqS rr cw (fun j_ p_ => X j_ p_) fun j_ p_ => X2 j_ p_))) [] [],
      EB (hi == hi2) true,
      EB (co == co2) true,
      EB (ro == ro2) true,
      EB ((↑cw : Int) == (↑cw2 : Int)) true,
      EB ((↑rr : Int) == (↑rr2 : Int)) true])
    mixed Try.func17 (by kernel_rfl) (by kernel_rfl) (by kernel_rfl) ⟨rfl, (.inr (RoF.of (fun _ => rfl))), rfl, (.inr (RoF.of (fun _ => rfl))), trivial⟩ (by kernel_rfl) ⟨Contract0.in1 (sl_any rr cw rr2 cw2 (fun j_ p_ => X j_ p_) (fun j_ p_ => X2 j_ p_) (by omega) (by omega) (by omega) (by omega)) [.b 1 1 true [], .b 2 2 true [], .b 3 3 true [], .b 4 4 true []] [none, none] [] [] (by kernel_rfl), .mk h4, .mk (beq_t h3), .mk (beq_t h2), .mk (beq_t h1), .mk (beq_t h0), trivial⟩
theorem rsm_ttttf (rr cw : Nat) (X : Nat → Nat → Int) (ro co : Int) (hi : Bool) (rr2 cw2 : Nat) (X2 : Nat → Nat → Int) (ro2 co2 : Int) (hi2 : Bool)
    (hrr : 1 ≤ rr ∧ rr ≤ 60)
    (hcw : 1 ≤ cw ∧ cw ≤ 120)
    (h0 : ((↑rr : Int) = (↑rr2 : Int)))
    (h1 : ((↑cw : Int) = (↑cw2 : Int)))
    (h2 : (ro = ro2))
    (h3 : (co = co2))
    (h4 : (¬(hi == hi2) = true)) :
    Contract0 Try.prog 17 [(.agg [(.int .i64 (↑rr)), (.int .i64 (↑cw)), (.sl 1 0 0 rr 1), (.int .i64 ro), (.int .i64 co), (.bool hi)]), (.agg [(.int .i64 (↑rr2)), (.int .i64 (↑cw2)), (.sl 3 0 0 rr2 1), (.int .i64 ro2), (.int .i64 co2), (.bool hi2)])] [(1, (.one ⟨false, false, (.gen rr (fun j_ => (.sl 2 j_ 0 cw 4)))⟩)), (2, (.many (fun j_ => some ⟨false, false, (.ig (W.rl rr (cw * 4) j_) W.ck (fun p_ => (X j_ p_)))⟩))), (3, (.one ⟨false, false, (.gen rr2 (fun j_ => (.sl 4 j_ 0 cw2 4)))⟩)), (4, (.many (fun j_ => some ⟨false, false, (.ig (W.rl rr2 (cw2 * 4) j_) W.ck (fun p_ => (X2 j_ p_)))⟩)))] 5 (.c (.bool (false))) [] [] :=
  Contract0.of_frunF (res := (.c (.bool (false)))) (up := []) (kill := []) (n0 := 5) (m := [(1, (.one ⟨false, false, (.gen rr (fun j_ => (.sl 2 j_ 0 cw 4)))⟩)), (2, (.many (fun j_ => some ⟨false, false, (.ig (W.rl rr (cw * 4) j_) W.ck (fun p_ => (X j_ p_)))⟩))), (3, (.one ⟨false, false, (.gen rr2 (fun j_ => (.sl 4 j_ 0 cw2 4)))⟩)), (4, (.many (fun j_ => some ⟨false, false, (.ig (W.rl rr2 (cw2 * 4) j_) W.ck (fun p_ => (X2 j_ p_)))⟩)))]) (args := [(.agg [(.int .i64 (↑rr)), (.int .i64 (↑cw)), (.sl 1 0 0 rr 1), (.int .i64 ro), (.int .i64 co), (.bool hi)]), (.agg [(.int .i64 (↑rr2)), (.int .i64 (↑cw2)), (.sl 3 0 0 rr2 1), (.int .i64 ro2), (.int .i64 co2), (.bool hi2)])]) (fn := Try.f17) (c := bodyOf Try.f17) (fuel := 300) (k := kOf Try.prog Try.f17) (outs := []) (hs := [(8, ⟨.auto, some (.c (.bool (true)))⟩), (15, ⟨.auto, some (.c (.bool (true)))⟩), (22, ⟨.auto, some (.c (.bool (true)))⟩), (29, ⟨.auto, some (.c (.bool (true)))⟩), (36, ⟨.auto, some (.c (.bool (false)))⟩)])
    (cs := [EB (hi == hi2) false,
      EB (co == co2) true,
      EB (ro == ro2) true,
      EB ((↑cw : Int) == (↑cw2 : Int)) true,
      EB ((↑rr : Int) == (↑rr2 : Int)) true])
    mixed Try.func17 (by kernel_rfl) (by kernel_rfl) (by kernel_rfl) ⟨rfl, (.inr (RoF.of (fun _ => rfl))), rfl, (.inr (RoF.of (fun _ => rfl))), trivial⟩ (by kernel_rfl) ⟨.mk (Bool.eq_false_iff.2 h4), .mk (beq_t h3), .mk (beq_t h2), .mk (beq_t h1), .mk (beq_t h0), trivial⟩
theorem rsm_tttf (rr cw : Nat) (X : Nat → Nat → Int) (ro co : Int) (hi : Bool) (rr2 cw2 : Nat) (X2 : Nat → Nat → Int) (ro2 co2 : Int) (hi2 : Bool)
    (hrr : 1 ≤ rr ∧ rr ≤ 60)
    (hcw : 1 ≤ cw ∧ cw ≤ 120)
    (h0 : ((↑rr : Int) = (↑rr2 : Int)))
    (h1 : ((↑cw : Int) = (↑cw2 : Int)))
    (h2 : (ro = ro2))
    (h3 : (¬co = co2)) :
    Contract0 Try.prog 17 [(.agg [(.int .i64 (↑rr)), (.int .i64 (↑cw)), (.sl 1 0 0 rr 1), (.int .i64 ro), (.int .i64 co), (.bool hi)]), (.agg [(.int .i64 (↑rr2)), (.int .i64 (↑cw2)), (.sl 3 0 0 rr2 1), (.int .i64 ro2), (.int .i64 co2), (.bool hi2)])] [(1, (.one ⟨false, false, (.gen rr (fun j_ => (.sl 2 j_ 0 cw 4)))⟩)), (2, (.many (fun j_ => some ⟨false, false, (.ig (W.rl rr (cw * 4) j_) W.ck (fun p_ => (X j_ p_)))⟩))), (3, (.one ⟨false, false, (.gen rr2 (fun j_ => (.sl 4 j_ 0 cw2 4)))⟩)), (4, (.many (fun j_ => some ⟨false, false, (.ig (W.rl rr2 (cw2 * 4) j_) W.ck (fun p_ => (X2 j_ p_)))⟩)))] 5 (.c (.bool (false))) [] [] :=
  Contract0.of_frunF (res := (.c (.bool (false)))) (up := []) (kill := []) (n0 := 5) (m := [(1, (.one ⟨false, false, (.gen rr (fun j_ => (.sl 2 j_ 0 cw 4)))⟩)), (2, (.many (fun j_ => some ⟨false, false, (.ig (W.rl rr (cw * 4) j_) W.ck (fun p_ => (X j_ p_)))⟩))), (3, (.one ⟨false, false, (.gen rr2 (fun j_ => (.sl 4 j_ 0 cw2 4)))⟩)), (4, (.many (fun j_ => some ⟨false, false, (.ig (W.rl rr2 (cw2 * 4) j_) W.ck (fun p_ => (X2 j_ p_)))⟩)))]) (args := [(.agg [(.int .i64 (↑rr)), (.int .i64 (↑cw)), (.sl 1 0 0 rr 1), (.int .i64 ro), (.int .i64 co), (.bool hi)]), (.agg [(.int .i64 (↑rr2)), (.int .i64 (↑cw2)), (.sl 3 0 0 rr2 1), (.int .i64 ro2), (.int .i64 co2), (.bool hi2)])]) (fn := Try.f17) (c := bodyOf Try.f17) (fuel := 300) (k := kOf Try.prog Try.f17) (outs := []) (hs := [(8, ⟨.auto, some (.c (.bool (true)))⟩), (15, ⟨.auto, some (.c (.bool (true)))⟩), (22, ⟨.auto, some (.c (.bool (true)))⟩), (29, ⟨.auto, some (.c (.bool (false)))⟩)])
    (cs := [EB (co == co2) false,
      EB (ro == ro2) true,
      EB ((↑cw : Int) == (↑cw2 : Int)) true,
      EB ((↑rr : Int) == (↑rr2 : Int)) true])
    mixed Try.func17 (by kernel_rfl) (by kernel_rfl) (by kernel_rfl) ⟨rfl, (.inr (RoF.of (fun _ => rfl))), rfl, (.inr (RoF.of (fun _ => rfl))), trivial⟩ (by kernel_rfl) ⟨.mk (beq_f h3), .mk (beq_t h2), .mk (beq_t h1), .mk (beq_t h0), trivial⟩
theorem rsm_ttf (rr cw : Nat) (X : Nat → Nat → Int) (ro co : Int) (hi : Bool) (rr2 cw2 : Nat) (X2 : Nat → Nat → Int) (ro2 co2 : Int) (hi2 : Bool)
    (hrr : 1 ≤ rr ∧ rr ≤ 60)
    (hcw : 1 ≤ cw ∧ cw ≤ 120)
    (h0 : ((↑rr : Int) = (↑rr2 : Int)))
    (h1 : ((↑cw : Int) = (↑cw2 : Int)))
    (h2 : (¬ro = ro2)) :
    Contract0 Try.prog 17 [(.agg [(.int .i64 (↑rr)), (.int .i64 (↑cw)), (.sl 1 0 0 rr 1), (.int .i64 ro), (.int .i64 co), (.bool hi)]), (.agg [(.int .i64 (↑rr2)), (.int .i64 (↑cw2)), (.sl 3 0 0 rr2 1), (.int .i64 ro2), (.int .i64 co2), (.bool hi2)])] [(1, (.one ⟨false, false, (.gen rr (fun j_ => (.sl 2 j_ 0 cw 4)))⟩)), (2, (.many (fun j_ => some ⟨false, false, (.ig (W.rl rr (cw * 4) j_) W.ck (fun p_ => (X j_ p_)))⟩))), (3, (.one ⟨false, false, (.gen rr2 (fun j_ => (.sl 4 j_ 0 cw2 4)))⟩)), (4, (.many (fun j_ => some ⟨false, false, (.ig (W.rl rr2 (cw2 * 4) j_) W.ck (fun p_ => (X2 j_ p_)))⟩)))] 5 (.c (.bool (false))) [] [] :=
  Contract0.of_frunF (res := (.c (.bool (false)))) (up := []) (kill := []) (n0 := 5) (m := [(1, (.one ⟨false, false, (.gen rr (fun j_ => (.sl 2 j_ 0 cw 4)))⟩)), (2, (.many (fun j_ => some ⟨false, false, (.ig (W.rl rr (cw * 4) j_) W.ck (fun p_ => (X j_ p_)))⟩))), (3, (.one ⟨false, false, (.gen rr2 (fun j_ => (.sl 4 j_ 0 cw2 4)))⟩)), (4, (.many (fun j_ => some ⟨false, false, (.ig (W.rl rr2 (cw2 * 4) j_) W.ck (fun p_ => (X2 j_ p_)))⟩)))]) (args := [(.agg [(.int .i64 (↑rr)), (.int .i64 (↑cw)), (.sl 1 0 0 rr 1), (.int .i64 ro), (.int .i64 co), (.bool hi)]), (.agg [(.int .i64 (↑rr2)), (.int .i64 (↑cw2)), (.sl 3 0 0 rr2 1), (.int .i64 ro2), (.int .i64 co2), (.bool hi2)])]) (fn := Try.f17) (c := bodyOf Try.f17) (fuel := 300) (k := kOf Try.prog Try.f17) (outs := []) (hs := [(8, ⟨.auto, some (.c (.bool (true)))⟩), (15, ⟨.auto, some (.c (.bool (true)))⟩), (22, ⟨.auto, some (.c (.bool (false)))⟩)])
    (cs := [EB (ro == ro2) false,
      EB ((↑cw : Int) == (↑cw2 : Int)) true,
      EB ((↑rr : Int) == (↑rr2 : Int)) true])
    mixed Try.func17 (by kernel_rfl) (by kernel_rfl) (by kernel_rfl) ⟨rfl, (.inr (RoF.of (fun _ => rfl))), rfl, (.inr (RoF.of (fun _ => rfl))), trivial⟩ (by kernel_rfl) ⟨.mk (beq_f h2), .mk (beq_t h1), .mk (beq_t h0), trivial⟩
theorem rsm_tf (rr cw : Nat) (X : Nat → Nat → Int) (ro co : Int) (hi : Bool) (rr2 cw2 : Nat) (X2 : Nat → Nat → Int) (ro2 co2 : Int) (hi2 : Bool)
    (hrr : 1 ≤ rr ∧ rr ≤ 60)
    (hcw : 1 ≤ cw ∧ cw ≤ 120)
    (h0 : ((↑rr : Int) = (↑rr2 : Int)))
    (h1 : (¬(↑cw : Int) = (↑cw2 : Int))) :
    Contract0 Try.prog 17 [(.agg [(.int .i64 (↑rr)), (.int .i64 (↑cw)), (.sl 1 0 0 rr 1), (.int .i64 ro), (.int .i64 co), (.bool hi)]), (.agg [(.int .i64 (↑rr2)), (.int .i64 (↑cw2)), (.sl 3 0 0 rr2 1), (.int .i64 ro2), (.int .i64 co2), (.bool hi2)])] [(1, (.one ⟨false, false, (.gen rr (fun j_ => (.sl 2 j_ 0 cw 4)))⟩)), (2, (.many (fun j_ => some ⟨false, false, (.ig (W.rl rr (cw * 4) j_) W.ck (fun p_ => (X j_ p_)))⟩))), (3, (.one ⟨false, false, (.gen rr2 (fun j_ => (.sl 4 j_ 0 cw2 4)))⟩)), (4, (.many (fun j_ => some ⟨false, false, (.ig (W.rl rr2 (cw2 * 4) j_) W.ck (fun p_ => (X2 j_ p_)))⟩)))] 5 (.c (.bool (false))) [] [] :=
  Contract0.of_frunF (res := (.c (.bool (false)))) (up := []) (kill := []) (n0 := 5) (m := [(1, (.one ⟨false, false, (.gen rr (fun j_ => (.sl 2 j_ 0 cw 4)))⟩)), (2, (.many (fun j_ => some ⟨false, false, (.ig (W.rl rr (cw * 4) j_) W.ck (fun p_ => (X j_ p_)))⟩))), (3, (.one ⟨false, false, (.gen rr2 (fun j_ => (.sl 4 j_ 0 cw2 4)))⟩)), (4, (.many (fun j_ => some ⟨false, false, (.ig (W.rl rr2 (cw2 * 4) j_) W.ck (fun p_ => (X2 j_ p_)))⟩)))]) (args := [(.agg [(.int .i64 (↑rr)), (.int .i64 (↑cw)), (.sl 1 0 0 rr 1), (.int .i64 ro), (.int .i64 co), (.bool hi)]), (.agg [(.int .i64 (↑rr2)), (.int .i64 (↑cw2)), (.sl 3 0 0 rr2 1), (.int .i64 ro2), (.int .i64 co2), (.bool hi2)])]) (fn := Try.f17) (c := bodyOf Try.f17) (fuel := 300) (k := kOf Try.prog Try.f17) (outs := []) (hs := [(8, ⟨.auto, some (.c (.bool (true)))⟩), (15, ⟨.auto, some (.c (.bool (false)))⟩)])
    (cs := [EB ((↑cw : Int) == (↑cw2 : Int)) false,
      EB ((↑rr : Int) == (↑rr2 : Int)) true])
    mixed Try.func17 (by kernel_rfl) (by kernel_rfl) (by kernel_rfl) ⟨rfl, (.inr (RoF.of (fun _ => rfl))), rfl, (.inr (RoF.of (fun _ => rfl))), trivial⟩ (by kernel_rfl) ⟨.mk (beq_f h1), .mk (beq_t h0), trivial⟩
theorem rsm_f (rr cw : Nat) (X : Nat → Nat → Int) (ro co : Int) (hi : Bool) (rr2 cw2 : Nat) (X2 : Nat → Nat → Int) (ro2 co2 : Int) (hi2 : Bool)
    (hrr : 1 ≤ rr ∧ rr ≤ 60)
    (hcw : 1 ≤ cw ∧ cw ≤ 120)
    (h0 : (¬(↑rr : Int) = (↑rr2 : Int))) :
    Contract0 Try.prog 17 [(.agg [(.int .i64 (↑rr)), (.int .i64 (↑cw)), (.sl 1 0 0 rr 1), (.int .i64 ro), (.int .i64 co), (.bool hi)]), (.agg [(.int .i64 (↑rr2)), (.int .i64 (↑cw2)), (.sl 3 0 0 rr2 1), (.int .i64 ro2), (.int .i64 co2), (.bool hi2)])] [(1, (.one ⟨false, false, (.gen rr (fun j_ => (.sl 2 j_ 0 cw 4)))⟩)), (2, (.many (fun j_ => some ⟨false, false, (.ig (W.rl rr (cw * 4) j_) W.ck (fun p_ => (X j_ p_)))⟩))), (3, (.one ⟨false, false, (.gen rr2 (fun j_ => (.sl 4 j_ 0 cw2 4)))⟩)), (4, (.many (fun j_ => some ⟨false, false, (.ig (W.rl rr2 (cw2 * 4) j_) W.ck (fun p_ => (X2 j_ p_)))⟩)))] 5 (.c (.bool (false))) [] [] :=
  Contract0.of_frunF (res := (.c (.bool (false)))) (up := []) (kill := []) (n0 := 5) (m := [(1, (.one ⟨false, false, (.gen rr (fun j_ => (.sl 2 j_ 0 cw 4)))⟩)), (2, (.many (fun j_ => some ⟨false, false, (.ig (W.rl rr (cw * 4) j_) W.ck (fun p_ => (X j_ p_)))⟩))), (3, (.one ⟨false, false, (.gen rr2 (fun j_ => (.sl 4 j_ 0 cw2 4)))⟩)), (4, (.many (fun j_ => some ⟨false, false, (.ig (W.rl rr2 (cw2 * 4) j_) W.ck (fun p_ => (X2 j_ p_)))⟩)))]) (args := [(.agg [(.int .i64 (↑rr)), (.int .i64 (↑cw)), (.sl 1 0 0 rr 1), (.int .i64 ro), (.int .i64 co), (.bool hi)]), (.agg [(.int .i64 (↑rr2)), (.int .i64 (↑cw2)), (.sl 3 0 0 rr2 1), (.int .i64 ro2), (.int .i64 co2), (.bool hi2)])]) (fn := Try.f17) (c := bodyOf Try.f17) (fuel := 300) (k := kOf Try.prog Try.f17) (outs := []) (hs := [(8, ⟨.auto, some (.c (.bool (false)))⟩)])
    (cs := [EB ((↑rr : Int) == (↑rr2 : Int)) false])
    mixed Try.func17 (by kernel_rfl) (by kernel_rfl) (by kernel_rfl) ⟨rfl, (.inr (RoF.of (fun _ => rfl))), rfl, (.inr (RoF.of (fun _ => rfl))), trivial⟩ (by kernel_rfl) ⟨.mk (beq_f h0), trivial⟩
end Go.Proofs.Ytohleiikedpmkaa.Vm

namespace Go.Proofs.Ytohleiikedpmkaa.Vm
open Go Go.Proofs Go.Proofs.Ytohleiikedpmkaa
theorem eqf_any (rr cw rr2 cw2 : Nat) (X X2 : Nat → Nat → Int) (hrr : 1 ≤ rr ∧ rr ≤ 60) (hcw : 1 ≤ cw ∧ cw ≤ 120) (hr : rr2 = rr) (hc : cw2 = cw) :
    Contract0 Try.prog 37 [(.c (.sl 1 0 0 rr 1)), (.c (.sl 3 0 0 rr2 1)), (.c (.fn 38 []))] [(1, (.one ⟨false, false, (.gen rr (fun j_ => (.sl 2 j_ 0 cw 4)))⟩)), (2, (.many (fun j_ => some ⟨false, false, (.ig (W.rl rr (cw * 4) j_) W.ck (X j_))⟩))), (3, (.one ⟨false, false, (.gen rr2 (fun j_ => (.sl 4 j_ 0 cw2 4)))⟩)), (4, (.many (fun j_ => some ⟨false, false, (.ig (W.rl rr2 (cw2 * 4) j_) W.ck (X2 j_))⟩)))] 5 (.c (.bool (W.eqS rr cw X X2))) [] [] := by
  subst hr; subst hc
  unfold W.eqS
  by_cases h : ∀ j, j < rr2 → ∀ p, p < cw2 * 4 → X j p = X2 j p
  · rw [decide_eq_true h]; exact eqf_ok rr2 cw2 X X2 hrr hcw h
  · rw [decide_eq_false h]; exact eqf_n rr2 cw2 X X2 hrr hcw h
end Go.Proofs.Ytohleiikedpmkaa.Vm

namespace Go.Proofs.Ytohleiikedpmkaa.Vm
open Go Go.Proofs Go.Proofs.Ytohleiikedpmkaa
set_option maxRecDepth 100000
theorem psm_ttttt (rr cw : Nat) (X : Nat → Nat → Int) (ro co : Int) (hi : Bool) (rr2 cw2 : Nat) (X2 : Nat → Nat → Int) (ro2 co2 : Int) (hi2 : Bool)
    (hrr : 1 ≤ rr ∧ rr ≤ 60)
    (hcw : 1 ≤ cw ∧ cw ≤ 120)
    (h0 : ((↑rr : Int) = (↑rr2 : Int)))
    (h1 : ((↑cw : Int) = (↑cw2 : Int)))
    (h2 : (ro = ro2))
    (h3 : (co = co2))
    (h4 : ((hi == hi2) = true)) :
    Contract0 Try.prog 21 [(.agg [(.int .i64 (↑rr)), (.int .i64 (↑cw)), (.sl 1 0 0 rr 1), (.int .i64 ro), (.int .i64 co), (.bool hi)]), (.agg [(.int .i64 (↑rr2)), (.int .i64 (↑cw2)), (.sl 3 0 0 rr2 1), (.int .i64 ro2), (.int .i64 co2), (.bool hi2)])] [(1, (.one ⟨false, false, (.gen rr (fun j_ => (.sl 2 j_ 0 cw 4)))⟩)), (2, (.many (fun j_ => some ⟨false, false, (.ig (W.rl rr (cw * 4) j_) W.ck (fun p_ => (X j_ p_)))⟩))), (3, (.one ⟨false, false, (.gen rr2 (fun j_ => (.sl 4 j_ 0 cw2 4)))⟩)), (4, (.many (fun j_ => some ⟨false, false, (.ig (W.rl rr2 (cw2 * 4) j_) W.ck (fun p_ => (X2 j_ p_)))⟩)))] 5 (.c (.bool (W.eqS rr cw (fun j_ p_ => X j_ p_) fun j_ p_ => X2 j_ p_))) [] [] :=
  Contract0.of_frunF (res := (.c (.bool (W.eqS rr cw (fun j_ p_ => X j_ p_) fun j_ p_ => X2 j_ p_)))) (up := []) (kill := []) (n0 := 5) (m := [(1, (.one ⟨false, false, (.gen rr (fun j_ => (.sl 2 j_ 0 cw 4)))⟩)), (2, (.many (fun j_ => some ⟨false, false, (.ig (W.rl rr (cw * 4) j_) W.ck (fun p_ => (X j_ p_)))⟩))), (3, (.one ⟨false, false, (.gen rr2 (fun j_ => (.sl 4 j_ 0 cw2 4)))⟩)), (4, (.many (fun j_ => some ⟨false, false, (.ig (W.rl rr2 (cw2 * 4) j_) W.ck (fun p_ => (X2 j_ p_)))⟩)))]) (args := [(.agg [(.int .i64 (↑rr)), (.int .i64 (↑cw)), (.sl 1 0 0 rr 1), (.int .i64 ro), (.int .i64 co), (.bool hi)]), (.agg [(.int .i64 (↑rr2)), (.int .i64 (↑cw2)), (.sl 3 0 0 rr2 1), (.int .i64 ro2), (.int .i64 co2), (.bool hi2)])]) (fn := Try.f21) (c := bodyOf Try.f21) (fuel := 300) (k := kOf Try.prog Try.f21) (outs := []) (hs := [(8, ⟨.auto, some (.c (.bool (true)))⟩), (15, ⟨.auto, some (.c (.bool (true)))⟩), (22, ⟨.auto, some (.c (.bool (true)))⟩), (29, ⟨.auto, some (.c (.bool (true)))⟩), (36, ⟨.auto, some (.c (.bool (true)))⟩), (41, ⟨.call [1, 3, 2, 4] (.c (.bool (W.eqS rr cw (fun j_ p_ => X j_ p_) fun j_ p_ => X2 j_ p_))) [] [], none⟩)])
    (cs := [Contract Try.prog 37 [(.c (.sl 1 0 0 rr 1)), (.c (.sl 3 0 0 rr2 1)), (.c (.fn 38 []))] [(1, (.one ⟨false, false, (.gen rr (fun j_ => (.sl 2 j_ 0 cw 4)))⟩)), (3, (.one ⟨false, false, (.gen rr2 (fun j_ => (.sl 4 j_ 0 cw2 4)))⟩)), (2, (.many (fun j_ => some ⟨false, false, (.ig (W.rl rr (cw * 4) j_) W.ck (fun p_ => (X j_ p_)))⟩))), (4, (.many (fun j_ => some ⟨false, false, (.ig (W.rl rr2 (cw2 * 4) j_) W.ck (fun p_ => (X2 j_ p_)))⟩)))] 661 (.c (.bool (W.eqS rr cw (fun j_ p_ => X j_ p_) fun j_ p_ => X2 j_ p_))) [] [],
      EB (hi == hi2) true,
      EB (co == co2) true,
      EB (ro == ro2) true,
      EB ((↑cw : Int) == (↑cw2 : Int)) true,
      EB ((↑rr : Int) == (↑rr2 : Int)) true])
    mixed Try.func21 (by kernel_rfl) (by kernel_rfl) (by kernel_rfl) ⟨rfl, (.inr (RoF.of (fun _ => rfl))), rfl, (.inr (RoF.of (fun _ => rfl))), trivial⟩ (by kernel_rfl) ⟨Contract0.in1 (eqf_any rr cw rr2 cw2 (fun j_ p_ => X j_ p_) (fun j_ p_ => X2 j_ p_) (by omega) (by omega) (by omega) (by omega)) [.b 1 1 true [], .b 2 2 true [], .b 3 3 true [], .b 4 4 true []] [none, none, none] [] [] (by kernel_rfl), .mk h4, .mk (beq_t h3), .mk (beq_t h2), .mk (beq_t h1), .mk (beq_t h0), trivial⟩
theorem psm_ttttf (rr cw : Nat) (X : Nat → Nat → Int) (ro co : Int) (hi : Bool) (rr2 cw2 : Nat) (X2 : Nat → Nat → Int) (ro2 co2 : Int) (hi2 : Bool)
    (hrr : 1 ≤ rr ∧ rr ≤ 60)
    (hcw : 1 ≤ cw ∧ cw ≤ 120)
    (h0 : ((↑rr : Int) = (↑rr2 : Int)))
    (h1 : ((↑cw : Int) = (↑cw2 : Int)))
    (h2 : (ro = ro2))
    (h3 : (co = co2))
    (h4 : (¬(hi == hi2) = true)) :
    Contract0 Try.prog 21 [(.agg [(.int .i64 (↑rr)), (.int .i64 (↑cw)), (.sl 1 0 0 rr 1), (.int .i64 ro), (.int .i64 co), (.bool hi)]), (.agg [(.int .i64 (↑rr2)), (.int .i64 (↑cw2)), (.sl 3 0 0 rr2 1), (.int .i64 ro2), (.int .i64 co2), (.bool hi2)])] [(1, (.one ⟨false, false, (.gen rr (fun j_ => (.sl 2 j_ 0 cw 4)))⟩)), (2, (.many (fun j_ => some ⟨false, false, (.ig (W.rl rr (cw * 4) j_) W.ck (fun p_ => (X j_ p_)))⟩))), (3, (.one ⟨false, false, (.gen rr2 (fun j_ => (.sl 4 j_ 0 cw2 4)))⟩)), (4, (.many (fun j_ => some ⟨false, false, (.ig (W.rl rr2 (cw2 * 4) j_) W.ck (fun p_ => (X2 j_ p_)))⟩)))] 5 (.c (.bool (false))) [] [] :=
  Contract0.of_frunF (res := (.c (.bool (false)))) (up := []) (kill := []) (n0 := 5) (m := [(1, (.one ⟨false, false, (.gen rr (fun j_ => (.sl 2 j_ 0 cw 4)))⟩)), (2, (.many (fun j_ => some ⟨false, false, (.ig (W.rl rr (cw * 4) j_) W.ck (fun p_ => (X j_ p_)))⟩))), (3, (.one ⟨false, false, (.gen rr2 (fun j_ => (.sl 4 j_ 0 cw2 4)))⟩)), (4, (.many (fun j_ => some ⟨false, false, (.ig (W.rl rr2 (cw2 * 4) j_) W.ck (fun p_ => (X2 j_ p_)))⟩)))]) (args := [(.agg [(.int .i64 (↑rr)), (.int .i64 (↑cw)), (.sl 1 0 0 rr 1), (.int .i64 ro), (.int .i64 co), (.bool hi)]), (.agg [(.int .i64 (↑rr2)), (.int .i64 (↑cw2)), (.sl 3 0 0 rr2 1), (.int .i64 ro2), (.int .i64 co2), (.bool hi2)])]) (fn := Try.f21) (c := bodyOf Try.f21) (fuel := 300) (k := kOf Try.prog Try.f21) (outs := []) (hs := [(8, ⟨.auto, some (.c (.bool (true)))⟩), (15, ⟨.auto, some (.c (.bool (true)))⟩), (22, ⟨.auto, some (.c (.bool (true)))⟩), (29, ⟨.auto, some (.c (.bool (true)))⟩), (36, ⟨.auto, some (.c (.bool (false)))⟩)])
    (cs := [EB (hi == hi2) false,
      EB (co == co2) true,
      EB (ro == ro2) true,
      EB ((↑cw : Int) == (↑cw2 : Int)) true,
      EB ((↑rr : Int) == (↑rr2 : Int)) true])
    mixed Try.func21 (by kernel_rfl) (by kernel_rfl) (by kernel_rfl) ⟨rfl, (.inr (RoF.of (fun _ => rfl))), rfl, (.inr (RoF.of (fun _ => rfl))), trivial⟩ (by kernel_rfl) ⟨.mk (Bool.eq_false_iff.2 h4), .mk (beq_t h3), .mk (beq_t h2), .mk (beq_t h1), .mk (beq_t h0), trivial⟩
theorem psm_tttf (rr cw : Nat) (X : Nat → Nat → Int) (ro co : Int) (hi : Bool) (rr2 cw2 : Nat) (X2 : Nat → Nat → Int) (ro2 co2 : Int) (hi2 : Bool)
    (hrr : 1 ≤ rr ∧ rr ≤ 60)
    (hcw : 1 ≤ cw ∧ cw ≤ 120)
    (h0 : ((↑rr : Int) = (↑rr2 : Int)))
    (h1 : ((↑cw : Int) = (↑cw2 : Int)))
    (h2 : (ro = ro2))
    (h3 : (¬co = co2)) :
    Contract0 Try.prog 21 [(.agg [(.int .i64 (↑rr)), (.int .i64 (↑cw)), (.sl 1 0 0 rr 1), (.int .i64 ro), (.int .i64 co), (.bool hi)]), (.agg [(.int .i64 (↑rr2)), (.int .i64 (↑cw2)), (.sl 3 0 0 rr2 1), (.int .i64 ro2), (.int .i64 co2), (.bool hi2)])] [(1, (.one ⟨false, false, (.gen rr (fun j_ => (.sl 2 j_ 0 cw 4)))⟩)), (2, (.many (fun j_ => some ⟨false, false, (.ig (W.rl rr (cw * 4) j_) W.ck (fun p_ => (X j_ p_)))⟩))), (3, (.one ⟨false, false, (.gen rr2 (fun j_ => (.sl 4 j_ 0 cw2 4)))⟩)), (4, (.many (fun j_ => some ⟨false, false, (.ig (W.rl rr2 (cw2 * 4) j_) W.ck (fun p_ => (X2 j_ p_)))⟩)))] 5 (.c (.bool (false))) [] [] :=
  Contract0.of_frunF (res := (.c (.bool (false)))) (up := []) (kill := []) (n0 := 5) (m := [(1, (.one ⟨false, false, (.gen rr (fun j_ => (.sl 2 j_ 0 cw 4)))⟩)), (2, (.many (fun j_ => some ⟨false, false, (.ig (W.rl rr (cw * 4) j_) W.ck (fun p_ => (X j_ p_)))⟩))), (3, (.one ⟨false, false, (.gen rr2 (fun j_ => (.sl 4 j_ 0 cw2 4)))⟩)), (4, (.many (fun j_ => some ⟨false, false, (.ig (W.rl rr2 (cw2 * 4) j_) W.ck (fun p_ => (X2 j_ p_)))⟩)))]) (args := [(.agg [(.int .i64 (↑rr)), (.int .i64 (↑cw)), (.sl 1 0 0 rr 1), (.int .i64 ro), (.int .i64 co), (.bool hi)]), (.agg [(.int .i64 (↑rr2)), (.int .i64 (↑cw2)), (.sl 3 0 0 rr2 1), (.int .i64 ro2), (.int .i64 co2), (.bool hi2)])]) (fn := Try.f21) (c := bodyOf Try.f21) (fuel := 300) (k := kOf Try.prog Try.f21) (outs := []) (hs := [(8, ⟨.auto, some (.c (.bool (true)))⟩), (15, ⟨.auto, some (.c (.bool (true)))⟩), (22, ⟨.auto, some (.c (.bool (true)))⟩), (29, ⟨.auto, some (.c (.bool (false)))⟩)])
    (cs := [EB (co == co2) false,
      EB (ro == ro2) true,
      EB ((↑cw : Int) == (↑cw2 : Int)) true,
      EB ((↑rr : Int) == (↑rr2 : Int)) true])
    mixed Try.func21 (by kernel_rfl) (by kernel_rfl) (by kernel_rfl) ⟨rfl, (.inr (RoF.of (fun _ => rfl))), rfl, (.inr (RoF.of (fun _ => rfl))), trivial⟩ (by kernel_rfl) ⟨.mk (beq_f h3), .mk (beq_t h2), .mk (beq_t h1), .mk (beq_t h0), trivial⟩
theorem psm_ttf (rr cw : Nat) (X : Nat → Nat → Int) (ro co : Int) (hi : Bool) (rr2 cw2 : Nat) (X2 : Nat → Nat → Int) (ro2 co2 : Int) (hi2 : Bool)
    (hrr : 1 ≤ rr ∧ rr ≤ 60)
    (hcw : 1 ≤ cw ∧ cw ≤ 120)
    (h0 : ((↑rr : Int) = (↑rr2 : Int)))
    (h1 : ((↑cw : Int) = (↑cw2 : Int)))
    (h2 : (¬ro = ro2)) :
    Contract0 Try.prog 21 [(.agg [(.int .i64 (↑rr)), (.int .i64 (↑cw)), (.sl 1 0 0 rr 1), (.int .i64 ro), (.int .i64 co), (.bool hi)]), (.agg [(.int .i64 (↑rr2)), (.int .i64 (↑cw2)), (.sl 3 0 0 rr2 1), (.int .i64 ro2), (.int .i64 co2), (.bool hi2)])] [(1, (.one ⟨false, false, (.gen rr (fun j_ => (.sl 2 j_ 0 cw 4)))⟩)), (2, (.many (fun j_ => some ⟨false, false, (.ig (W.rl rr (cw * 4) j_) W.ck (fun p_ => (X j_ p_)))⟩))), (3, (.one ⟨false, false, (.gen rr2 (fun j_ => (.sl 4 j_ 0 cw2 4)))⟩)), (4, (.many (fun j_ => some ⟨false, false, (.ig (W.rl rr2 (cw2 * 4) j_) W.ck (fun p_ => (X2 j_ p_)))⟩)))] 5 (.c (.bool (false))) [] [] :=
  Contract0.of_frunF (res := (.c (.bool (false)))) (up := []) (kill := []) (n0 := 5) (m := [(1, (.one ⟨false, false, (.gen rr (fun j_ => (.sl 2 j_ 0 cw 4)))⟩)), (2, (.many (fun j_ => some ⟨false, false, (.ig (W.rl rr (cw * 4) j_) W.ck (fun p_ => (X j_ p_)))⟩))), (3, (.one ⟨false, false, (.gen rr2 (fun j_ => (.sl 4 j_ 0 cw2 4)))⟩)), (4, (.many (fun j_ => some ⟨false, false, (.ig (W.rl rr2 (cw2 * 4) j_) W.ck (fun p_ => (X2 j_ p_)))⟩)))]) (args := [(.agg [(.int .i64 (↑rr)), (.int .i64 (↑cw)), (.sl 1 0 0 rr 1), (.int .i64 ro), (.int .i64 co), (.bool hi)]), (.agg [(.int .i64 (↑rr2)), (.int .i64 (↑cw2)), (.sl 3 0 0 rr2 1), (.int .i64 ro2), (.int .i64 co2), (.bool hi2)])]) (fn := Try.f21) (c := bodyOf Try.f21) (fuel := 300) (k := kOf Try.prog Try.f21) (outs := []) (hs := [(8, ⟨.auto, some (.c (.bool (true)))⟩), (15, ⟨.auto, some (.c (.bool (true)))⟩), (22, ⟨.auto, some (.c (.bool (false)))⟩)])
    (cs := [EB (ro == ro2) false,
      EB ((↑cw : Int) == (↑cw2 : Int)) true,
      EB ((↑rr : Int) == (↑rr2 : Int)) true])
    mixed Try.func21 (by kernel_rfl) (by kernel_rfl) (by kernel_rfl) ⟨rfl, (.inr (RoF.of (fun _ => rfl))), rfl, (.inr (RoF.of (fun _ => rfl))), trivial⟩ (by kernel_rfl) ⟨.mk (beq_f h2), .mk (beq_t h1), .mk (beq_t h0), trivial⟩
theorem psm_tf (rr cw : Nat) (X : Nat → Nat → Int) (ro co : Int) (hi : Bool) (rr2 cw2 : Nat) (X2 : Nat → Nat → Int) (ro2 co2 : Int) (hi2 : Bool)
    (hrr : 1 ≤ rr ∧ rr ≤ 60)
    (hcw : 1 ≤ cw ∧ cw ≤ 120)
    (h0 : ((↑rr : Int) = (↑rr2 : Int)))
    (h1 : (¬(↑cw : Int) = (↑cw2 : Int))) :
    Contract0 Try.prog 21 [(.agg [(.int .i64 (↑rr)), (.int .i64 (↑cw)), (.sl 1 0 0 rr 1), (.int .i64 ro), (.int .i64 co), (.bool hi)]), (.agg [(.int .i64 (↑rr2)), (.int .i64 (↑cw2)), (.sl 3 0 0 rr2 1), (.int .i64 ro2), (.int .i64 co2), (.bool hi2)])] [(1, (.one ⟨false, false, (.gen rr (fun j_ => (.sl 2 j_ 0 cw 4)))⟩)), (2, (.many (fun j_ => some ⟨false, false, (.ig (W.rl rr (cw * 4) j_) W.ck (fun p_ => (X j_ p_)))⟩))), (3, (.one ⟨false, false, (.gen rr2 (fun j_ => (.sl 4 j_ 0 cw2 4)))⟩)), (4, (.many (fun j_ => some ⟨false, false, (.ig (W.rl rr2 (cw2 * 4) j_) W.ck (fun p_ => (X2 j_ p_)))⟩)))] 5 (.c (.bool (false))) [] [] :=
  Contract0.of_frunF (res := (.c (.bool (false)))) (up := []) (kill := []) (n0 := 5) (m := [(1, (.one ⟨false, false, (.gen rr (fun j_ => (.sl 2 j_ 0 cw 4)))⟩)), (2, (.many (fun j_ => some ⟨false, false, (.ig (W.rl rr (cw * 4) j_) W.ck (fun p_ => (X j_ p_)))⟩))), (3, (.one ⟨false, false, (.gen rr2 (fun j_ => (.sl 4 j_ 0 cw2 4)))⟩)), (4, (.many (fun j_ => some ⟨false, false, (.ig (W.rl rr2 (cw2 * 4) j_) W.ck (fun p_ => (X2 j_ p_)))⟩)))]) (args := [(.agg [(.int .i64 (↑rr)), (.int .i64 (↑cw)), (.sl 1 0 0 rr 1), (.int .i64 ro), (.int .i64 co), (.bool hi)]), (.agg [(.int .i64 (↑rr2)), (.int .i64 (↑cw2)), (.sl 3 0 0 rr2 1), (.int .i64 ro2), (.int .i64 co2), (.bool hi2)])]) (fn := Try.f21) (c := bodyOf Try.f21) (fuel := 300) (k := kOf Try.prog Try.f21) (outs := []) (hs := [(8, ⟨.auto, some (.c (.bool (true)))⟩), (15, ⟨.auto, some (.c (.bool (false)))⟩)])
    (cs := [EB ((↑cw : Int) == (↑cw2 : Int)) false,
      EB ((↑rr : Int) == (↑rr2 : Int)) true])
    mixed Try.func21 (by kernel_rfl) (by kernel_rfl) (by kernel_rfl) ⟨rfl, (.inr (RoF.of (fun _ => rfl))), rfl, (.inr (RoF.of (fun _ => rfl))), trivial⟩ (by kernel_rfl) ⟨.mk (beq_f h1), .mk (beq_t h0), trivial⟩
theorem psm_f (rr cw : Nat) (X : Nat → Nat → Int) (ro co : Int) (hi : Bool) (rr2 cw2 : Nat) (X2 : Nat → Nat → Int) (ro2 co2 : Int) (hi2 : Bool)
    (hrr : 1 ≤ rr ∧ rr ≤ 60)
    (hcw : 1 ≤ cw ∧ cw ≤ 120)
    (h0 : (¬(↑rr : Int) = (↑rr2 : Int))) :
    Contract0 Try.prog 21 [(.agg [(.int .i64 (↑rr)), (.int .i64 (↑cw)), (.sl 1 0 0 rr 1), (.int .i64 ro), (.int .i64 co), (.bool hi)]), (.agg [(.int .i64 (↑rr2)), (.int .i64 (↑cw2)), (.sl 3 0 0 rr2 1), (.int .i64 ro2), (.int .i64 co2), (.bool hi2)])] [(1, (.one ⟨false, false, (.gen rr (fun j_ => (.sl 2 j_ 0 cw 4)))⟩)), (2, (.many (fun j_ => some ⟨false, false, (.ig (W.rl rr (cw * 4) j_) W.ck (fun p_ => (X j_ p_)))⟩))), (3, (.one ⟨false, false, (.gen rr2 (fun j_ => (.sl 4 j_ 0 cw2 4)))⟩)), (4, (.many (fun j_ => some ⟨false, false, (.ig (W.rl rr2 (cw2 * 4) j_) W.ck (fun p_ => (X2 j_ p_)))⟩)))] 5 (.c (.bool (false))) [] [] :=
  Contract0.of_frunF (res := (.c (.bool (false)))) (up := []) (kill := []) (n0 := 5) (m := [(1, (.one ⟨false, false, (.gen rr (fun j_ => (.sl 2 j_ 0 cw 4)))⟩)), (2, (.many (fun j_ => some ⟨false, false, (.ig (W.rl rr (cw * 4) j_) W.ck (fun p_ => (X j_ p_)))⟩))), (3, (.one ⟨false, false, (.gen rr2 (fun j_ => (.sl 4 j_ 0 cw2 4)))⟩)), (4, (.many (fun j_ => some ⟨false, false, (.ig (W.rl rr2 (cw2 * 4) j_) W.ck (fun p_ => (X2 j_ p_)))⟩)))]) (args := [(.agg [(.int .i64 (↑rr)), (.int .i64 (↑cw)), (.sl 1 0 0 rr 1), (.int .i64 ro), (.int .i64 co), (.bool hi)]), (.agg [(.int .i64 (↑rr2)), (.int .i64 (↑cw2)), (.sl 3 0 0 rr2 1), (.int .i64 ro2), (.int .i64 co2), (.bool hi2)])]) (fn := Try.f21) (c := bodyOf Try.f21) (fuel := 300) (k := kOf Try.prog Try.f21) (outs := []) (hs := [(8, ⟨.auto, some (.c (.bool (false)))⟩)])
    (cs := [EB ((↑rr : Int) == (↑rr2 : Int)) false])
    mixed Try.func21 (by kernel_rfl) (by kernel_rfl) (by kernel_rfl) ⟨rfl, (.inr (RoF.of (fun _ => rfl))), rfl, (.inr (RoF.of (fun _ => rfl))), trivial⟩ (by kernel_rfl) ⟨.mk (beq_f h0), trivial⟩
end Go.Proofs.Ytohleiikedpmkaa.Vm

namespace Go.Proofs.Ytohleiikedpmkaa.Vm
open Go Go.Proofs Go.Proofs.Ytohleiikedpmkaa
set_option maxRecDepth 100000
theorem right_bad_t (rr cw : Nat) (X : Nat → Nat → Int) (ro co : Int) (hi : Bool) (zr : Int)
    (hz : ¬ zr = (rr : Int))
    (h0 : (W.szB zr (↑cw : Int) ro co = true)) :
    Contract0 Try.prog 19 [(.agg [(.int .i64 zr), (.int .i64 (↑cw)), (.sl 1 0 0 rr 1), (.int .i64 ro), (.int .i64 co), (.bool hi)])] [(1, (.one ⟨false, false, (.gen rr (fun j_ => (.sl 2 j_ 0 cw 4)))⟩)), (2, (.many (fun j_ => some ⟨false, false, (.ig (W.rl rr (cw * 4) j_) W.ck (fun p_ => (X j_ p_)))⟩)))] 3 (.c (.bool (false))) [] [] :=
  Contract0.of_frunF (res := (.c (.bool (false)))) (up := []) (kill := []) (n0 := 3) (m := [(1, (.one ⟨false, false, (.gen rr (fun j_ => (.sl 2 j_ 0 cw 4)))⟩)), (2, (.many (fun j_ => some ⟨false, false, (.ig (W.rl rr (cw * 4) j_) W.ck (fun p_ => (X j_ p_)))⟩)))]) (args := [(.agg [(.int .i64 zr), (.int .i64 (↑cw)), (.sl 1 0 0 rr 1), (.int .i64 ro), (.int .i64 co), (.bool hi)])]) (fn := Try.f19) (c := bodyOf Try.f19) (fuel := 300) (k := kOf Try.prog Try.f19) (outs := []) (hs := [(10, ⟨.call [] (.c (.bool (W.szB zr (↑cw) ro co))) [] [], none⟩), (12, ⟨.auto, some (.c (.bool (false)))⟩), (18, ⟨.auto, some (.c (.bool (true)))⟩)])
    (cs := [EB ((↑rr : Int) != zr) true,
      EB (!W.szB zr (↑cw : Int) ro co) false,
      Contract Try.prog 32 [(.c (.int .i64 zr)), (.c (.int .i64 (↑cw))), (.c (.int .i64 ro)), (.c (.int .i64 co))] [] 163 (.c (.bool (W.szB zr (↑cw) ro co))) [] []])
    mixed Try.func19 (by kernel_rfl) (by kernel_rfl) (by kernel_rfl) ⟨rfl, (.inr (RoF.of (fun _ => rfl))), trivial⟩ (by kernel_rfl) ⟨.mk (bne_t (by omega)), .mk (not_f h0), Contract0.in1 (size_any zr ((↑cw : Int)) ro co) [] [none, none, none, none] [] [] (by kernel_rfl), trivial⟩
theorem right_bad_f (rr cw : Nat) (X : Nat → Nat → Int) (ro co : Int) (hi : Bool) (zr : Int)
    (hz : ¬ zr = (rr : Int))
    (h0 : (¬W.szB zr (↑cw : Int) ro co = true)) :
    Contract0 Try.prog 19 [(.agg [(.int .i64 zr), (.int .i64 (↑cw)), (.sl 1 0 0 rr 1), (.int .i64 ro), (.int .i64 co), (.bool hi)])] [(1, (.one ⟨false, false, (.gen rr (fun j_ => (.sl 2 j_ 0 cw 4)))⟩)), (2, (.many (fun j_ => some ⟨false, false, (.ig (W.rl rr (cw * 4) j_) W.ck (fun p_ => (X j_ p_)))⟩)))] 3 (.c (.bool (false))) [] [] :=
  Contract0.of_frunF (res := (.c (.bool (false)))) (up := []) (kill := []) (n0 := 3) (m := [(1, (.one ⟨false, false, (.gen rr (fun j_ => (.sl 2 j_ 0 cw 4)))⟩)), (2, (.many (fun j_ => some ⟨false, false, (.ig (W.rl rr (cw * 4) j_) W.ck (fun p_ => (X j_ p_)))⟩)))]) (args := [(.agg [(.int .i64 zr), (.int .i64 (↑cw)), (.sl 1 0 0 rr 1), (.int .i64 ro), (.int .i64 co), (.bool hi)])]) (fn := Try.f19) (c := bodyOf Try.f19) (fuel := 300) (k := kOf Try.prog Try.f19) (outs := []) (hs := [(10, ⟨.call [] (.c (.bool (W.szB zr (↑cw) ro co))) [] [], none⟩), (12, ⟨.auto, some (.c (.bool (true)))⟩)])
    (cs := [EB (!W.szB zr (↑cw : Int) ro co) true,
      Contract Try.prog 32 [(.c (.int .i64 zr)), (.c (.int .i64 (↑cw))), (.c (.int .i64 ro)), (.c (.int .i64 co))] [] 163 (.c (.bool (W.szB zr (↑cw) ro co))) [] []])
    mixed Try.func19 (by kernel_rfl) (by kernel_rfl) (by kernel_rfl) ⟨rfl, (.inr (RoF.of (fun _ => rfl))), trivial⟩ (by kernel_rfl) ⟨.mk (not_t (Bool.eq_false_iff.2 h0)), Contract0.in1 (size_any zr ((↑cw : Int)) ro co) [] [none, none, none, none] [] [] (by kernel_rfl), trivial⟩
theorem rs_bad_t (rr cw : Nat) (X : Nat → Nat → Int) (ro co : Int) (hi : Bool) (zr : Int)
    (hz : ¬ zr = (rr : Int))
    (h0 : (W.rzB zr (↑cw : Int) = true)) :
    Contract0 Try.prog 20 [(.agg [(.int .i64 zr), (.int .i64 (↑cw)), (.sl 1 0 0 rr 1), (.int .i64 ro), (.int .i64 co), (.bool hi)])] [(1, (.one ⟨false, false, (.gen rr (fun j_ => (.sl 2 j_ 0 cw 4)))⟩)), (2, (.many (fun j_ => some ⟨false, false, (.ig (W.rl rr (cw * 4) j_) W.ck (fun p_ => (X j_ p_)))⟩)))] 3 (.c (.bool (false))) [] [] :=
  Contract0.of_frunF (res := (.c (.bool (false)))) (up := []) (kill := []) (n0 := 3) (m := [(1, (.one ⟨false, false, (.gen rr (fun j_ => (.sl 2 j_ 0 cw 4)))⟩)), (2, (.many (fun j_ => some ⟨false, false, (.ig (W.rl rr (cw * 4) j_) W.ck (fun p_ => (X j_ p_)))⟩)))]) (args := [(.agg [(.int .i64 zr), (.int .i64 (↑cw)), (.sl 1 0 0 rr 1), (.int .i64 ro), (.int .i64 co), (.bool hi)])]) (fn := Try.f20) (c := bodyOf Try.f20) (fuel := 300) (k := kOf Try.prog Try.f20) (outs := []) (hs := [(6, ⟨.call [] (.c (.bool (W.rzB zr ↑cw))) [] [], none⟩), (8, ⟨.auto, some (.c (.bool (false)))⟩), (14, ⟨.auto, some (.c (.bool (true)))⟩)])
    (cs := [EB ((↑rr : Int) != zr) true,
      EB (!W.rzB zr (↑cw : Int)) false,
      Contract Try.prog 34 [(.c (.int .i64 zr)), (.c (.int .i64 (↑cw)))] [] 99 (.c (.bool (W.rzB zr ↑cw))) [] []])
    mixed Try.func20 (by kernel_rfl) (by kernel_rfl) (by kernel_rfl) ⟨rfl, (.inr (RoF.of (fun _ => rfl))), trivial⟩ (by kernel_rfl) ⟨.mk (bne_t (by omega)), .mk (not_f h0), Contract0.in1 (rsize_any zr ((↑cw : Int))) [] [none, none] [] [] (by kernel_rfl), trivial⟩
theorem rs_bad_f (rr cw : Nat) (X : Nat → Nat → Int) (ro co : Int) (hi : Bool) (zr : Int)
    (hz : ¬ zr = (rr : Int))
    (h0 : (¬W.rzB zr (↑cw : Int) = true)) :
    Contract0 Try.prog 20 [(.agg [(.int .i64 zr), (.int .i64 (↑cw)), (.sl 1 0 0 rr 1), (.int .i64 ro), (.int .i64 co), (.bool hi)])] [(1, (.one ⟨false, false, (.gen rr (fun j_ => (.sl 2 j_ 0 cw 4)))⟩)), (2, (.many (fun j_ => some ⟨false, false, (.ig (W.rl rr (cw * 4) j_) W.ck (fun p_ => (X j_ p_)))⟩)))] 3 (.c (.bool (false))) [] [] :=
  Contract0.of_frunF (res := (.c (.bool (false)))) (up := []) (kill := []) (n0 := 3) (m := [(1, (.one ⟨false, false, (.gen rr (fun j_ => (.sl 2 j_ 0 cw 4)))⟩)), (2, (.many (fun j_ => some ⟨false, false, (.ig (W.rl rr (cw * 4) j_) W.ck (fun p_ => (X j_ p_)))⟩)))]) (args := [(.agg [(.int .i64 zr), (.int .i64 (↑cw)), (.sl 1 0 0 rr 1), (.int .i64 ro), (.int .i64 co), (.bool hi)])]) (fn := Try.f20) (c := bodyOf Try.f20) (fuel := 300) (k := kOf Try.prog Try.f20) (outs := []) (hs := [(6, ⟨.call [] (.c (.bool (W.rzB zr ↑cw))) [] [], none⟩), (8, ⟨.auto, some (.c (.bool (true)))⟩)])
    (cs := [EB (!W.rzB zr (↑cw : Int)) true,
      Contract Try.prog 34 [(.c (.int .i64 zr)), (.c (.int .i64 (↑cw)))] [] 99 (.c (.bool (W.rzB zr ↑cw))) [] []])
    mixed Try.func20 (by kernel_rfl) (by kernel_rfl) (by kernel_rfl) ⟨rfl, (.inr (RoF.of (fun _ => rfl))), trivial⟩ (by kernel_rfl) ⟨.mk (not_t (Bool.eq_false_iff.2 h0)), Contract0.in1 (rsize_any zr ((↑cw : Int))) [] [none, none] [] [] (by kernel_rfl), trivial⟩
end Go.Proofs.Ytohleiikedpmkaa.Vm

namespace Go.Proofs.Ytohleiikedpmkaa.Vm
open Go Go.Proofs Go.Proofs.Ytohleiikedpmkaa
set_option maxRecDepth 100000
theorem clip_any60 (n : Int) :
    PureF Try.prog 40 [(.c (.int .i64 n)), (.c (.int .i64 1)), (.c (.int .i64 60))] (.c (.int .i64 (max 1 (min n 60)))) :=
  Contract0.fr 300 [(4, ⟨.auto, some (.c (.int .i64 (min n 60)))⟩), (5, ⟨.auto, some (.c (.int .i64 (max 1 (min n 60))))⟩)] [] [EI .i64 (bif decide (min n 60 > 1) then min n 60 else 1) (max 1 (min n 60)),
      EI .i64 (bif decide (60 < n) then 60 else n) (min n 60)] mixed Try.func40 (by kernel_rfl) ⟨.mk (by simp only [addO_eq, mulE_eq, mulE_one, Int.toNat_natCast, IntKind.wrap_i64, mmin, mmax]), .mk (by simp only [addO_eq, mulE_eq, mulE_one, Int.toNat_natCast, IntKind.wrap_i64, mmin, mmax]), trivial⟩
theorem clip_any120 (n : Int) :
    PureF Try.prog 40 [(.c (.int .i64 n)), (.c (.int .i64 1)), (.c (.int .i64 120))] (.c (.int .i64 (max 1 (min n 120)))) :=
  Contract0.fr 300 [(4, ⟨.auto, some (.c (.int .i64 (min n 120)))⟩), (5, ⟨.auto, some (.c (.int .i64 (max 1 (min n 120))))⟩)] [] [EI .i64 (bif decide (min n 120 > 1) then min n 120 else 1) (max 1 (min n 120)),
      EI .i64 (bif decide (120 < n) then 120 else n) (min n 120)] mixed Try.func40 (by kernel_rfl) ⟨.mk (by simp only [addO_eq, mulE_eq, mulE_one, Int.toNat_natCast, IntKind.wrap_i64, mmin, mmax]), .mk (by simp only [addO_eq, mulE_eq, mulE_one, Int.toNat_natCast, IntKind.wrap_i64, mmin, mmax]), trivial⟩
theorem blank_a (rows cols : Int) (rr cw : Nat)
    (hR : 1 ≤ rr ∧ rr ≤ 60)
    (hC : 1 ≤ cw ∧ cw ≤ 120)
    (hr : min (max rows 1) 60 = (rr : Int))
    (hc : min (max cols 1) 120 = (cw : Int)) :
    Contract0 Try.prog 22 [(.c (.int .i64 rows)), (.c (.int .i64 cols))] [] 1 (.agg [(.int .i64 (↑rr)), (.int .i64 (↑cw)), (.sl 1 0 0 rr 1), (.int .i64 0), (.int .i64 0), (.bool (false))]) [] [(1, (.one ⟨true, false, (.gen rr (fun j_ => (.sl 2 j_ 0 cw 4)))⟩)), (2, (.many (fun j_ => some ⟨true, true, (.ig (W.rl rr (cw * 4) j_) W.ck W.blank)⟩)))] :=
  Contract0.renum (Contract0.of_frun (res := (.agg [(.int .i64 (↑rr)), (.int .i64 (↑cw)), (.sl 217 0 0 rr 1), (.int .i64 0), (.int .i64 0), (.bool (false))])) (up := [(217, (.one ⟨true, false, (.gen rr (fun j_ => (.sl 218 j_ 0 cw 4)))⟩)), (218, (.many (fun j_ => some ⟨true, true, (.ig (W.rl rr (cw * 4) j_) W.ck W.blank)⟩)))]) (kill := []) (n0 := 1) (m := []) (args := [(.c (.int .i64 rows)), (.c (.int .i64 cols))]) (fn := Try.f22) (c := bodyOf Try.f22) (fuel := 300) (k := kOf Try.prog Try.f22) (outs := [217, 218]) (hs := [(2, ⟨.auto, some (.c (.int .i64 (max rows 1)))⟩), (3, ⟨.auto, some (.c (.int .i64 (↑rr)))⟩), (5, ⟨.auto, some (.c (.int .i64 (max cols 1)))⟩), (6, ⟨.auto, some (.c (.int .i64 (↑cw)))⟩), (13, ⟨.sum ⟨[4, 5, 14, 15], [1, 129], [], 209⟩ (.exit 0) (LBI rr cw rr), none⟩)])
    (cs := [OwnF (fun j_ => some ⟨true, true, (.ig (W.rl rr (cw * 4) j_) W.ck W.blank)⟩),
      CodeOk Try.prog 29 209 (kAt (kOf Try.prog Try.f22) [true, true, false, true, false]) (LB0 rr cw) (.exit 0) (LBI rr cw rr),
      EI .i64 (bif decide (120 < max cols 1) then 120 else max cols 1) ((↑cw : Int)),
      EI .i64 (bif decide (1 > cols) then 1 else cols) (max cols 1),
      EI .i64 (bif decide (60 < max rows 1) then 60 else max rows 1) ((↑rr : Int)),
      EI .i64 (bif decide (1 > rows) then 1 else rows) (max rows 1)])
    mixed Try.func22 (by kernel_rfl) (by kernel_rfl) (by kernel_rfl) (by kernel_rfl) (by kernel_rfl) ⟨OwnF.of (fun _ => rfl), (blank_loop rr cw (by omega) (by omega)), .mk (by simp only [addO_eq, mulE_eq, mulE_one, Int.toNat_natCast, IntKind.wrap_i64, mmin, mmax]; omega), .mk (by simp only [addO_eq, mulE_eq, mulE_one, Int.toNat_natCast, IntKind.wrap_i64, mmin, mmax]), .mk (by simp only [addO_eq, mulE_eq, mulE_one, Int.toNat_natCast, IntKind.wrap_i64, mmin, mmax]; omega), .mk (by simp only [addO_eq, mulE_eq, mulE_one, Int.toNat_natCast, IntKind.wrap_i64, mmin, mmax]), trivial⟩) [] [] [(217, 1), (218, 2)] [] (by kernel_rfl) (by kernel_rfl) (by kernel_rfl) (by kernel_rfl) (by kernel_rfl)
end Go.Proofs.Ytohleiikedpmkaa.Vm

namespace Go.Proofs.Ytohleiikedpmkaa.W
def clp (x : Int) (m : Nat) : Nat := (max 1 (min x m)).toNat
theorem clp_in (x : Int) {m : Nat} (h : 1 ≤ m) : 1 ≤ clp x m ∧ clp x m ≤ m := by
  unfold clp; omega
end Go.Proofs.Ytohleiikedpmkaa.W
namespace Go.Proofs.Ytohleiikedpmkaa.Vm
open Go Go.Proofs Go.Proofs.Ytohleiikedpmkaa
theorem clip_c60 (n : Int) : PureF Try.prog 40 [(.c (.int .i64 n)), (.c (.int .i64 1)), (.c (.int .i64 60))] (.c (.int .i64 (W.clp n 60 : Int))) := by
  rw [show ((W.clp n 60 : Nat) : Int) = max 1 (min n 60) by unfold W.clp; omega]; exact clip_any60 n
theorem clip_c120 (n : Int) : PureF Try.prog 40 [(.c (.int .i64 n)), (.c (.int .i64 1)), (.c (.int .i64 120))] (.c (.int .i64 (W.clp n 120 : Int))) := by
  rw [show ((W.clp n 120 : Nat) : Int) = max 1 (min n 120) by unfold W.clp; omega]; exact clip_any120 n
end Go.Proofs.Ytohleiikedpmkaa.Vm

namespace Go.Proofs.Ytohleiikedpmkaa.Vm
open Go Go.Proofs Go.Proofs.Ytohleiikedpmkaa
set_option maxRecDepth 100000
theorem bs_a (rows cols : Int)
    (hR : 1 ≤ W.clp rows 60 ∧ W.clp rows 60 ≤ 60)
    (hC : 1 ≤ W.clp cols 120 ∧ W.clp cols 120 ≤ 120) :
    Contract0 Try.prog 23 [(.c (.int .i64 rows)), (.c (.int .i64 cols))] [] 1 (.agg [(.int .i64 (↑(W.clp rows 60))), (.int .i64 (↑(W.clp cols 120))), (.sl 1 0 0 (W.clp rows 60) 1), (.int .i64 0), (.int .i64 0), (.bool (false))]) [] [(1, (.one ⟨true, false, (.gen (W.clp rows 60) (fun j_ => (.sl 2 j_ 0 (W.clp cols 120) 4)))⟩)), (2, (.many (fun j_ => some ⟨true, true, (.ig (W.rl (W.clp rows 60) (W.clp cols 120 * 4) j_) W.ck W.blank)⟩)))] :=
  Contract0.renum (Contract0.of_frun (res := (.agg [(.int .i64 (↑(W.clp rows 60))), (.int .i64 (↑(W.clp cols 120))), (.sl 153 0 0 (W.clp rows 60) 1), (.int .i64 0), (.int .i64 0), (.bool (false))])) (up := [(153, (.one ⟨true, false, (.gen (W.clp rows 60) (fun j_ => (.sl 154 j_ 0 (W.clp cols 120) 4)))⟩)), (154, (.many (fun j_ => some ⟨true, true, (.ig (W.rl (W.clp rows 60) (W.clp cols 120 * 4) j_) W.ck W.blank)⟩)))]) (kill := []) (n0 := 1) (m := []) (args := [(.c (.int .i64 rows)), (.c (.int .i64 cols))]) (fn := Try.f23) (c := bodyOf Try.f23) (fuel := 300) (k := kOf Try.prog Try.f23) (outs := [153, 154]) (hs := [(2, ⟨.call [] (.c (.int .i64 (↑(W.clp rows 60)))) [] [], none⟩), (4, ⟨.call [] (.c (.int .i64 (↑(W.clp cols 120)))) [] [], none⟩), (9, ⟨.sum ⟨[4, 5, 6], [1, 97], [], 145⟩ (.exit 0) (LTI (W.clp rows 60) (W.clp cols 120) (W.clp rows 60)), none⟩)])
    (cs := [OwnF (fun j_ => some ⟨true, true, (.ig (W.rl (W.clp rows 60) (W.clp cols 120 * 4) j_) W.ck W.blank)⟩),
      CodeOk Try.prog 40 145 (kAt (kOf Try.prog Try.f23) [true, true, false, true, false]) (LT0 (W.clp rows 60) (W.clp cols 120)) (.exit 0) (LTI (W.clp rows 60) (W.clp cols 120) (W.clp rows 60)),
      Contract Try.prog 40 [(.c (.int .i64 cols)), (.c (.int .i64 1)), (.c (.int .i64 120))] [] 65 (.c (.int .i64 (↑(W.clp cols 120)))) [] [],
      Contract Try.prog 40 [(.c (.int .i64 rows)), (.c (.int .i64 1)), (.c (.int .i64 60))] [] 33 (.c (.int .i64 (↑(W.clp rows 60)))) [] []])
    mixed Try.func23 (by kernel_rfl) (by kernel_rfl) (by kernel_rfl) (by kernel_rfl) (by kernel_rfl) ⟨OwnF.of (fun _ => rfl), (bs_loop (W.clp rows 60) (W.clp cols 120) (by omega) (by omega)), Contract0.in1 (clip_c120 cols) [] [none, none, none] [] [] (by kernel_rfl), Contract0.in1 (clip_c60 rows) [] [none, none, none] [] [] (by kernel_rfl), trivial⟩) [] [] [(153, 1), (154, 2)] [] (by kernel_rfl) (by kernel_rfl) (by kernel_rfl) (by kernel_rfl) (by kernel_rfl)
end Go.Proofs.Ytohleiikedpmkaa.Vm

namespace Go.Proofs.Ytohleiikedpmkaa.Vm
open Go Go.Proofs Go.Proofs.Ytohleiikedpmkaa
set_option maxRecDepth 100000
noncomputable def LXScI (rr cw : Nat) (X X2 : Nat → Nat → Int) (ro co ro2 co2 : Int) (hi hi2 : Bool) (i e : Nat) (L : W.Rn) (k m : Nat) (f : Nat → Int) : S0 :=
  ⟨[(2, (.c (.ptr 5 0 0))), (3, (.c (.ptr 21 0 0))), (4, (.c (.ptr 37 0 0))), (5, (.c (.ptr 229 0 0))), (6, (.c (.int .i64 (i : Int)))), (8, (.c (.ptr 190690 0 0))), (7, (.c (.int .i64 (e : Int))))], [(1, (.one ⟨false, false, (.gen rr (fun j_ => (.sl 2 j_ 0 cw 4)))⟩)), (2, (.many (fun j_ => some ⟨false, false, (.ig (W.rl rr (cw * 4) j_) W.ck (fun p_ => (X j_ p_)))⟩))), (3, (.one ⟨false, false, (.gen rr (fun j_ => (.sl 4 j_ 0 cw 4)))⟩)), (4, (.many (fun j_ => some ⟨false, false, (.ig (W.rl rr (cw * 4) j_) W.ck (fun p_ => (X2 j_ p_)))⟩))), (5, (.one ⟨true, true, (.cells [(.int .i64 (↑rr)), (.int .i64 (↑cw)), (.sl 1 0 0 rr 1), (.int .i64 ro), (.int .i64 co), (.bool hi)])⟩)), (21, (.one ⟨true, true, (.cells [(.int .i64 (↑rr)), (.int .i64 (↑cw)), (.sl 3 0 0 rr 1), (.int .i64 ro2), (.int .i64 co2), (.bool hi2)])⟩)), (37, (.one ⟨true, true, (.cells [(.int .i64 0), (.int .i64 0), (.int .i64 0), (.int .i64 0), (.bool (false)), .nils])⟩)), (229, (.one ⟨true, true, .cells [.int .i64 (rr : Int), .int .i64 (cw : Int), .int .i64 ro2, .int .i64 co2, .bool hi2, .sl 100008 0 0 L.length 3]⟩)), (100008, (.one ⟨true, false, .row (L.length * 3) 3 (fun k_ => [.int .i64 (W.ra L k_ : Int), .int .i64 (W.rb L k_ : Int), .sl 100009 k_ 0 (W.rn L k_) 4])⟩)), (100009, (.many (fun j_ => some ⟨true, false, .ig (W.rn L j_ * 4) W.ck (fun p_ => X2 (W.ra L j_) (p_ + W.rb L j_ * 4))⟩))), (190690, (.one ⟨true, true, .cells [.int .i64 (i : Int), .int .i64 (k : Int), .sl 200008 0 0 m 4]⟩)), (200008, (.one ⟨true, false, .ig (m * 4) W.ck f⟩))], 200016⟩
theorem LXSc_by {α : Type} (I : α → S0) (Inv : α → Prop) (μ : α → Nat) {ex : Ex} {s' : S0} (hex : ex ≠ .normal)
    (step : ∀ x, Inv x → (∃ y, Inv y ∧ μ y < μ x ∧ CodeOk Try.prog 114 200000 (kAt (kOf Try.prog Try.f13) [true, true, true, false, true, false, false, true, false, false, true, false, false, true, false, true, true, false, false, false]) (I x) .normal (I y)) ∨ CodeOk Try.prog 114 200000 (kAt (kOf Try.prog Try.f13) [true, true, true, false, true, false, false, true, false, false, true, false, false, true, false, true, true, false, false, false]) (I x) ex s') (x : α) (hx : Inv x) :
    CodeOk Try.prog 114 200000 (kAt (kOf Try.prog Try.f13) [true, true, true, false, true, false, false, true, false, false, true, false, false, true, false, true, true, false, false]) (I x) ex s' := by
  have hk : (kAt (kOf Try.prog Try.f13) [true, true, true, false, true, false, false, true, false, false, true, false, false, true, false, true, true, false, false]) = .loop (kAt (kOf Try.prog Try.f13) [true, true, true, false, true, false, false, true, false, false, true, false, false, true, false, true, true, false, false, false]) := by kernel_rfl
  rw [hk]
  exact CodeOk.loop I Inv μ hex step x hx
theorem LXSc_xtt (rr cw : Nat) (X X2 : Nat → Nat → Int) (ro co ro2 co2 : Int) (hi hi2 : Bool) (i e : Nat) (L : W.Rn) (k m : Nat) (f : Nat → Int)
    (hrr : 1 ≤ rr ∧ rr ≤ 60)
    (hcw : 1 ≤ cw ∧ cw ≤ 120)
    (hil : i < rr)
    (hel : e ≤ cw)
    (hm : m ≤ 120)
    (hL : L.length ≤ 10000)
    (h0 : ((↑e : Int) < (↑cw : Int)))
    (h1 : ((X i (e * (4 : Nat)) == X2 i (e * (4 : Nat)) && (X i (e * (4 : Nat) + (1 : Nat)) == X2 i (e * (4 : Nat) + (1 : Nat)) && (X i (e * (4 : Nat) + (2 : Nat)) == X2 i (e * (4 : Nat) + (2 : Nat)) && (X i (e * (4 : Nat) + (3 : Nat)) == X2 i (e * (4 : Nat) + (3 : Nat)) && true)))) = true)) :
    CodeOk Try.prog 114 200000 (kAt (kOf Try.prog Try.f13) [true, true, true, false, true, false, false, true, false, false, true, false, false, true, false, true, true, false, false, false]) (LXScI rr cw X X2 ro co ro2 co2 hi hi2 i e L k m f) (.exit 4) (LXScI rr cw X X2 ro co ro2 co2 hi hi2 i e L k m f) :=
  CodeOk.of_runs (fuel := 2) (v := ⟨[2, 3, 4, 5, 6, 8, 7], [1, 2, 3, 4, 5, 21, 37, 229, 100008, 100009, 190690, 200008], [(200008, 200008)], 200016⟩) (hs := [(4, ⟨.auto, some (.c (.bool (true)))⟩), (8, ⟨.ask, none⟩), (9, ⟨.ask, none⟩), (11, ⟨.ask, none⟩), (12, ⟨.ask, some (.agg [(.int .i32 (X i (e * 4))), (.int .i64 (X i (e * 4 + 1))), (.int .i64 (X i (e * 4 + 2))), (.int .i64 (X i (e * 4 + 3)))])⟩), (16, ⟨.ask, none⟩), (17, ⟨.ask, none⟩), (19, ⟨.ask, none⟩), (20, ⟨.ask, some (.agg [(.int .i32 (X2 i (e * 4))), (.int .i64 (X2 i (e * 4 + 1))), (.int .i64 (X2 i (e * 4 + 2))), (.int .i64 (X2 i (e * 4 + 3)))])⟩), (22, ⟨.auto, some (.c (.bool (false)))⟩)])
    (cs := [EB (!(X i (e * 4) == X2 i (e * 4) && (X i (e * 4 + 1) == X2 i (e * 4 + 1) && (X i (e * 4 + 2) == X2 i (e * 4 + 2) && (X i (e * 4 + 3) == X2 i (e * 4 + 3) && true))))) false,
      ((.agg ((List.range 4).map (fun p_ => .int (W.ck (p_ + e * 4)) (X2 i (p_ + e * 4))))) : V) = (.agg [(.int .i32 (X2 i (e * 4))), (.int .i64 (X2 i (e * 4 + 1))), (.int .i64 (X2 i (e * 4 + 2))), (.int .i64 (X2 i (e * 4 + 3)))]),
      (e * (4 : Nat) + (4 : Nat) ≤ W.rl rr (cw * (4 : Nat)) i),
      ((0 : Int) ≤ (↑e : Int) ∧ (↑e : Int) < (↑cw : Int)),
      (i + (1 : Nat) ≤ rr),
      ((0 : Int) ≤ (↑i : Int) ∧ (↑i : Int) < (↑rr : Int)),
      ((.agg ((List.range 4).map (fun p_ => .int (W.ck (p_ + e * 4)) (X i (p_ + e * 4))))) : V) = (.agg [(.int .i32 (X i (e * 4))), (.int .i64 (X i (e * 4 + 1))), (.int .i64 (X i (e * 4 + 2))), (.int .i64 (X i (e * 4 + 3)))]),
      (e * (4 : Nat) + (4 : Nat) ≤ W.rl rr (cw * (4 : Nat)) i),
      ((0 : Int) ≤ (↑e : Int) ∧ (↑e : Int) < (↑cw : Int)),
      (i + (1 : Nat) ≤ rr),
      ((0 : Int) ≤ (↑i : Int) ∧ (↑i : Int) < (↑rr : Int)),
      EB (decide ((↑e : Int) < (↑cw : Int))) true])
    mixed (by kernel_rfl) ⟨.mk (not_f h1), EV.ck4 (g := (fun p_ => (X2 i p_))) (o := (e * 4)) (by omega) (by omega), (by rw [rl_lt (by omega)]; omega), (by omega), (by omega), (by omega), EV.ck4 (g := (fun p_ => (X i p_))) (o := (e * 4)) (by omega) (by omega), (by rw [rl_lt (by omega)]; omega), (by omega), (by omega), (by omega), .mk (decide_eq_true h0), trivial⟩
theorem LXSc_rtf (rr cw : Nat) (X X2 : Nat → Nat → Int) (ro co ro2 co2 : Int) (hi hi2 : Bool) (i e : Nat) (L : W.Rn) (k m : Nat) (f : Nat → Int)
    (hrr : 1 ≤ rr ∧ rr ≤ 60)
    (hcw : 1 ≤ cw ∧ cw ≤ 120)
    (hil : i < rr)
    (hel : e ≤ cw)
    (hm : m ≤ 120)
    (hL : L.length ≤ 10000)
    (h0 : ((↑e : Int) < (↑cw : Int)))
    (h1 : (¬(X i (e * (4 : Nat)) == X2 i (e * (4 : Nat)) && (X i (e * (4 : Nat) + (1 : Nat)) == X2 i (e * (4 : Nat) + (1 : Nat)) && (X i (e * (4 : Nat) + (2 : Nat)) == X2 i (e * (4 : Nat) + (2 : Nat)) && (X i (e * (4 : Nat) + (3 : Nat)) == X2 i (e * (4 : Nat) + (3 : Nat)) && true)))) = true)) :
    CodeOk Try.prog 114 200000 (kAt (kOf Try.prog Try.f13) [true, true, true, false, true, false, false, true, false, false, true, false, false, true, false, true, true, false, false, false]) (LXScI rr cw X X2 ro co ro2 co2 hi hi2 i e L k m f) .normal ⟨[(2, (.c (.ptr 5 0 0))), (3, (.c (.ptr 21 0 0))), (4, (.c (.ptr 37 0 0))), (5, (.c (.ptr 229 0 0))), (6, (.c (.int .i64 (↑i)))), (8, (.c (.ptr 190690 0 0))), (7, (.c (.int .i64 (↑(e + 1)))))], [(1, (.one ⟨false, false, (.gen rr (fun j_ => (.sl 2 j_ 0 cw 4)))⟩)), (2, (.many (fun j_ => some ⟨false, false, (.ig (W.rl rr (cw * 4) j_) W.ck (fun p_ => (X j_ p_)))⟩))), (3, (.one ⟨false, false, (.gen rr (fun j_ => (.sl 4 j_ 0 cw 4)))⟩)), (4, (.many (fun j_ => some ⟨false, false, (.ig (W.rl rr (cw * 4) j_) W.ck (fun p_ => (X2 j_ p_)))⟩))), (5, (.one ⟨true, true, (.cells [(.int .i64 (↑rr)), (.int .i64 (↑cw)), (.sl 1 0 0 rr 1), (.int .i64 ro), (.int .i64 co), (.bool hi)])⟩)), (21, (.one ⟨true, true, (.cells [(.int .i64 (↑rr)), (.int .i64 (↑cw)), (.sl 3 0 0 rr 1), (.int .i64 ro2), (.int .i64 co2), (.bool hi2)])⟩)), (37, (.one ⟨true, true, (.cells [(.int .i64 0), (.int .i64 0), (.int .i64 0), (.int .i64 0), (.bool (false)), .nils])⟩)), (229, (.one ⟨true, true, (.cells [(.int .i64 (↑rr)), (.int .i64 (↑cw)), (.int .i64 ro2), (.int .i64 co2), (.bool hi2), (.sl 100008 0 0 (List.length L) 3)])⟩)), (100008, (.one ⟨true, false, (.row (List.length L * 3) 3 (fun j_ => [(.int .i64 (↑(W.ra L j_))), (.int .i64 (↑(W.rb L j_))), (.sl 100009 j_ 0 (W.rn L j_) 4)]))⟩)), (100009, (.many (fun j_ => some ⟨true, false, (.ig (W.rn L j_ * 4) W.ck (fun p_ => (X2 (W.ra L j_) (p_ + W.rb L j_ * 4))))⟩))), (190690, (.one ⟨true, true, (.cells [(.int .i64 (↑i)), (.int .i64 (↑k)), (.sl 200000 0 0 (m + 1) 4)])⟩)), (200000, (.one ⟨true, false, (.ig (mulE m 4 + 4) (fun p_ => (bif Nat.blt p_ (m * 4) then W.ck (p_ + 0) else igK [(IntKind.i32, X2 i (e * 4)), (IntKind.i64, X2 i (e * 4 + 1)), (IntKind.i64, X2 i (e * 4 + 2)), (IntKind.i64, X2 i (e * 4 + 3))] (p_ - m * 4))) (fun p_ => (bif Nat.blt p_ (m * 4) then f (p_ + 0) else igG [(IntKind.i32, X2 i (e * 4)), (IntKind.i64, X2 i (e * 4 + 1)), (IntKind.i64, X2 i (e * 4 + 2)), (IntKind.i64, X2 i (e * 4 + 3))] (p_ - m * 4))))⟩))], 200016⟩ :=
  CodeOk.of_runs (fuel := 2) (v := ⟨[2, 3, 4, 5, 6, 8, 7], [1, 2, 3, 4, 5, 21, 37, 229, 100008, 100009, 190690, 200008, 200560], [(200008, 200008), (200560, 200000)], 200016⟩) (hs := [(4, ⟨.auto, some (.c (.bool (true)))⟩), (8, ⟨.ask, none⟩), (9, ⟨.ask, none⟩), (11, ⟨.ask, none⟩), (12, ⟨.ask, some (.agg [(.int .i32 (X i (e * 4))), (.int .i64 (X i (e * 4 + 1))), (.int .i64 (X i (e * 4 + 2))), (.int .i64 (X i (e * 4 + 3)))])⟩), (16, ⟨.ask, none⟩), (17, ⟨.ask, none⟩), (19, ⟨.ask, none⟩), (20, ⟨.ask, some (.agg [(.int .i32 (X2 i (e * 4))), (.int .i64 (X2 i (e * 4 + 1))), (.int .i64 (X2 i (e * 4 + 2))), (.int .i64 (X2 i (e * 4 + 3)))])⟩), (22, ⟨.auto, some (.c (.bool (true)))⟩), (29, ⟨.ask, none⟩), (30, ⟨.ask, none⟩), (32, ⟨.ask, none⟩), (33, ⟨.ask, some (.agg [(.int .i32 (X2 i (e * 4))), (.int .i64 (X2 i (e * 4 + 1))), (.int .i64 (X2 i (e * 4 + 2))), (.int .i64 (X2 i (e * 4 + 3)))])⟩), (35, ⟨.ask, some (.c (.sl 200560 0 0 (m + 1) 4))⟩), (39, ⟨.auto, some (.c (.int .i64 (↑(e + 1))))⟩)])
    (cs := [EI .i64 (IntKind.wrap IntKind.i64 ((↑e : Int) + 1)) ((↑(e + 1) : Int)),
      ((.c (.sl 200560 0 0 (addO m 1) 4)) : V) = (.c (.sl 200560 0 0 (m + 1) 4)),
      ((4 : Nat) ≤ (4 : Nat) ∧ (33 : Nat) * (m + (1 : Nat)) ≤ (4398046511104 : Nat) ∧ (0 : Nat) + m * (4 : Nat) ≤ m * (4 : Nat)),
      ((.agg ((List.range 4).map (fun p_ => .int (W.ck (p_ + e * 4)) (X2 i (p_ + e * 4))))) : V) = (.agg [(.int .i32 (X2 i (e * 4))), (.int .i64 (X2 i (e * 4 + 1))), (.int .i64 (X2 i (e * 4 + 2))), (.int .i64 (X2 i (e * 4 + 3)))]),
      (e * (4 : Nat) + (4 : Nat) ≤ W.rl rr (cw * (4 : Nat)) i),
      ((0 : Int) ≤ (↑e : Int) ∧ (↑e : Int) < (↑cw : Int)),
      (i + (1 : Nat) ≤ rr),
      ((0 : Int) ≤ (↑i : Int) ∧ (↑i : Int) < (↑rr : Int)),
      EB (!(X i (e * 4) == X2 i (e * 4) && (X i (e * 4 + 1) == X2 i (e * 4 + 1) && (X i (e * 4 + 2) == X2 i (e * 4 + 2) && (X i (e * 4 + 3) == X2 i (e * 4 + 3) && true))))) true,
      ((.agg ((List.range 4).map (fun p_ => .int (W.ck (p_ + e * 4)) (X2 i (p_ + e * 4))))) : V) = (.agg [(.int .i32 (X2 i (e * 4))), (.int .i64 (X2 i (e * 4 + 1))), (.int .i64 (X2 i (e * 4 + 2))), (.int .i64 (X2 i (e * 4 + 3)))]),
      (e * (4 : Nat) + (4 : Nat) ≤ W.rl rr (cw * (4 : Nat)) i),
      ((0 : Int) ≤ (↑e : Int) ∧ (↑e : Int) < (↑cw : Int)),
      (i + (1 : Nat) ≤ rr),
      ((0 : Int) ≤ (↑i : Int) ∧ (↑i : Int) < (↑rr : Int)),
      ((.agg ((List.range 4).map (fun p_ => .int (W.ck (p_ + e * 4)) (X i (p_ + e * 4))))) : V) = (.agg [(.int .i32 (X i (e * 4))), (.int .i64 (X i (e * 4 + 1))), (.int .i64 (X i (e * 4 + 2))), (.int .i64 (X i (e * 4 + 3)))]),
      (e * (4 : Nat) + (4 : Nat) ≤ W.rl rr (cw * (4 : Nat)) i),
      ((0 : Int) ≤ (↑e : Int) ∧ (↑e : Int) < (↑cw : Int)),
      (i + (1 : Nat) ≤ rr),
      ((0 : Int) ≤ (↑i : Int) ∧ (↑i : Int) < (↑rr : Int)),
      EB (decide ((↑e : Int) < (↑cw : Int))) true])
    mixed (by kernel_rfl) ⟨.mk (by simp only [addO_eq, mulE_eq, mulE_one, Int.toNat_natCast, IntKind.wrap_i64, mmin, mmax]; omega), EV.sl (by rfl) (by simp only [addO_eq, mulE_eq, mulE_one, Int.toNat_natCast, IntKind.wrap_i64, mmin, mmax]), (by omega), EV.ck4 (g := (fun p_ => (X2 i p_))) (o := (e * 4)) (by omega) (by omega), (by rw [rl_lt (by omega)]; omega), (by omega), (by omega), (by omega), .mk (not_t (Bool.eq_false_iff.2 h1)), EV.ck4 (g := (fun p_ => (X2 i p_))) (o := (e * 4)) (by omega) (by omega), (by rw [rl_lt (by omega)]; omega), (by omega), (by omega), (by omega), EV.ck4 (g := (fun p_ => (X i p_))) (o := (e * 4)) (by omega) (by omega), (by rw [rl_lt (by omega)]; omega), (by omega), (by omega), (by omega), .mk (decide_eq_true h0), trivial⟩
theorem LXSc_xf (rr cw : Nat) (X X2 : Nat → Nat → Int) (ro co ro2 co2 : Int) (hi hi2 : Bool) (i e : Nat) (L : W.Rn) (k m : Nat) (f : Nat → Int)
    (hrr : 1 ≤ rr ∧ rr ≤ 60)
    (hcw : 1 ≤ cw ∧ cw ≤ 120)
    (hil : i < rr)
    (hel : e ≤ cw)
    (hm : m ≤ 120)
    (hL : L.length ≤ 10000)
    (h0 : (¬(↑e : Int) < (↑cw : Int))) :
    CodeOk Try.prog 114 200000 (kAt (kOf Try.prog Try.f13) [true, true, true, false, true, false, false, true, false, false, true, false, false, true, false, true, true, false, false, false]) (LXScI rr cw X X2 ro co ro2 co2 hi hi2 i e L k m f) (.exit 4) (LXScI rr cw X X2 ro co ro2 co2 hi hi2 i e L k m f) :=
  CodeOk.of_runs (fuel := 2) (v := ⟨[2, 3, 4, 5, 6, 8, 7], [1, 2, 3, 4, 5, 21, 37, 229, 100008, 100009, 190690, 200008], [(200008, 200008)], 200016⟩) (hs := [(4, ⟨.auto, some (.c (.bool (false)))⟩)])
    (cs := [EB (decide ((↑e : Int) < (↑cw : Int))) false])
    mixed (by kernel_rfl) ⟨.mk (decide_eq_false h0), trivial⟩
end Go.Proofs.Ytohleiikedpmkaa.Vm
