/- What functions of the program come to: parts of the walk (Gd). -/
import Derived.Test.YtohleiikedpmkaaGc
import Derived.Test.YtohleiikedpmkaaVmc
import Derived.KernelRfl
import Derived.Test.YtohleiikedpmkaaProg
import Derived.Test.YtohleiikedpmkaaGb
set_option linter.unusedSimpArgs false
set_option linter.unusedVariables false
namespace Go.Proofs.Ytohleiikedpmkaa.Vm
open Go Go.Proofs Go.Proofs.Ytohleiikedpmkaa
set_option maxRecDepth 100000
def LEI (rr cw : Nat) (X : Nat → Nat → Int) (ro co : Int) (hi : Bool) (i : Nat) : S0 :=
  ⟨[(1, (.c (.ptr 3 0 0))), (24, (.c (.sl 1 0 0 rr 1))), (25, (.c (.int .i64 (↑rr)))), (2, (.c (.bool (false)))), (26, (.c (.int .i64 (i : Int))))], [(1, (.one ⟨false, false, (.gen rr (fun j_ => (.sl 2 j_ 0 cw 4)))⟩)), (2, (.many (fun j_ => some ⟨false, false, (.ig (W.rl rr (cw * 4) j_) W.ck (fun p_ => (X j_ p_)))⟩))), (3, (.one ⟨true, true, (.cells [(.int .i64 (↑rr)), (.int .i64 (↑cw)), (.sl 1 0 0 rr 1), (.int .i64 ro), (.int .i64 co), (.bool hi)])⟩))], 387⟩
theorem LE_by {α : Type} (I : α → S0) (Inv : α → Prop) (μ : α → Nat) {ex : Ex} {s' : S0} (hex : ex ≠ .normal)
    (step : ∀ x, Inv x → (∃ y, Inv y ∧ μ y < μ x ∧ CodeOk Try.prog 41 387 (kAt (kOf Try.prog Try.f19) [true, true, false, true, false, false]) (I x) .normal (I y)) ∨ CodeOk Try.prog 41 387 (kAt (kOf Try.prog Try.f19) [true, true, false, true, false, false]) (I x) ex s') (x : α) (hx : Inv x) :
    CodeOk Try.prog 41 387 (kAt (kOf Try.prog Try.f19) [true, true, false, true, false]) (I x) ex s' := by
  have hk : (kAt (kOf Try.prog Try.f19) [true, true, false, true, false]) = .loop (kAt (kOf Try.prog Try.f19) [true, true, false, true, false, false]) := by kernel_rfl
  rw [hk]
  exact CodeOk.loop I Inv μ hex step x hx
def LE0 (rr cw : Nat) (X : Nat → Nat → Int) (ro co : Int) (hi : Bool) : S0 :=
  ⟨[(1, (.c (.ptr 3 0 0))), (24, (.c (.sl 1 0 0 rr 1))), (25, (.c (.int .i64 (↑rr)))), (2, (.c (.bool (false)))), (26, (.c (.int .i64 0)))], [(1, (.one ⟨false, false, (.gen rr (fun j_ => (.sl 2 j_ 0 cw 4)))⟩)), (2, (.many (fun j_ => some ⟨false, false, (.ig (W.rl rr (cw * 4) j_) W.ck (fun p_ => (X j_ p_)))⟩))), (3, (.one ⟨true, true, (.cells [(.int .i64 (↑rr)), (.int .i64 (↑cw)), (.sl 1 0 0 rr 1), (.int .i64 ro), (.int .i64 co), (.bool hi)])⟩))], 387⟩
theorem LE_rt (rr cw : Nat) (X : Nat → Nat → Int) (ro co : Int) (hi : Bool) (i : Nat)
    (hrr : 1 ≤ rr ∧ rr ≤ 60)
    (hcw : 1 ≤ cw ∧ cw ≤ 120)
    (hro : 0 ≤ ro ∧ ro < rr)
    (hco : 0 ≤ co ∧ co < cw)
    (hX : ∀ j, j < rr → W.okRow (X j) cw)
    (hil : i ≤ rr)
    (h0 : ((↑i : Int) < (↑rr : Int))) :
    CodeOk Try.prog 41 387 (kAt (kOf Try.prog Try.f19) [true, true, false, true, false, false]) (LEI rr cw X ro co hi i) .normal (LEI rr cw X ro co hi (i + 1)) :=
  CodeOk.of_runs (fuel := 300) (v := ⟨[1, 24, 25, 2, 26], [1, 2, 3], [], 387⟩) (hs := [(0, ⟨.auto, some (.c (.bool (true)))⟩), (2, ⟨.ask, none⟩), (3, ⟨.ask, none⟩), (9, ⟨.auto, some (.c (.bool (false)))⟩), (12, ⟨.call [2] (.c (.bool (true))) [] [], none⟩), (16, ⟨.auto, some (.c (.int .i64 (↑(i + 1))))⟩)])
    (cs := [EI .i64 (IntKind.wrap IntKind.i64 ((↑i : Int) + 1)) ((↑(i + 1) : Int)),
      Contract Try.prog 33 [(.c (.sl 2 i 0 cw 4))] [(2, (.many (fun j_ => some ⟨false, false, (.ig (W.rl rr (cw * 4) j_) W.ck (fun p_ => (X j_ p_)))⟩)))] 563 (.c (.bool (true))) [] [],
      EB ((↑cw : Int) != (↑cw : Int)) false,
      (i + (1 : Nat) ≤ rr),
      ((0 : Int) ≤ (↑i : Int) ∧ (↑i : Int) < (↑rr : Int)),
      EB (decide ((↑i : Int) < (↑rr : Int))) true])
    mixed (by kernel_rfl) ⟨.mk (by simp only [addO_eq, mulE_eq, mulE_one, Int.toNat_natCast, IntKind.wrap_i64, mmin, mmax]; omega), ContractN.fin (ContractN.famB (bd := (.ig (W.rl rr (cw * 4) i) W.ck (fun p_ => (X i p_)))) (ex := false) (args1 := [(.c (.sl 578 0 0 cw 4))]) 578 2 i (Contract0.instN (cells_ok (fun p_ => X i p_) cw (W.rl rr (cw * 4) i) (by rw [rl_lt (by omega)]; omega) (by omega) (by exact hX _ (by omega))) [.b 578 1 true []] [none] [] [] (by kernel_rfl) (by kernel_rfl) (by kernel_rfl) (by kernel_rfl) (by kernel_rfl)) (by kernel_rfl) (by kernel_rfl) (by kernel_rfl) (by kernel_rfl) (by kernel_rfl) (by kernel_rfl)) (by kernel_rfl), .mk (bne_f (Decidable.of_not_not (by omega))), (by omega), (by omega), .mk (decide_eq_true h0), trivial⟩
theorem LE_xf (rr cw : Nat) (X : Nat → Nat → Int) (ro co : Int) (hi : Bool) (i : Nat)
    (hrr : 1 ≤ rr ∧ rr ≤ 60)
    (hcw : 1 ≤ cw ∧ cw ≤ 120)
    (hro : 0 ≤ ro ∧ ro < rr)
    (hco : 0 ≤ co ∧ co < cw)
    (hX : ∀ j, j < rr → W.okRow (X j) cw)
    (hil : i ≤ rr)
    (h0 : (¬(↑i : Int) < (↑rr : Int))) :
    CodeOk Try.prog 41 387 (kAt (kOf Try.prog Try.f19) [true, true, false, true, false, false]) (LEI rr cw X ro co hi i) (.exit 0) (LEI rr cw X ro co hi i) :=
  CodeOk.of_runs (fuel := 300) (v := ⟨[1, 24, 25, 2, 26], [1, 2, 3], [], 387⟩) (hs := [(0, ⟨.auto, some (.c (.bool (false)))⟩)])
    (cs := [EB (decide ((↑i : Int) < (↑rr : Int))) false])
    mixed (by kernel_rfl) ⟨.mk (decide_eq_false h0), trivial⟩
end Go.Proofs.Ytohleiikedpmkaa.Vm

namespace Go.Proofs.Ytohleiikedpmkaa.Vm
open Go Go.Proofs Go.Proofs.Ytohleiikedpmkaa
theorem right_loop (rr cw : Nat) (X : Nat → Nat → Int) (ro co : Int) (hi : Bool) (hrr : 1 ≤ rr ∧ rr ≤ 60) (hcw : 1 ≤ cw ∧ cw ≤ 120) (hro : 0 ≤ ro ∧ ro < rr) (hco : 0 ≤ co ∧ co < cw) (hX : ∀ j, j < rr → W.okRow (X j) cw) :
    CodeOk Try.prog 41 387 (kAt (kOf Try.prog Try.f19) [true, true, false, true, false]) (LE0 rr cw X ro co hi) (.exit 0) (LEI rr cw X ro co hi rr) := by
  refine LE_by (fun i => LEI rr cw X ro co hi i) (fun i => i ≤ rr) (fun i => rr - i) (by simp) ?_ 0 (Nat.zero_le _)
  intro i hil
  by_cases h0 : (i : Int) < (rr : Int)
  · exact .inl ⟨i + 1, by omega, by omega, LE_rt rr cw X ro co hi i hrr hcw hro hco hX hil h0⟩
  · have e : i = rr := by omega
    subst e
    exact .inr (LE_xf i cw X ro co hi i hrr hcw hro hco hX hil h0)
end Go.Proofs.Ytohleiikedpmkaa.Vm

namespace Go.Proofs.Ytohleiikedpmkaa.Vm
open Go Go.Proofs Go.Proofs.Ytohleiikedpmkaa
set_option maxRecDepth 100000
theorem right_ok (rr cw : Nat) (X : Nat → Nat → Int) (ro co : Int) (hi : Bool)
    (hrr : 1 ≤ rr ∧ rr ≤ 60)
    (hcw : 1 ≤ cw ∧ cw ≤ 120)
    (hro : 0 ≤ ro ∧ ro < rr)
    (hco : 0 ≤ co ∧ co < cw)
    (hX : ∀ j, j < rr → W.okRow (X j) cw) :
    Contract0 Try.prog 19 [(.agg [(.int .i64 (↑rr)), (.int .i64 (↑cw)), (.sl 1 0 0 rr 1), (.int .i64 ro), (.int .i64 co), (.bool hi)])] [(1, (.one ⟨false, false, (.gen rr (fun j_ => (.sl 2 j_ 0 cw 4)))⟩)), (2, (.many (fun j_ => some ⟨false, false, (.ig (W.rl rr (cw * 4) j_) W.ck (fun p_ => (X j_ p_)))⟩)))] 3 (.c (.bool (true))) [] [] :=
  Contract0.of_frunF (res := (.c (.bool (true)))) (up := []) (kill := []) (n0 := 3) (m := [(1, (.one ⟨false, false, (.gen rr (fun j_ => (.sl 2 j_ 0 cw 4)))⟩)), (2, (.many (fun j_ => some ⟨false, false, (.ig (W.rl rr (cw * 4) j_) W.ck (fun p_ => (X j_ p_)))⟩)))]) (args := [(.agg [(.int .i64 (↑rr)), (.int .i64 (↑cw)), (.sl 1 0 0 rr 1), (.int .i64 ro), (.int .i64 co), (.bool hi)])]) (fn := Try.f19) (c := bodyOf Try.f19) (fuel := 300) (k := kOf Try.prog Try.f19) (outs := []) (hs := [(10, ⟨.call [] (.c (.bool (true))) [] [], none⟩), (18, ⟨.auto, some (.c (.bool (false)))⟩), (25, ⟨.sum ⟨[1, 24, 25, 2, 26], [1, 2, 3], [], 387⟩ (.exit 0) (LEI rr cw X ro co hi rr), none⟩)])
    (cs := [CodeOk Try.prog 41 387 (kAt (kOf Try.prog Try.f19) [true, true, false, true, false]) (LE0 rr cw X ro co hi) (.exit 0) (LEI rr cw X ro co hi rr),
      EB ((↑rr : Int) != (↑rr : Int)) false,
      Contract Try.prog 32 [(.c (.int .i64 (↑rr))), (.c (.int .i64 (↑cw))), (.c (.int .i64 ro)), (.c (.int .i64 co))] [] 163 (.c (.bool (true))) [] []])
    mixed Try.func19 (by kernel_rfl) (by kernel_rfl) (by kernel_rfl) ⟨rfl, (.inr (RoF.of (fun _ => rfl))), trivial⟩ (by kernel_rfl) ⟨(right_loop rr cw X ro co hi (by omega) (by omega) (by omega) (by omega) (by omega)), .mk (bne_f (Decidable.of_not_not (by omega))), Contract0.in1 (size_ok ((↑rr : Int)) ((↑cw : Int)) ro co (by omega) (by omega) (by omega) (by omega)) [] [none, none, none, none] [] [] (by kernel_rfl), trivial⟩
end Go.Proofs.Ytohleiikedpmkaa.Vm

namespace Go.Proofs.Ytohleiikedpmkaa.Vm
open Go Go.Proofs Go.Proofs.Ytohleiikedpmkaa
set_option maxRecDepth 100000
theorem clone_ (X : Nat → Int) (n N q : Nat)
    (hN : q * 4 + n * 4 ≤ N)
    (hn : 1 ≤ n ∧ n ≤ 1048576) :
    Contract0 Try.prog 31 [(.c (.sl 1 0 (q * 4) n 4))] [(1, (.one ⟨false, false, (.ig N W.ck X)⟩))] 2 (.c (.sl 2 0 0 n 4)) [] [(2, (.one ⟨true, false, (.ig (mulE n 4) (fun p_ => (W.ck (p_ + q * 4))) (fun p_ => (X (p_ + q * 4))))⟩))] :=
  Contract0.renum (Contract0.of_frun (res := (.c (.sl 82 0 0 n 4))) (up := [(82, (.one ⟨true, false, (.ig (mulE n 4) (fun p_ => (W.ck (p_ + q * 4))) (fun p_ => (X (p_ + q * 4))))⟩))]) (kill := []) (n0 := 2) (m := [(1, (.one ⟨false, false, (.ig N W.ck X)⟩))]) (args := [(.c (.sl 1 0 (q * 4) n 4))]) (fn := Try.f31) (c := bodyOf Try.f31) (fuel := 300) (k := kOf Try.prog Try.f31) (outs := [82]) (hs := [(2, ⟨.ask, none⟩), (6, ⟨.ask, none⟩)])
    (cs := [(q * (4 : Nat) + n * (4 : Nat) ≤ N ∧ (33 : Nat) * ((0 : Nat) + n) ≤ (4398046511104 : Nat) ∧ (0 : Nat) ≤ (0 : Nat)),
      ((0 : Nat) < n)])
    mixed Try.func31 (by kernel_rfl) (by kernel_rfl) (by kernel_rfl) (by kernel_rfl) (by kernel_rfl) ⟨(by omega), (by omega), trivial⟩) [.b 1 1 true] [] [(82, 2)] [] (by kernel_rfl) (by kernel_rfl) (by kernel_rfl) (by kernel_rfl) (by kernel_rfl)
end Go.Proofs.Ytohleiikedpmkaa.Vm

namespace Go.Proofs.Ytohleiikedpmkaa.Vm
open Go Go.Proofs Go.Proofs.Ytohleiikedpmkaa
theorem ck_add (p q : Nat) : W.ck (p + q * 4) = W.ck p := by
  unfold W.ck
  have : (p + q * 4) % 4 = p % 4 := by omega
  rw [this]
theorem clone_ok (X : Nat → Int) (n N q : Nat) (hN : q * 4 + n * 4 ≤ N) (hn : 1 ≤ n ∧ n ≤ 1048576) :
    Contract0 Try.prog 31 [(.c (.sl 1 0 (q * 4) n 4))] [(1, (.one ⟨false, false, (.ig N W.ck X)⟩))] 2 (.c (.sl 2 0 0 n 4)) [] [(2, (.one ⟨true, false, (.ig (n * 4) W.ck (fun p_ => X (p_ + q * 4)))⟩))] :=
  (clone_ X n N q hN hn).same_up rfl ⟨SameB.ig (n := n * 4) rfl (fun h => h) (fun p _ => ck_add p q) (fun _ _ => rfl), trivial⟩
theorem clone0_ok (X : Nat → Int) (n N : Nat) (hN : n * 4 ≤ N) (hn : 1 ≤ n ∧ n ≤ 1048576) :
    Contract0 Try.prog 31 [(.c (.sl 1 0 0 n 4))] [(1, (.one ⟨false, false, (.ig N W.ck X)⟩))] 2 (.c (.sl 2 0 0 n 4)) [] [(2, (.one ⟨true, false, (.ig (n * 4) W.ck X)⟩))] :=
  (clone_ X n N 0 (by omega) hn).same_up rfl ⟨SameB.ig (n := n * 4) rfl (fun h => h) (fun _ _ => rfl) (fun _ _ => rfl), trivial⟩
end Go.Proofs.Ytohleiikedpmkaa.Vm

namespace Go.Proofs.Ytohleiikedpmkaa.Vm
open Go Go.Proofs Go.Proofs.Ytohleiikedpmkaa
set_option maxRecDepth 100000
theorem from_d_t (rr cw : Nat) (X : Nat → Nat → Int) (ro co : Int) (hi : Bool) (r2 c2 : Nat)
    (hrr : 1 ≤ rr ∧ rr ≤ 60)
    (hcw : 1 ≤ cw ∧ cw ≤ 120)
    (hro : 0 ≤ ro ∧ ro < rr)
    (hco : 0 ≤ co ∧ co < cw)
    (hX : ∀ j, j < rr → W.okRow (X j) cw)
    (hr2 : 1 ≤ r2 ∧ r2 ≤ 60)
    (hc2 : 1 ≤ c2 ∧ c2 ≤ 120)
    (hd : ¬ (r2 = rr ∧ c2 = cw))
    (h0 : (¬(↑rr : Int) = (↑r2 : Int))) :
    Contract0 Try.prog 30 [(.agg [(.int .i64 (↑rr)), (.int .i64 (↑cw)), (.sl 1 0 0 rr 1), (.int .i64 ro), (.int .i64 co), (.bool hi)]), (.c (.int .i64 (↑r2))), (.c (.int .i64 (↑c2)))] [(1, (.one ⟨false, false, (.gen rr (fun j_ => (.sl 2 j_ 0 cw 4)))⟩)), (2, (.many (fun j_ => some ⟨false, false, (.ig (W.rl rr (cw * 4) j_) W.ck (fun p_ => (X j_ p_)))⟩)))] 3 (.c (.sl 3 0 0 r2 1)) [] [(3, (.one ⟨true, false, (.gen r2 (fun j_ => (.sl 4 j_ 0 c2 4)))⟩)), (4, (.many (fun j_ => some ⟨true, true, (.ig (W.rl r2 (c2 * 4) j_) W.ck W.blank)⟩)))] :=
  Contract0.renum (Contract0.of_frunF (res := (.c (.sl 227 0 0 r2 1))) (up := [(227, (.one ⟨true, false, (.gen r2 (fun j_ => (.sl 228 j_ 0 c2 4)))⟩)), (228, (.many (fun j_ => some ⟨true, true, (.ig (W.rl r2 (c2 * 4) j_) W.ck W.blank)⟩)))]) (kill := []) (n0 := 3) (m := [(1, (.one ⟨false, false, (.gen rr (fun j_ => (.sl 2 j_ 0 cw 4)))⟩)), (2, (.many (fun j_ => some ⟨false, false, (.ig (W.rl rr (cw * 4) j_) W.ck (fun p_ => (X j_ p_)))⟩)))]) (args := [(.agg [(.int .i64 (↑rr)), (.int .i64 (↑cw)), (.sl 1 0 0 rr 1), (.int .i64 ro), (.int .i64 co), (.bool hi)]), (.c (.int .i64 (↑r2))), (.c (.int .i64 (↑c2)))]) (fn := Try.f30) (c := bodyOf Try.f30) (fuel := 300) (k := kOf Try.prog Try.f30) (outs := [227, 228]) (hs := [(6, ⟨.auto, some (.c (.bool (true)))⟩), (15, ⟨.call [] (.agg [(.int .i64 (↑r2)), (.int .i64 (↑c2)), (.sl 227 0 0 r2 1), (.int .i64 0), (.int .i64 0), (.bool (false))]) [] [(227, (.one ⟨true, false, (.gen r2 (fun j_ => (.sl 228 j_ 0 c2 4)))⟩)), (228, (.many (fun j_ => some ⟨true, true, (.ig (W.rl r2 (c2 * 4) j_) W.ck W.blank)⟩)))], none⟩)])
    (cs := [OwnF (fun j_ => some ⟨true, true, (.ig (W.rl r2 (c2 * 4) j_) W.ck W.blank)⟩),
      Contract Try.prog 22 [(.c (.int .i64 (↑r2))), (.c (.int .i64 (↑c2)))] [] 227 (.agg [(.int .i64 (↑r2)), (.int .i64 (↑c2)), (.sl 227 0 0 r2 1), (.int .i64 0), (.int .i64 0), (.bool (false))]) [] [(227, (.one ⟨true, false, (.gen r2 (fun j_ => (.sl 228 j_ 0 c2 4)))⟩)), (228, (.many (fun j_ => some ⟨true, true, (.ig (W.rl r2 (c2 * 4) j_) W.ck W.blank)⟩)))],
      EB ((↑rr : Int) != (↑r2 : Int)) true])
    mixed Try.func30 (by kernel_rfl) (by kernel_rfl) (by kernel_rfl) ⟨rfl, (.inr (RoF.of (fun _ => rfl))), trivial⟩ (by kernel_rfl) ⟨OwnF.of (fun _ => rfl), Contract0.in1 (blank_ok r2 c2 (by omega) (by omega)) [] [none, none] [(1, 227), (2, 228)] [] (by kernel_rfl), .mk (bne_t h0), trivial⟩) [.b 1 1 true, .b 2 2 true] [] [(227, 3), (228, 4)] [] (by kernel_rfl) (by kernel_rfl) (by kernel_rfl) (by kernel_rfl) (by kernel_rfl)
theorem from_d_f (rr cw : Nat) (X : Nat → Nat → Int) (ro co : Int) (hi : Bool) (r2 c2 : Nat)
    (hrr : 1 ≤ rr ∧ rr ≤ 60)
    (hcw : 1 ≤ cw ∧ cw ≤ 120)
    (hro : 0 ≤ ro ∧ ro < rr)
    (hco : 0 ≤ co ∧ co < cw)
    (hX : ∀ j, j < rr → W.okRow (X j) cw)
    (hr2 : 1 ≤ r2 ∧ r2 ≤ 60)
    (hc2 : 1 ≤ c2 ∧ c2 ≤ 120)
    (hd : ¬ (r2 = rr ∧ c2 = cw))
    (h0 : (¬¬(↑rr : Int) = (↑r2 : Int))) :
    Contract0 Try.prog 30 [(.agg [(.int .i64 (↑rr)), (.int .i64 (↑cw)), (.sl 1 0 0 rr 1), (.int .i64 ro), (.int .i64 co), (.bool hi)]), (.c (.int .i64 (↑r2))), (.c (.int .i64 (↑c2)))] [(1, (.one ⟨false, false, (.gen rr (fun j_ => (.sl 2 j_ 0 cw 4)))⟩)), (2, (.many (fun j_ => some ⟨false, false, (.ig (W.rl rr (cw * 4) j_) W.ck (fun p_ => (X j_ p_)))⟩)))] 3 (.c (.sl 3 0 0 r2 1)) [] [(3, (.one ⟨true, false, (.gen r2 (fun j_ => (.sl 4 j_ 0 c2 4)))⟩)), (4, (.many (fun j_ => some ⟨true, true, (.ig (W.rl r2 (c2 * 4) j_) W.ck W.blank)⟩)))] :=
  Contract0.renum (Contract0.of_frunF (res := (.c (.sl 227 0 0 r2 1))) (up := [(227, (.one ⟨true, false, (.gen r2 (fun j_ => (.sl 228 j_ 0 c2 4)))⟩)), (228, (.many (fun j_ => some ⟨true, true, (.ig (W.rl r2 (c2 * 4) j_) W.ck W.blank)⟩)))]) (kill := []) (n0 := 3) (m := [(1, (.one ⟨false, false, (.gen rr (fun j_ => (.sl 2 j_ 0 cw 4)))⟩)), (2, (.many (fun j_ => some ⟨false, false, (.ig (W.rl rr (cw * 4) j_) W.ck (fun p_ => (X j_ p_)))⟩)))]) (args := [(.agg [(.int .i64 (↑rr)), (.int .i64 (↑cw)), (.sl 1 0 0 rr 1), (.int .i64 ro), (.int .i64 co), (.bool hi)]), (.c (.int .i64 (↑r2))), (.c (.int .i64 (↑c2)))]) (fn := Try.f30) (c := bodyOf Try.f30) (fuel := 300) (k := kOf Try.prog Try.f30) (outs := [227, 228]) (hs := [(6, ⟨.auto, some (.c (.bool (false)))⟩), (10, ⟨.auto, some (.c (.bool (true)))⟩), (15, ⟨.call [] (.agg [(.int .i64 (↑r2)), (.int .i64 (↑c2)), (.sl 227 0 0 r2 1), (.int .i64 0), (.int .i64 0), (.bool (false))]) [] [(227, (.one ⟨true, false, (.gen r2 (fun j_ => (.sl 228 j_ 0 c2 4)))⟩)), (228, (.many (fun j_ => some ⟨true, true, (.ig (W.rl r2 (c2 * 4) j_) W.ck W.blank)⟩)))], none⟩)])
    (cs := [OwnF (fun j_ => some ⟨true, true, (.ig (W.rl r2 (c2 * 4) j_) W.ck W.blank)⟩),
      Contract Try.prog 22 [(.c (.int .i64 (↑r2))), (.c (.int .i64 (↑c2)))] [] 227 (.agg [(.int .i64 (↑r2)), (.int .i64 (↑c2)), (.sl 227 0 0 r2 1), (.int .i64 0), (.int .i64 0), (.bool (false))]) [] [(227, (.one ⟨true, false, (.gen r2 (fun j_ => (.sl 228 j_ 0 c2 4)))⟩)), (228, (.many (fun j_ => some ⟨true, true, (.ig (W.rl r2 (c2 * 4) j_) W.ck W.blank)⟩)))],
      EB ((↑cw : Int) != (↑c2 : Int)) true,
      EB ((↑rr : Int) != (↑r2 : Int)) false])
    mixed Try.func30 (by kernel_rfl) (by kernel_rfl) (by kernel_rfl) ⟨rfl, (.inr (RoF.of (fun _ => rfl))), trivial⟩ (by kernel_rfl) ⟨OwnF.of (fun _ => rfl), Contract0.in1 (blank_ok r2 c2 (by omega) (by omega)) [] [none, none] [(1, 227), (2, 228)] [] (by kernel_rfl), .mk (bne_t (by omega)), .mk (bne_f (Decidable.of_not_not h0)), trivial⟩) [.b 1 1 true, .b 2 2 true] [] [(227, 3), (228, 4)] [] (by kernel_rfl) (by kernel_rfl) (by kernel_rfl) (by kernel_rfl) (by kernel_rfl)
end Go.Proofs.Ytohleiikedpmkaa.Vm

namespace Go.Proofs.Ytohleiikedpmkaa.Vm
open Go Go.Proofs Go.Proofs.Ytohleiikedpmkaa
set_option maxRecDepth 100000
def LFI (rr cw : Nat) (X : Nat → Nat → Int) (i : Nat) : S0 :=
  ⟨[(6, (.c .nils)), (25, (.c (.sl 1 0 0 rr 1))), (26, (.c (.int .i64 (↑rr)))), (7, (.c (.sl 283 0 0 i 1))), (27, (.c (.int .i64 (i : Int))))], [(1, (.one ⟨false, false, (.gen rr (fun j_ => (.sl 2 j_ 0 cw 4)))⟩)), (2, (.many (fun j_ => some ⟨false, false, (.ig (W.rl rr (cw * 4) j_) W.ck (fun p_ => (X j_ p_)))⟩))), (283, (.one ⟨true, false, .gen i (fun j_ => .sl 284 j_ 0 cw 4)⟩)), (284, (.many (fun j_ => some ⟨true, false, .ig (W.rl i (cw * 4) j_) W.ck (X j_)⟩)))], 291⟩
theorem LF_by {α : Type} (I : α → S0) (Inv : α → Prop) (μ : α → Nat) {ex : Ex} {s' : S0} (hex : ex ≠ .normal)
    (step : ∀ x, Inv x → (∃ y, Inv y ∧ μ y < μ x ∧ CodeOk Try.prog 38 275 (kAt (kOf Try.prog Try.f30) [true, true, true, false, true, false, false]) (I x) .normal (I y)) ∨ CodeOk Try.prog 38 275 (kAt (kOf Try.prog Try.f30) [true, true, true, false, true, false, false]) (I x) ex s') (x : α) (hx : Inv x) :
    CodeOk Try.prog 38 275 (kAt (kOf Try.prog Try.f30) [true, true, true, false, true, false]) (I x) ex s' := by
  have hk : (kAt (kOf Try.prog Try.f30) [true, true, true, false, true, false]) = .loop (kAt (kOf Try.prog Try.f30) [true, true, true, false, true, false, false]) := by kernel_rfl
  rw [hk]
  exact CodeOk.loop I Inv μ hex step x hx
def LF0 (rr cw : Nat) (X : Nat → Nat → Int) : S0 :=
  ⟨[(6, (.c .nils)), (25, (.c (.sl 1 0 0 rr 1))), (26, (.c (.int .i64 (↑rr)))), (7, (.c .nils)), (27, (.c (.int .i64 0)))], [(1, (.one ⟨false, false, (.gen rr (fun j_ => (.sl 2 j_ 0 cw 4)))⟩)), (2, (.many (fun j_ => some ⟨false, false, (.ig (W.rl rr (cw * 4) j_) W.ck (fun p_ => (X j_ p_)))⟩)))], 275⟩
theorem LF_rt (rr cw : Nat) (X : Nat → Nat → Int) (ro co : Int) (i : Nat)
    (hrr : 1 ≤ rr ∧ rr ≤ 60)
    (hcw : 1 ≤ cw ∧ cw ≤ 120)
    (hro : 0 ≤ ro ∧ ro < rr)
    (hco : 0 ≤ co ∧ co < cw)
    (hX : ∀ j, j < rr → W.okRow (X j) cw)
    (hil : i ≤ rr)
    (h0 : ((↑i : Int) < (↑rr : Int))) :
    CodeOk Try.prog 38 275 (kAt (kOf Try.prog Try.f30) [true, true, true, false, true, false, false]) (LFI rr cw X i) .normal ⟨[(6, (.c .nils)), (25, (.c (.sl 1 0 0 rr 1))), (26, (.c (.int .i64 (↑rr)))), (7, (.c (.sl 275 0 0 (i + 1) 1))), (27, (.c (.int .i64 (↑(i + 1)))))], [(1, (.one ⟨false, false, (.gen rr (fun j_ => (.sl 2 j_ 0 cw 4)))⟩)), (2, (.many (fun j_ => some ⟨false, false, (.ig (W.rl rr (cw * 4) j_) W.ck (fun p_ => (X j_ p_)))⟩))), (284, (.many (fun j_ => some ⟨true, false, (.ig (W.rl i (cw * 4) j_) W.ck (fun p_ => (X j_ p_)))⟩))), (275, (.one ⟨true, false, (.gen (i + 1) (fun j_ => (renC [(283, 283), (284, 284), (419, 275), (387, 276)] 275 (bif Nat.blt j_ (mulE i 1) then C.sl 284 (0 + j_) 0 cw 4 else List.getD (List.take 1 (List.drop 0 [C.sl 387 0 0 cw 4])) (j_ - mulE i 1) C.unk))))⟩)), (276, (.one ⟨true, false, (.ig (cw * 4) W.ck (fun p_ => (X i p_)))⟩))], 291⟩ :=
  CodeOk.of_runs (fuel := 300) (v := ⟨[6, 25, 26, 7, 27], [1, 2, 283, 284, 419, 387], [(283, 283), (284, 284), (419, 275), (387, 276)], 291⟩) (hs := [(0, ⟨.auto, some (.c (.bool (true)))⟩), (2, ⟨.ask, none⟩), (3, ⟨.ask, none⟩), (7, ⟨.call [2] (.c (.sl 387 0 0 cw 4)) [] [(387, (.one ⟨true, false, (.ig (cw * 4) W.ck (fun p_ => (X i p_)))⟩))], none⟩), (9, ⟨.ask, some (.c (.sl 419 0 0 (i + 1) 1))⟩), (11, ⟨.auto, some (.c (.int .i64 (↑(i + 1))))⟩)])
    (cs := [EI .i64 (IntKind.wrap IntKind.i64 ((↑i : Int) + 1)) ((↑(i + 1) : Int)),
      ((.c (.sl 419 0 0 (addO i 1) 1)) : V) = (.c (.sl 419 0 0 (i + 1) 1)),
      ((1 : Nat) ≤ (1 : Nat) ∧ (25 : Nat) * (i + (1 : Nat)) ≤ (4398046511104 : Nat) ∧ (0 : Nat) + i * (1 : Nat) ≤ i),
      Contract Try.prog 31 [(.c (.sl 2 i 0 cw 4))] [(2, (.many (fun j_ => some ⟨false, false, (.ig (W.rl rr (cw * 4) j_) W.ck (fun p_ => (X j_ p_)))⟩)))] 387 (.c (.sl 387 0 0 cw 4)) [] [(387, (.one ⟨true, false, (.ig (cw * 4) W.ck (fun p_ => (X i p_)))⟩))],
      (i + (1 : Nat) ≤ rr),
      ((0 : Int) ≤ (↑i : Int) ∧ (↑i : Int) < (↑rr : Int)),
      EB (decide ((↑i : Int) < (↑rr : Int))) true])
    mixed (by kernel_rfl) ⟨.mk (by simp only [addO_eq, mulE_eq, mulE_one, Int.toNat_natCast, IntKind.wrap_i64, mmin, mmax]; omega), EV.sl (by rfl) (by simp only [addO_eq, mulE_eq, mulE_one, Int.toNat_natCast, IntKind.wrap_i64, mmin, mmax]), (by omega), ContractN.fin (ContractN.famB (bd := (.ig (W.rl rr (cw * 4) i) W.ck (fun p_ => (X i p_)))) (ex := false) (args1 := [(.c (.sl 402 0 0 cw 4))]) 402 2 i (Contract0.instN (clone0_ok (fun p_ => X i p_) cw (W.rl rr (cw * 4) i) (by rw [rl_lt (by omega)]; omega) (by omega)) [.b 402 1 true []] [none] [(2, 387)] [] (by kernel_rfl) (by kernel_rfl) (by kernel_rfl) (by kernel_rfl) (by kernel_rfl)) (by kernel_rfl) (by kernel_rfl) (by kernel_rfl) (by kernel_rfl) (by kernel_rfl) (by kernel_rfl)) (by kernel_rfl), (by omega), (by omega), .mk (decide_eq_true h0), trivial⟩
theorem LF_xf (rr cw : Nat) (X : Nat → Nat → Int) (ro co : Int) (i : Nat)
    (hrr : 1 ≤ rr ∧ rr ≤ 60)
    (hcw : 1 ≤ cw ∧ cw ≤ 120)
    (hro : 0 ≤ ro ∧ ro < rr)
    (hco : 0 ≤ co ∧ co < cw)
    (hX : ∀ j, j < rr → W.okRow (X j) cw)
    (hil : i ≤ rr)
    (h0 : (¬(↑i : Int) < (↑rr : Int))) :
    CodeOk Try.prog 38 275 (kAt (kOf Try.prog Try.f30) [true, true, true, false, true, false, false]) (LFI rr cw X i) (.exit 0) (LFI rr cw X i) :=
  CodeOk.of_runs (fuel := 300) (v := ⟨[6, 25, 26, 7, 27], [1, 2, 283, 284], [(283, 283), (284, 284)], 291⟩) (hs := [(0, ⟨.auto, some (.c (.bool (false)))⟩)])
    (cs := [EB (decide ((↑i : Int) < (↑rr : Int))) false])
    mixed (by kernel_rfl) ⟨.mk (decide_eq_false h0), trivial⟩
end Go.Proofs.Ytohleiikedpmkaa.Vm

namespace Go.Proofs.Ytohleiikedpmkaa.Vm
open Go Go.Proofs Go.Proofs.Ytohleiikedpmkaa
theorem from_loop (rr cw : Nat) (X : Nat → Nat → Int) (hrr : 1 ≤ rr ∧ rr ≤ 60) (hcw : 1 ≤ cw ∧ cw ≤ 120) (hX : ∀ j, j < rr → W.okRow (X j) cw) :
    CodeOk Try.prog 38 275 (kAt (kOf Try.prog Try.f30) [true, true, true, false, true, false]) (LF0 rr cw X) (.exit 0) (LFI rr cw X rr) := by
  have hro : (0 : Int) ≤ 0 ∧ (0 : Int) < rr := by omega
  have hco : (0 : Int) ≤ 0 ∧ (0 : Int) < cw := by omega
  have h : CodeOk Try.prog 38 275 (kAt (kOf Try.prog Try.f30) [true, true, true, false, true, false]) (LFI rr cw X 0) (.exit 0) (LFI rr cw X rr) := by
    refine LF_by (fun i => LFI rr cw X i) (fun i => i ≤ rr) (fun i => rr - i) (by simp) ?_ 0 (Nat.zero_le _)
    intro i hil
    by_cases h0 : (i : Int) < (rr : Int)
    · refine .inl ⟨i + 1, by omega, by omega, (LF_rt rr cw X 0 0 i hrr hcw hro hco hX hil h0).move (Move.grow (H := 283) (h' := 275) (F := 284) (N := 276) (i := i) (by decide) (show 275 ≤ 291 ∧ 283 < 291 ∧ 284 < 291 by decide) (by decide) (by decide) ?_ ?_)⟩
      · refine ⟨?_, ?_, ?_, ?_, trivial⟩
        · exact BR.gen (growRho_low (by decide)) rfl (fun h => h) rfl (fun p hp => ⟨growRho_low (by decide), rfl, rfl, rfl⟩)
        · intro j k hk
          injection hk with hk
          subst hk
          exact BR.ig (growRho_low (by decide)) rfl (fun h => h) rfl (fun _ _ => rfl) (fun _ _ => rfl)
        · exact BR.gen (growRho_H (by decide)) rfl (fun h => h) rfl (fun p hp => hdr_cell hp (by decide) (by decide) rfl rfl)
        · exact row_grow (by decide) (by decide) (fun j => rfl) rfl (fun h => h) (fun p hp => rfl)
      · exact ⟨rfl, trivial, rfl, ⟨growRho_low (by decide), rfl, rfl, rfl⟩, rfl, ⟨rfl, rfl⟩, rfl, ⟨growRho_H (by decide), rfl, rfl, rfl⟩, rfl, ⟨rfl, rfl⟩, trivial⟩
    · have e : i = rr := by omega
      subst e
      exact .inr (LF_xf i cw X 0 0 i hrr hcw hro hco hX hil h0)
  refine CodeOk.enter (Move.begin (fun b _ => Nat.beq b 283 || Nat.beq b 284) (by decide) (show 275 ≤ 291 by decide) ?_ ?_ ?_) h
  · intro b k hb
    have hb : 291 ≤ b := hb
    rw [beqF (by omega), beqF (by omega)]; rfl
  · refine ⟨?_, ?_, ?_, ?_, trivial⟩
    · exact BR.gen (newRho_low (by decide)) rfl (fun h => h) rfl (fun p hp => ⟨newRho_low (by decide), rfl, rfl, rfl⟩)
    · intro j k hk
      injection hk with hk
      subst hk
      exact BR.ig (newRho_low (by decide)) rfl (fun h => h) rfl (fun _ _ => rfl) (fun _ _ => rfl)
    · exact BR.none (newRho_high (by decide)) rfl rfl rfl
    · intro j k hk
      injection hk with hk
      subst hk
      exact BR.none (newRho_high (by decide)) rfl rfl (rl_ge (i := 0) (n := cw * 4) (j := j) (Nat.zero_le _))
  · exact ⟨rfl, trivial, rfl, ⟨newRho_low (by decide), rfl, rfl, rfl⟩, rfl, ⟨rfl, rfl⟩, rfl, rfl, rfl, ⟨rfl, rfl⟩, trivial⟩
end Go.Proofs.Ytohleiikedpmkaa.Vm

namespace Go.Proofs.Ytohleiikedpmkaa.Vm
open Go Go.Proofs Go.Proofs.Ytohleiikedpmkaa
set_option maxRecDepth 100000
theorem from_s (rr cw : Nat) (X : Nat → Nat → Int) (ro co : Int) (hi : Bool)
    (hrr : 1 ≤ rr ∧ rr ≤ 60)
    (hcw : 1 ≤ cw ∧ cw ≤ 120)
    (hro : 0 ≤ ro ∧ ro < rr)
    (hco : 0 ≤ co ∧ co < cw)
    (hX : ∀ j, j < rr → W.okRow (X j) cw) :
    Contract0 Try.prog 30 [(.agg [(.int .i64 (↑rr)), (.int .i64 (↑cw)), (.sl 1 0 0 rr 1), (.int .i64 ro), (.int .i64 co), (.bool hi)]), (.c (.int .i64 (↑rr))), (.c (.int .i64 (↑cw)))] [(1, (.one ⟨false, false, (.gen rr (fun j_ => (.sl 2 j_ 0 cw 4)))⟩)), (2, (.many (fun j_ => some ⟨false, false, (.ig (W.rl rr (cw * 4) j_) W.ck (fun p_ => (X j_ p_)))⟩)))] 3 (.c (.sl 3 0 0 rr 1)) [] [(3, (.one ⟨true, false, (.gen rr (fun j_ => (.sl 4 j_ 0 cw 4)))⟩)), (4, (.many (fun j_ => some ⟨true, false, (.ig (W.rl rr (cw * 4) j_) W.ck (fun p_ => (X j_ p_)))⟩)))] :=
  Contract0.renum (Contract0.of_frunF (res := (.c (.sl 283 0 0 rr 1))) (up := [(283, (.one ⟨true, false, (.gen rr (fun j_ => (.sl 284 j_ 0 cw 4)))⟩)), (284, (.many (fun j_ => some ⟨true, false, (.ig (W.rl rr (cw * 4) j_) W.ck (fun p_ => (X j_ p_)))⟩)))]) (kill := []) (n0 := 3) (m := [(1, (.one ⟨false, false, (.gen rr (fun j_ => (.sl 2 j_ 0 cw 4)))⟩)), (2, (.many (fun j_ => some ⟨false, false, (.ig (W.rl rr (cw * 4) j_) W.ck (fun p_ => (X j_ p_)))⟩)))]) (args := [(.agg [(.int .i64 (↑rr)), (.int .i64 (↑cw)), (.sl 1 0 0 rr 1), (.int .i64 ro), (.int .i64 co), (.bool hi)]), (.c (.int .i64 (↑rr))), (.c (.int .i64 (↑cw)))]) (fn := Try.f30) (c := bodyOf Try.f30) (fuel := 300) (k := kOf Try.prog Try.f30) (outs := [283, 284]) (hs := [(5, ⟨.auto, some (.c (.bool (false)))⟩), (10, ⟨.auto, some (.c (.bool (false)))⟩), (18, ⟨.sum ⟨[6, 25, 26, 7, 27], [1, 2], [], 275⟩ (.exit 0) (LFI rr cw X rr), none⟩)])
    (cs := [OwnF (fun j_ => some ⟨true, false, (.ig (W.rl rr (cw * 4) j_) W.ck (fun p_ => (X j_ p_)))⟩),
      CodeOk Try.prog 38 275 (kAt (kOf Try.prog Try.f30) [true, true, true, false, true, false]) (LF0 rr cw X) (.exit 0) (LFI rr cw X rr),
      EB ((↑cw : Int) != (↑cw : Int)) false,
      EB ((↑rr : Int) != (↑rr : Int)) false])
    mixed Try.func30 (by kernel_rfl) (by kernel_rfl) (by kernel_rfl) ⟨rfl, (.inr (RoF.of (fun _ => rfl))), trivial⟩ (by kernel_rfl) ⟨OwnF.of (fun _ => rfl), (from_loop rr cw X (by omega) (by omega) (by omega)), .mk (bne_f (Decidable.of_not_not (by omega))), .mk (bne_f (Decidable.of_not_not (by omega))), trivial⟩) [.b 1 1 true, .b 2 2 true] [] [(283, 3), (284, 4)] [] (by kernel_rfl) (by kernel_rfl) (by kernel_rfl) (by kernel_rfl) (by kernel_rfl)
end Go.Proofs.Ytohleiikedpmkaa.Vm

namespace Go.Proofs.Ytohleiikedpmkaa.W
open Go Go.Proofs.Ytohleiikedpmkaa.Vm
noncomputable def frX (rr cw : Nat) (X : Nat → Nat → Int) (r2 c2 : Nat) : Nat → Nat → Int := open Classical in if r2 = rr ∧ c2 = cw then X else fun _ => blank
end Go.Proofs.Ytohleiikedpmkaa.W
namespace Go.Proofs.Ytohleiikedpmkaa.Vm
open Go Go.Proofs Go.Proofs.Ytohleiikedpmkaa
theorem from_ok (rr cw : Nat) (X : Nat → Nat → Int) (ro co : Int) (hi : Bool) (r2 c2 : Nat) (hrr : 1 ≤ rr ∧ rr ≤ 60) (hcw : 1 ≤ cw ∧ cw ≤ 120) (hro : 0 ≤ ro ∧ ro < rr) (hco : 0 ≤ co ∧ co < cw) (hX : ∀ j, j < rr → W.okRow (X j) cw) (hr2 : 1 ≤ r2 ∧ r2 ≤ 60) (hc2 : 1 ≤ c2 ∧ c2 ≤ 120) :
    Contract0 Try.prog 30 [(.agg [(.int .i64 (↑rr)), (.int .i64 (↑cw)), (.sl 1 0 0 rr 1), (.int .i64 ro), (.int .i64 co), (.bool hi)]), (.c (.int .i64 (↑r2))), (.c (.int .i64 (↑c2)))] [(1, (.one ⟨false, false, (.gen rr (fun j_ => (.sl 2 j_ 0 cw 4)))⟩)), (2, (.many (fun j_ => some ⟨false, false, (.ig (W.rl rr (cw * 4) j_) W.ck (X j_))⟩)))] 3 (.c (.sl 3 0 0 r2 1)) [] [(3, (.one ⟨true, false, (.gen r2 (fun j_ => (.sl 4 j_ 0 c2 4)))⟩)), (4, (.many (fun j_ => some ⟨true, false, (.ig (W.rl r2 (c2 * 4) j_) W.ck (W.frX rr cw X r2 c2 j_))⟩)))] := by
  by_cases h : r2 = rr ∧ c2 = cw
  · obtain ⟨rfl, rfl⟩ := h
    have e : W.frX r2 c2 X r2 c2 = X := by unfold W.frX; rw [if_pos ⟨rfl, rfl⟩]
    rw [e]
    exact from_s r2 c2 X ro co hi hrr hcw hro hco hX
  · have e : W.frX rr cw X r2 c2 = fun _ => W.blank := by unfold W.frX; rw [if_neg h]
    rw [e]
    by_cases h0 : (rr : Int) = (r2 : Int)
    · exact (from_d_f rr cw X ro co hi r2 c2 hrr hcw hro hco hX hr2 hc2 h (by simpa using h0)).same_up rfl ⟨SameB.refl rfl, fun j k e => by injection e with e; subst e; exact SameB.ig rfl (fun h => by cases h) (fun _ _ => rfl) (fun _ _ => rfl), trivial⟩
    · exact (from_d_t rr cw X ro co hi r2 c2 hrr hcw hro hco hX hr2 hc2 h h0).same_up rfl ⟨SameB.refl rfl, fun j k e => by injection e with e; subst e; exact SameB.ig rfl (fun h => by cases h) (fun _ _ => rfl) (fun _ _ => rfl), trivial⟩
end Go.Proofs.Ytohleiikedpmkaa.Vm
