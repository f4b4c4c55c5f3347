/- What functions of the program come to: parts of the walk (Gh). -/
import Derived.Test.YtohleiikedpmkaaGg
import Derived.KernelRfl
import Derived.Test.YtohleiikedpmkaaProg
import Derived.Test.YtohleiikedpmkaaGe
import Derived.Test.YtohleiikedpmkaaGa
set_option linter.unusedSimpArgs false
set_option linter.unusedVariables false
namespace Go.Proofs.Ytohleiikedpmkaa.Vm
open Go Go.Proofs Go.Proofs.Ytohleiikedpmkaa
set_option maxRecDepth 100000
noncomputable def LHoI (rr cw : Nat) (X : Nat → Nat → Int) (rr2 cw2 : Nat) (ro2 co2 : Int) (hi2 : Bool) (A B : Nat → Int) (nn MM : Nat → Nat) (G : Nat → Nat → Int) (N m i : Nat) (Z : Nat → Nat → Int) : S0 :=
  ⟨[(3, (.c (.ptr 21 0 0))), (4, (.c (.ptr 37 0 0))), (6, (.c (.ptr 709 0 0))), (5, (.c (.int .i64 0))), (8, (.c (.int .i64 (i : Int))))], [(1, (.one ⟨false, false, (.gen rr (fun j_ => (.sl 2 j_ 0 cw 4)))⟩)), (2, (.many (fun j_ => some ⟨false, false, (.ig (W.rl rr (cw * 4) j_) W.ck (fun p_ => (X j_ p_)))⟩))), (3, (.one ⟨false, false, (.row (N * 3) 3 (fun j_ => [(.int .i64 (A j_)), (.int .i64 (B j_)), (.sl 4 j_ 0 (nn j_) 4)]))⟩)), (4, (.many (fun j_ => some ⟨false, false, (.ig (MM j_ * 4) W.ck (fun p_ => (G j_ p_)))⟩))), (21, (.one ⟨true, true, (.cells [(.int .i64 (↑rr2)), (.int .i64 (↑cw2)), (.int .i64 ro2), (.int .i64 co2), (.bool hi2), (.sl 3 0 0 m 3)])⟩)), (37, (.one ⟨true, true, (.cells [(.int .i64 0), (.int .i64 0), .nils, (.int .i64 0), (.int .i64 0), (.bool (false))])⟩)), (693, (.one ⟨true, false, (.gen rr2 (fun j_ => (.sl 694 j_ 0 cw2 4)))⟩)), (694, (.many (fun j_ => some ⟨true, true, .ig (W.rl rr2 (cw2 * 4) j_) W.ck (Z j_)⟩))), (709, (.one ⟨true, true, (.cells [(.int .i64 (↑rr2)), (.int .i64 (↑cw2)), (.sl 693 0 0 rr2 1), (.int .i64 ro2), (.int .i64 co2), (.bool hi2)])⟩))], 100016⟩
theorem LHo_by {α : Type} (I : α → S0) (Inv : α → Prop) (μ : α → Nat) {ex : Ex} {s' : S0} (hex : ex ≠ .normal)
    (step : ∀ x, Inv x → (∃ y, Inv y ∧ μ y < μ x ∧ CodeOk Try.prog 174 100000 (kAt (kOf Try.prog Try.f16) [true, true, true, true, true, true, true, false, true, false, false]) (I x) .normal (I y)) ∨ CodeOk Try.prog 174 100000 (kAt (kOf Try.prog Try.f16) [true, true, true, true, true, true, true, false, true, false, false]) (I x) ex s') (x : α) (hx : Inv x) :
    CodeOk Try.prog 174 100000 (kAt (kOf Try.prog Try.f16) [true, true, true, true, true, true, true, false, true, false]) (I x) ex s' := by
  have hk : (kAt (kOf Try.prog Try.f16) [true, true, true, true, true, true, true, false, true, false]) = .loop (kAt (kOf Try.prog Try.f16) [true, true, true, true, true, true, true, false, true, false, false]) := by kernel_rfl
  rw [hk]
  exact CodeOk.loop I Inv μ hex step x hx
theorem LHo_xtt (rr cw : Nat) (X : Nat → Nat → Int) (ro co : Int) (rr2 cw2 : Nat) (ro2 co2 : Int) (hi2 : Bool) (A B : Nat → Int) (nn MM : Nat → Nat) (G : Nat → Nat → Int) (N m i : Nat) (Z : Nat → Nat → Int)
    (hrr : 1 ≤ rr ∧ rr ≤ 60)
    (hcw : 1 ≤ cw ∧ cw ≤ 120)
    (hro : 0 ≤ ro ∧ ro < rr)
    (hco : 0 ≤ co ∧ co < cw)
    (hX : ∀ j, j < rr → W.okRow (X j) cw)
    (hrr2 : 1 ≤ rr2 ∧ rr2 ≤ 60)
    (hcw2 : 1 ≤ cw2 ∧ cw2 ≤ 120)
    (hro2 : 0 ≤ ro2 ∧ ro2 < rr2)
    (hco2 : 0 ≤ co2 ∧ co2 < cw2)
    (hm : m ≤ N)
    (hms : m ≤ 1048576)
    (hnM : ∀ j, nn j ≤ MM j)
    (hMs : ∀ j, MM j ≤ 1048576)
    (hA : ∀ j, -9223372036854775808 ≤ A j ∧ A j < 9223372036854775808)
    (hB : ∀ j, -9223372036854775808 ≤ B j ∧ B j < 9223372036854775808)
    (hil : i ≤ m)
    (hE : i < m → ∀ k, k < nn i → W.okAt (G i) k = true)
    (h0 : ((↑i : Int) < (↑m : Int)))
    (h1 : ((↑(nn i) : Int) = (0 : Int))) :
    CodeOk Try.prog 174 100000 (kAt (kOf Try.prog Try.f16) [true, true, true, true, true, true, true, false, true, false, false]) (LHoI rr cw X rr2 cw2 ro2 co2 hi2 A B nn MM G N m i Z) .ret ⟨[(3, (.c (.ptr 21 0 0))), (4, (.c (.ptr 37 0 0))), (6, (.c (.ptr 709 0 0))), (5, (.c (.int .i64 1))), (8, (.c (.int .i64 (↑i))))], [(1, (.one ⟨false, false, (.gen rr (fun j_ => (.sl 2 j_ 0 cw 4)))⟩)), (2, (.many (fun j_ => some ⟨false, false, (.ig (W.rl rr (cw * 4) j_) W.ck (fun p_ => (X j_ p_)))⟩))), (3, (.one ⟨false, false, (.row (N * 3) 3 (fun j_ => [(.int .i64 (A j_)), (.int .i64 (B j_)), (.sl 4 j_ 0 (nn j_) 4)]))⟩)), (4, (.many (fun j_ => some ⟨false, false, (.ig (MM j_ * 4) W.ck (fun p_ => (G j_ p_)))⟩))), (21, (.one ⟨true, true, (.cells [(.int .i64 (↑rr2)), (.int .i64 (↑cw2)), (.int .i64 ro2), (.int .i64 co2), (.bool hi2), (.sl 3 0 0 m 3)])⟩)), (37, (.one ⟨true, true, (.cells [(.int .i64 0), (.int .i64 0), .nils, (.int .i64 0), (.int .i64 0), (.bool (false))])⟩)), (693, (.one ⟨true, false, (.gen rr2 (fun j_ => (.sl 694 j_ 0 cw2 4)))⟩)), (694, (.many (fun j_ => some ⟨true, true, (.ig (W.rl rr2 (cw2 * 4) j_) W.ck (fun p_ => (Z j_ p_)))⟩))), (709, (.one ⟨true, true, (.cells [(.int .i64 (↑rr2)), (.int .i64 (↑cw2)), (.sl 693 0 0 rr2 1), (.int .i64 ro2), (.int .i64 co2), (.bool hi2)])⟩))], 100016⟩ :=
  CodeOk.of_runs (fuel := 300) (v := ⟨[3, 4, 6, 5, 8], [1, 2, 3, 4, 21, 37, 693, 694, 709], [], 100016⟩) (hs := [(4, ⟨.auto, some (.c (.bool (true)))⟩), (9, ⟨.ask, none⟩), (10, ⟨.ask, some (.agg [(.int .i64 (A i)), (.int .i64 (B i)), (.sl 4 i 0 (nn i) 4)])⟩), (17, ⟨.auto, some (.c (.bool (true)))⟩)])
    (cs := [EB ((↑(nn i) : Int) == 0) true,
      ((.agg ((List.range 3).map (fun j_ => recGet 3 (fun j_ => [(.int .i64 (A j_)), (.int .i64 (B j_)), (.sl 4 j_ 0 (nn j_) 4)]) (i * 3 + j_)))) : V) = (.agg [(.int .i64 (A i)), (.int .i64 (B i)), (.sl 4 i 0 (nn i) 4)]),
      (i * (3 : Nat) + (3 : Nat) ≤ N * (3 : Nat)),
      ((0 : Int) ≤ (↑i : Int) ∧ (↑i : Int) < (↑m : Int)),
      EB (decide ((↑i : Int) < (↑m : Int))) true])
    mixed (by kernel_rfl) ⟨.mk (beq_t h1), EV.recs rfl, (by omega), (by omega), .mk (decide_eq_true h0), trivial⟩
theorem LHo_xtft (rr cw : Nat) (X : Nat → Nat → Int) (ro co : Int) (rr2 cw2 : Nat) (ro2 co2 : Int) (hi2 : Bool) (A B : Nat → Int) (nn MM : Nat → Nat) (G : Nat → Nat → Int) (N m i : Nat) (Z : Nat → Nat → Int)
    (hrr : 1 ≤ rr ∧ rr ≤ 60)
    (hcw : 1 ≤ cw ∧ cw ≤ 120)
    (hro : 0 ≤ ro ∧ ro < rr)
    (hco : 0 ≤ co ∧ co < cw)
    (hX : ∀ j, j < rr → W.okRow (X j) cw)
    (hrr2 : 1 ≤ rr2 ∧ rr2 ≤ 60)
    (hcw2 : 1 ≤ cw2 ∧ cw2 ≤ 120)
    (hro2 : 0 ≤ ro2 ∧ ro2 < rr2)
    (hco2 : 0 ≤ co2 ∧ co2 < cw2)
    (hm : m ≤ N)
    (hms : m ≤ 1048576)
    (hnM : ∀ j, nn j ≤ MM j)
    (hMs : ∀ j, MM j ≤ 1048576)
    (hA : ∀ j, -9223372036854775808 ≤ A j ∧ A j < 9223372036854775808)
    (hB : ∀ j, -9223372036854775808 ≤ B j ∧ B j < 9223372036854775808)
    (hil : i ≤ m)
    (hE : i < m → ∀ k, k < nn i → W.okAt (G i) k = true)
    (h0 : ((↑i : Int) < (↑m : Int)))
    (h1 : (¬(↑(nn i) : Int) = (0 : Int)))
    (h2 : (A i < (0 : Int))) :
    CodeOk Try.prog 174 100000 (kAt (kOf Try.prog Try.f16) [true, true, true, true, true, true, true, false, true, false, false]) (LHoI rr cw X rr2 cw2 ro2 co2 hi2 A B nn MM G N m i Z) .ret ⟨[(3, (.c (.ptr 21 0 0))), (4, (.c (.ptr 37 0 0))), (6, (.c (.ptr 709 0 0))), (5, (.c (.int .i64 1))), (8, (.c (.int .i64 (↑i))))], [(1, (.one ⟨false, false, (.gen rr (fun j_ => (.sl 2 j_ 0 cw 4)))⟩)), (2, (.many (fun j_ => some ⟨false, false, (.ig (W.rl rr (cw * 4) j_) W.ck (fun p_ => (X j_ p_)))⟩))), (3, (.one ⟨false, false, (.row (N * 3) 3 (fun j_ => [(.int .i64 (A j_)), (.int .i64 (B j_)), (.sl 4 j_ 0 (nn j_) 4)]))⟩)), (4, (.many (fun j_ => some ⟨false, false, (.ig (MM j_ * 4) W.ck (fun p_ => (G j_ p_)))⟩))), (21, (.one ⟨true, true, (.cells [(.int .i64 (↑rr2)), (.int .i64 (↑cw2)), (.int .i64 ro2), (.int .i64 co2), (.bool hi2), (.sl 3 0 0 m 3)])⟩)), (37, (.one ⟨true, true, (.cells [(.int .i64 0), (.int .i64 0), .nils, (.int .i64 0), (.int .i64 0), (.bool (false))])⟩)), (693, (.one ⟨true, false, (.gen rr2 (fun j_ => (.sl 694 j_ 0 cw2 4)))⟩)), (694, (.many (fun j_ => some ⟨true, true, (.ig (W.rl rr2 (cw2 * 4) j_) W.ck (fun p_ => (Z j_ p_)))⟩))), (709, (.one ⟨true, true, (.cells [(.int .i64 (↑rr2)), (.int .i64 (↑cw2)), (.sl 693 0 0 rr2 1), (.int .i64 ro2), (.int .i64 co2), (.bool hi2)])⟩))], 100016⟩ :=
  CodeOk.of_runs (fuel := 300) (v := ⟨[3, 4, 6, 5, 8], [1, 2, 3, 4, 21, 37, 693, 694, 709], [], 100016⟩) (hs := [(4, ⟨.auto, some (.c (.bool (true)))⟩), (9, ⟨.ask, none⟩), (10, ⟨.ask, some (.agg [(.int .i64 (A i)), (.int .i64 (B i)), (.sl 4 i 0 (nn i) 4)])⟩), (17, ⟨.auto, some (.c (.bool (false)))⟩), (22, ⟨.auto, some (.c (.bool (true)))⟩)])
    (cs := [EB (decide (A i < 0)) true,
      EB ((↑(nn i) : Int) == 0) false,
      ((.agg ((List.range 3).map (fun j_ => recGet 3 (fun j_ => [(.int .i64 (A j_)), (.int .i64 (B j_)), (.sl 4 j_ 0 (nn j_) 4)]) (i * 3 + j_)))) : V) = (.agg [(.int .i64 (A i)), (.int .i64 (B i)), (.sl 4 i 0 (nn i) 4)]),
      (i * (3 : Nat) + (3 : Nat) ≤ N * (3 : Nat)),
      ((0 : Int) ≤ (↑i : Int) ∧ (↑i : Int) < (↑m : Int)),
      EB (decide ((↑i : Int) < (↑m : Int))) true])
    mixed (by kernel_rfl) ⟨.mk (decide_eq_true h2), .mk (beq_f h1), EV.recs rfl, (by omega), (by omega), .mk (decide_eq_true h0), trivial⟩
theorem LHo_xtfft (rr cw : Nat) (X : Nat → Nat → Int) (ro co : Int) (rr2 cw2 : Nat) (ro2 co2 : Int) (hi2 : Bool) (A B : Nat → Int) (nn MM : Nat → Nat) (G : Nat → Nat → Int) (N m i : Nat) (Z : Nat → Nat → Int)
    (hrr : 1 ≤ rr ∧ rr ≤ 60)
    (hcw : 1 ≤ cw ∧ cw ≤ 120)
    (hro : 0 ≤ ro ∧ ro < rr)
    (hco : 0 ≤ co ∧ co < cw)
    (hX : ∀ j, j < rr → W.okRow (X j) cw)
    (hrr2 : 1 ≤ rr2 ∧ rr2 ≤ 60)
    (hcw2 : 1 ≤ cw2 ∧ cw2 ≤ 120)
    (hro2 : 0 ≤ ro2 ∧ ro2 < rr2)
    (hco2 : 0 ≤ co2 ∧ co2 < cw2)
    (hm : m ≤ N)
    (hms : m ≤ 1048576)
    (hnM : ∀ j, nn j ≤ MM j)
    (hMs : ∀ j, MM j ≤ 1048576)
    (hA : ∀ j, -9223372036854775808 ≤ A j ∧ A j < 9223372036854775808)
    (hB : ∀ j, -9223372036854775808 ≤ B j ∧ B j < 9223372036854775808)
    (hil : i ≤ m)
    (hE : i < m → ∀ k, k < nn i → W.okAt (G i) k = true)
    (h0 : ((↑i : Int) < (↑m : Int)))
    (h1 : (¬(↑(nn i) : Int) = (0 : Int)))
    (h2 : (¬A i < (0 : Int)))
    (h3 : (A i ≥ (↑rr2 : Int))) :
    CodeOk Try.prog 174 100000 (kAt (kOf Try.prog Try.f16) [true, true, true, true, true, true, true, false, true, false, false]) (LHoI rr cw X rr2 cw2 ro2 co2 hi2 A B nn MM G N m i Z) .ret ⟨[(3, (.c (.ptr 21 0 0))), (4, (.c (.ptr 37 0 0))), (6, (.c (.ptr 709 0 0))), (5, (.c (.int .i64 1))), (8, (.c (.int .i64 (↑i))))], [(1, (.one ⟨false, false, (.gen rr (fun j_ => (.sl 2 j_ 0 cw 4)))⟩)), (2, (.many (fun j_ => some ⟨false, false, (.ig (W.rl rr (cw * 4) j_) W.ck (fun p_ => (X j_ p_)))⟩))), (3, (.one ⟨false, false, (.row (N * 3) 3 (fun j_ => [(.int .i64 (A j_)), (.int .i64 (B j_)), (.sl 4 j_ 0 (nn j_) 4)]))⟩)), (4, (.many (fun j_ => some ⟨false, false, (.ig (MM j_ * 4) W.ck (fun p_ => (G j_ p_)))⟩))), (21, (.one ⟨true, true, (.cells [(.int .i64 (↑rr2)), (.int .i64 (↑cw2)), (.int .i64 ro2), (.int .i64 co2), (.bool hi2), (.sl 3 0 0 m 3)])⟩)), (37, (.one ⟨true, true, (.cells [(.int .i64 0), (.int .i64 0), .nils, (.int .i64 0), (.int .i64 0), (.bool (false))])⟩)), (693, (.one ⟨true, false, (.gen rr2 (fun j_ => (.sl 694 j_ 0 cw2 4)))⟩)), (694, (.many (fun j_ => some ⟨true, true, (.ig (W.rl rr2 (cw2 * 4) j_) W.ck (fun p_ => (Z j_ p_)))⟩))), (709, (.one ⟨true, true, (.cells [(.int .i64 (↑rr2)), (.int .i64 (↑cw2)), (.sl 693 0 0 rr2 1), (.int .i64 ro2), (.int .i64 co2), (.bool hi2)])⟩))], 100016⟩ :=
  CodeOk.of_runs (fuel := 300) (v := ⟨[3, 4, 6, 5, 8], [1, 2, 3, 4, 21, 37, 693, 694, 709], [], 100016⟩) (hs := [(4, ⟨.auto, some (.c (.bool (true)))⟩), (9, ⟨.ask, none⟩), (10, ⟨.ask, some (.agg [(.int .i64 (A i)), (.int .i64 (B i)), (.sl 4 i 0 (nn i) 4)])⟩), (17, ⟨.auto, some (.c (.bool (false)))⟩), (22, ⟨.auto, some (.c (.bool (false)))⟩), (29, ⟨.auto, some (.c (.bool (true)))⟩)])
    (cs := [EB (decide (A i ≥ (↑rr2 : Int))) true,
      EB (decide (A i < 0)) false,
      EB ((↑(nn i) : Int) == 0) false,
      ((.agg ((List.range 3).map (fun j_ => recGet 3 (fun j_ => [(.int .i64 (A j_)), (.int .i64 (B j_)), (.sl 4 j_ 0 (nn j_) 4)]) (i * 3 + j_)))) : V) = (.agg [(.int .i64 (A i)), (.int .i64 (B i)), (.sl 4 i 0 (nn i) 4)]),
      (i * (3 : Nat) + (3 : Nat) ≤ N * (3 : Nat)),
      ((0 : Int) ≤ (↑i : Int) ∧ (↑i : Int) < (↑m : Int)),
      EB (decide ((↑i : Int) < (↑m : Int))) true])
    mixed (by kernel_rfl) ⟨.mk (decide_eq_true h3), .mk (decide_eq_false h2), .mk (beq_f h1), EV.recs rfl, (by omega), (by omega), .mk (decide_eq_true h0), trivial⟩
theorem LHo_xtffft (rr cw : Nat) (X : Nat → Nat → Int) (ro co : Int) (rr2 cw2 : Nat) (ro2 co2 : Int) (hi2 : Bool) (A B : Nat → Int) (nn MM : Nat → Nat) (G : Nat → Nat → Int) (N m i : Nat) (Z : Nat → Nat → Int)
    (hrr : 1 ≤ rr ∧ rr ≤ 60)
    (hcw : 1 ≤ cw ∧ cw ≤ 120)
    (hro : 0 ≤ ro ∧ ro < rr)
    (hco : 0 ≤ co ∧ co < cw)
    (hX : ∀ j, j < rr → W.okRow (X j) cw)
    (hrr2 : 1 ≤ rr2 ∧ rr2 ≤ 60)
    (hcw2 : 1 ≤ cw2 ∧ cw2 ≤ 120)
    (hro2 : 0 ≤ ro2 ∧ ro2 < rr2)
    (hco2 : 0 ≤ co2 ∧ co2 < cw2)
    (hm : m ≤ N)
    (hms : m ≤ 1048576)
    (hnM : ∀ j, nn j ≤ MM j)
    (hMs : ∀ j, MM j ≤ 1048576)
    (hA : ∀ j, -9223372036854775808 ≤ A j ∧ A j < 9223372036854775808)
    (hB : ∀ j, -9223372036854775808 ≤ B j ∧ B j < 9223372036854775808)
    (hil : i ≤ m)
    (hE : i < m → ∀ k, k < nn i → W.okAt (G i) k = true)
    (h0 : ((↑i : Int) < (↑m : Int)))
    (h1 : (¬(↑(nn i) : Int) = (0 : Int)))
    (h2 : (¬A i < (0 : Int)))
    (h3 : (¬A i ≥ (↑rr2 : Int)))
    (h4 : (B i < (0 : Int))) :
    CodeOk Try.prog 174 100000 (kAt (kOf Try.prog Try.f16) [true, true, true, true, true, true, true, false, true, false, false]) (LHoI rr cw X rr2 cw2 ro2 co2 hi2 A B nn MM G N m i Z) .ret ⟨[(3, (.c (.ptr 21 0 0))), (4, (.c (.ptr 37 0 0))), (6, (.c (.ptr 709 0 0))), (5, (.c (.int .i64 1))), (8, (.c (.int .i64 (↑i))))], [(1, (.one ⟨false, false, (.gen rr (fun j_ => (.sl 2 j_ 0 cw 4)))⟩)), (2, (.many (fun j_ => some ⟨false, false, (.ig (W.rl rr (cw * 4) j_) W.ck (fun p_ => (X j_ p_)))⟩))), (3, (.one ⟨false, false, (.row (N * 3) 3 (fun j_ => [(.int .i64 (A j_)), (.int .i64 (B j_)), (.sl 4 j_ 0 (nn j_) 4)]))⟩)), (4, (.many (fun j_ => some ⟨false, false, (.ig (MM j_ * 4) W.ck (fun p_ => (G j_ p_)))⟩))), (21, (.one ⟨true, true, (.cells [(.int .i64 (↑rr2)), (.int .i64 (↑cw2)), (.int .i64 ro2), (.int .i64 co2), (.bool hi2), (.sl 3 0 0 m 3)])⟩)), (37, (.one ⟨true, true, (.cells [(.int .i64 0), (.int .i64 0), .nils, (.int .i64 0), (.int .i64 0), (.bool (false))])⟩)), (693, (.one ⟨true, false, (.gen rr2 (fun j_ => (.sl 694 j_ 0 cw2 4)))⟩)), (694, (.many (fun j_ => some ⟨true, true, (.ig (W.rl rr2 (cw2 * 4) j_) W.ck (fun p_ => (Z j_ p_)))⟩))), (709, (.one ⟨true, true, (.cells [(.int .i64 (↑rr2)), (.int .i64 (↑cw2)), (.sl 693 0 0 rr2 1), (.int .i64 ro2), (.int .i64 co2), (.bool hi2)])⟩))], 100016⟩ :=
  CodeOk.of_runs (fuel := 300) (v := ⟨[3, 4, 6, 5, 8], [1, 2, 3, 4, 21, 37, 693, 694, 709], [], 100016⟩) (hs := [(4, ⟨.auto, some (.c (.bool (true)))⟩), (9, ⟨.ask, none⟩), (10, ⟨.ask, some (.agg [(.int .i64 (A i)), (.int .i64 (B i)), (.sl 4 i 0 (nn i) 4)])⟩), (17, ⟨.auto, some (.c (.bool (false)))⟩), (22, ⟨.auto, some (.c (.bool (false)))⟩), (29, ⟨.auto, some (.c (.bool (false)))⟩), (34, ⟨.auto, some (.c (.bool (true)))⟩)])
    (cs := [EB (decide (B i < 0)) true,
      EB (decide (A i ≥ (↑rr2 : Int))) false,
      EB (decide (A i < 0)) false,
      EB ((↑(nn i) : Int) == 0) false,
      ((.agg ((List.range 3).map (fun j_ => recGet 3 (fun j_ => [(.int .i64 (A j_)), (.int .i64 (B j_)), (.sl 4 j_ 0 (nn j_) 4)]) (i * 3 + j_)))) : V) = (.agg [(.int .i64 (A i)), (.int .i64 (B i)), (.sl 4 i 0 (nn i) 4)]),
      (i * (3 : Nat) + (3 : Nat) ≤ N * (3 : Nat)),
      ((0 : Int) ≤ (↑i : Int) ∧ (↑i : Int) < (↑m : Int)),
      EB (decide ((↑i : Int) < (↑m : Int))) true])
    mixed (by kernel_rfl) ⟨.mk (decide_eq_true h4), .mk (decide_eq_false h3), .mk (decide_eq_false h2), .mk (beq_f h1), EV.recs rfl, (by omega), (by omega), .mk (decide_eq_true h0), trivial⟩
theorem LHo_xtfffft (rr cw : Nat) (X : Nat → Nat → Int) (ro co : Int) (rr2 cw2 : Nat) (ro2 co2 : Int) (hi2 : Bool) (A B : Nat → Int) (nn MM : Nat → Nat) (G : Nat → Nat → Int) (N m i : Nat) (Z : Nat → Nat → Int)
    (hrr : 1 ≤ rr ∧ rr ≤ 60)
    (hcw : 1 ≤ cw ∧ cw ≤ 120)
    (hro : 0 ≤ ro ∧ ro < rr)
    (hco : 0 ≤ co ∧ co < cw)
    (hX : ∀ j, j < rr → W.okRow (X j) cw)
    (hrr2 : 1 ≤ rr2 ∧ rr2 ≤ 60)
    (hcw2 : 1 ≤ cw2 ∧ cw2 ≤ 120)
    (hro2 : 0 ≤ ro2 ∧ ro2 < rr2)
    (hco2 : 0 ≤ co2 ∧ co2 < cw2)
    (hm : m ≤ N)
    (hms : m ≤ 1048576)
    (hnM : ∀ j, nn j ≤ MM j)
    (hMs : ∀ j, MM j ≤ 1048576)
    (hA : ∀ j, -9223372036854775808 ≤ A j ∧ A j < 9223372036854775808)
    (hB : ∀ j, -9223372036854775808 ≤ B j ∧ B j < 9223372036854775808)
    (hil : i ≤ m)
    (hE : i < m → ∀ k, k < nn i → W.okAt (G i) k = true)
    (h0 : ((↑i : Int) < (↑m : Int)))
    (h1 : (¬(↑(nn i) : Int) = (0 : Int)))
    (h2 : (¬A i < (0 : Int)))
    (h3 : (¬A i ≥ (↑rr2 : Int)))
    (h4 : (¬B i < (0 : Int)))
    (h5 : (B i ≥ (↑cw2 : Int))) :
    CodeOk Try.prog 174 100000 (kAt (kOf Try.prog Try.f16) [true, true, true, true, true, true, true, false, true, false, false]) (LHoI rr cw X rr2 cw2 ro2 co2 hi2 A B nn MM G N m i Z) .ret ⟨[(3, (.c (.ptr 21 0 0))), (4, (.c (.ptr 37 0 0))), (6, (.c (.ptr 709 0 0))), (5, (.c (.int .i64 1))), (8, (.c (.int .i64 (↑i))))], [(1, (.one ⟨false, false, (.gen rr (fun j_ => (.sl 2 j_ 0 cw 4)))⟩)), (2, (.many (fun j_ => some ⟨false, false, (.ig (W.rl rr (cw * 4) j_) W.ck (fun p_ => (X j_ p_)))⟩))), (3, (.one ⟨false, false, (.row (N * 3) 3 (fun j_ => [(.int .i64 (A j_)), (.int .i64 (B j_)), (.sl 4 j_ 0 (nn j_) 4)]))⟩)), (4, (.many (fun j_ => some ⟨false, false, (.ig (MM j_ * 4) W.ck (fun p_ => (G j_ p_)))⟩))), (21, (.one ⟨true, true, (.cells [(.int .i64 (↑rr2)), (.int .i64 (↑cw2)), (.int .i64 ro2), (.int .i64 co2), (.bool hi2), (.sl 3 0 0 m 3)])⟩)), (37, (.one ⟨true, true, (.cells [(.int .i64 0), (.int .i64 0), .nils, (.int .i64 0), (.int .i64 0), (.bool (false))])⟩)), (693, (.one ⟨true, false, (.gen rr2 (fun j_ => (.sl 694 j_ 0 cw2 4)))⟩)), (694, (.many (fun j_ => some ⟨true, true, (.ig (W.rl rr2 (cw2 * 4) j_) W.ck (fun p_ => (Z j_ p_)))⟩))), (709, (.one ⟨true, true, (.cells [(.int .i64 (↑rr2)), (.int .i64 (↑cw2)), (.sl 693 0 0 rr2 1), (.int .i64 ro2), (.int .i64 co2), (.bool hi2)])⟩))], 100016⟩ :=
  CodeOk.of_runs (fuel := 300) (v := ⟨[3, 4, 6, 5, 8], [1, 2, 3, 4, 21, 37, 693, 694, 709], [], 100016⟩) (hs := [(4, ⟨.auto, some (.c (.bool (true)))⟩), (9, ⟨.ask, none⟩), (10, ⟨.ask, some (.agg [(.int .i64 (A i)), (.int .i64 (B i)), (.sl 4 i 0 (nn i) 4)])⟩), (17, ⟨.auto, some (.c (.bool (false)))⟩), (22, ⟨.auto, some (.c (.bool (false)))⟩), (29, ⟨.auto, some (.c (.bool (false)))⟩), (34, ⟨.auto, some (.c (.bool (false)))⟩), (41, ⟨.auto, some (.c (.bool (true)))⟩)])
    (cs := [EB (decide (B i ≥ (↑cw2 : Int))) true,
      EB (decide (B i < 0)) false,
      EB (decide (A i ≥ (↑rr2 : Int))) false,
      EB (decide (A i < 0)) false,
      EB ((↑(nn i) : Int) == 0) false,
      ((.agg ((List.range 3).map (fun j_ => recGet 3 (fun j_ => [(.int .i64 (A j_)), (.int .i64 (B j_)), (.sl 4 j_ 0 (nn j_) 4)]) (i * 3 + j_)))) : V) = (.agg [(.int .i64 (A i)), (.int .i64 (B i)), (.sl 4 i 0 (nn i) 4)]),
      (i * (3 : Nat) + (3 : Nat) ≤ N * (3 : Nat)),
      ((0 : Int) ≤ (↑i : Int) ∧ (↑i : Int) < (↑m : Int)),
      EB (decide ((↑i : Int) < (↑m : Int))) true])
    mixed (by kernel_rfl) ⟨.mk (decide_eq_true h5), .mk (decide_eq_false h4), .mk (decide_eq_false h3), .mk (decide_eq_false h2), .mk (beq_f h1), EV.recs rfl, (by omega), (by omega), .mk (decide_eq_true h0), trivial⟩
theorem LHo_xtffffft (rr cw : Nat) (X : Nat → Nat → Int) (ro co : Int) (rr2 cw2 : Nat) (ro2 co2 : Int) (hi2 : Bool) (A B : Nat → Int) (nn MM : Nat → Nat) (G : Nat → Nat → Int) (N m i : Nat) (Z : Nat → Nat → Int)
    (hrr : 1 ≤ rr ∧ rr ≤ 60)
    (hcw : 1 ≤ cw ∧ cw ≤ 120)
    (hro : 0 ≤ ro ∧ ro < rr)
    (hco : 0 ≤ co ∧ co < cw)
    (hX : ∀ j, j < rr → W.okRow (X j) cw)
    (hrr2 : 1 ≤ rr2 ∧ rr2 ≤ 60)
    (hcw2 : 1 ≤ cw2 ∧ cw2 ≤ 120)
    (hro2 : 0 ≤ ro2 ∧ ro2 < rr2)
    (hco2 : 0 ≤ co2 ∧ co2 < cw2)
    (hm : m ≤ N)
    (hms : m ≤ 1048576)
    (hnM : ∀ j, nn j ≤ MM j)
    (hMs : ∀ j, MM j ≤ 1048576)
    (hA : ∀ j, -9223372036854775808 ≤ A j ∧ A j < 9223372036854775808)
    (hB : ∀ j, -9223372036854775808 ≤ B j ∧ B j < 9223372036854775808)
    (hil : i ≤ m)
    (hE : i < m → ∀ k, k < nn i → W.okAt (G i) k = true)
    (h0 : ((↑i : Int) < (↑m : Int)))
    (h1 : (¬(↑(nn i) : Int) = (0 : Int)))
    (h2 : (¬A i < (0 : Int)))
    (h3 : (¬A i ≥ (↑rr2 : Int)))
    (h4 : (¬B i < (0 : Int)))
    (h5 : (¬B i ≥ (↑cw2 : Int)))
    (h6 : ((↑(nn i) : Int) > (↑cw2 : Int) - B i)) :
    CodeOk Try.prog 174 100000 (kAt (kOf Try.prog Try.f16) [true, true, true, true, true, true, true, false, true, false, false]) (LHoI rr cw X rr2 cw2 ro2 co2 hi2 A B nn MM G N m i Z) .ret ⟨[(3, (.c (.ptr 21 0 0))), (4, (.c (.ptr 37 0 0))), (6, (.c (.ptr 709 0 0))), (5, (.c (.int .i64 1))), (8, (.c (.int .i64 (↑i))))], [(1, (.one ⟨false, false, (.gen rr (fun j_ => (.sl 2 j_ 0 cw 4)))⟩)), (2, (.many (fun j_ => some ⟨false, false, (.ig (W.rl rr (cw * 4) j_) W.ck (fun p_ => (X j_ p_)))⟩))), (3, (.one ⟨false, false, (.row (N * 3) 3 (fun j_ => [(.int .i64 (A j_)), (.int .i64 (B j_)), (.sl 4 j_ 0 (nn j_) 4)]))⟩)), (4, (.many (fun j_ => some ⟨false, false, (.ig (MM j_ * 4) W.ck (fun p_ => (G j_ p_)))⟩))), (21, (.one ⟨true, true, (.cells [(.int .i64 (↑rr2)), (.int .i64 (↑cw2)), (.int .i64 ro2), (.int .i64 co2), (.bool hi2), (.sl 3 0 0 m 3)])⟩)), (37, (.one ⟨true, true, (.cells [(.int .i64 0), (.int .i64 0), .nils, (.int .i64 0), (.int .i64 0), (.bool (false))])⟩)), (693, (.one ⟨true, false, (.gen rr2 (fun j_ => (.sl 694 j_ 0 cw2 4)))⟩)), (694, (.many (fun j_ => some ⟨true, true, (.ig (W.rl rr2 (cw2 * 4) j_) W.ck (fun p_ => (Z j_ p_)))⟩))), (709, (.one ⟨true, true, (.cells [(.int .i64 (↑rr2)), (.int .i64 (↑cw2)), (.sl 693 0 0 rr2 1), (.int .i64 ro2), (.int .i64 co2), (.bool hi2)])⟩))], 100016⟩ :=
  CodeOk.of_runs (fuel := 300) (v := ⟨[3, 4, 6, 5, 8], [1, 2, 3, 4, 21, 37, 693, 694, 709], [], 100016⟩) (hs := [(4, ⟨.auto, some (.c (.bool (true)))⟩), (9, ⟨.ask, none⟩), (10, ⟨.ask, some (.agg [(.int .i64 (A i)), (.int .i64 (B i)), (.sl 4 i 0 (nn i) 4)])⟩), (17, ⟨.auto, some (.c (.bool (false)))⟩), (22, ⟨.auto, some (.c (.bool (false)))⟩), (29, ⟨.auto, some (.c (.bool (false)))⟩), (34, ⟨.auto, some (.c (.bool (false)))⟩), (41, ⟨.auto, some (.c (.bool (false)))⟩), (49, ⟨.auto, some (.c (.int .i64 (↑cw2 - B i)))⟩), (51, ⟨.auto, some (.c (.bool (true)))⟩)])
    (cs := [EB (decide ((↑(nn i) : Int) > (↑cw2 : Int) - B i)) true,
      EI .i64 (IntKind.wrap IntKind.i64 ((↑cw2 : Int) - B i)) ((↑cw2 : Int) - B i),
      EB (decide (B i ≥ (↑cw2 : Int))) false,
      EB (decide (B i < 0)) false,
      EB (decide (A i ≥ (↑rr2 : Int))) false,
      EB (decide (A i < 0)) false,
      EB ((↑(nn i) : Int) == 0) false,
      ((.agg ((List.range 3).map (fun j_ => recGet 3 (fun j_ => [(.int .i64 (A j_)), (.int .i64 (B j_)), (.sl 4 j_ 0 (nn j_) 4)]) (i * 3 + j_)))) : V) = (.agg [(.int .i64 (A i)), (.int .i64 (B i)), (.sl 4 i 0 (nn i) 4)]),
      (i * (3 : Nat) + (3 : Nat) ≤ N * (3 : Nat)),
      ((0 : Int) ≤ (↑i : Int) ∧ (↑i : Int) < (↑m : Int)),
      EB (decide ((↑i : Int) < (↑m : Int))) true])
    mixed (by kernel_rfl) ⟨.mk (decide_eq_true h6), .mk (by simp only [addO_eq, mulE_eq, mulE_one, Int.toNat_natCast, IntKind.wrap_i64, mmin, mmax]; omega), .mk (decide_eq_false h5), .mk (decide_eq_false h4), .mk (decide_eq_false h3), .mk (decide_eq_false h2), .mk (beq_f h1), EV.recs rfl, (by omega), (by omega), .mk (decide_eq_true h0), trivial⟩
theorem LHo_rtffffff (rr cw : Nat) (X : Nat → Nat → Int) (ro co : Int) (rr2 cw2 : Nat) (ro2 co2 : Int) (hi2 : Bool) (A B : Nat → Int) (nn MM : Nat → Nat) (G : Nat → Nat → Int) (N m i : Nat) (Z : Nat → Nat → Int)
    (hrr : 1 ≤ rr ∧ rr ≤ 60)
    (hcw : 1 ≤ cw ∧ cw ≤ 120)
    (hro : 0 ≤ ro ∧ ro < rr)
    (hco : 0 ≤ co ∧ co < cw)
    (hX : ∀ j, j < rr → W.okRow (X j) cw)
    (hrr2 : 1 ≤ rr2 ∧ rr2 ≤ 60)
    (hcw2 : 1 ≤ cw2 ∧ cw2 ≤ 120)
    (hro2 : 0 ≤ ro2 ∧ ro2 < rr2)
    (hco2 : 0 ≤ co2 ∧ co2 < cw2)
    (hm : m ≤ N)
    (hms : m ≤ 1048576)
    (hnM : ∀ j, nn j ≤ MM j)
    (hMs : ∀ j, MM j ≤ 1048576)
    (hA : ∀ j, -9223372036854775808 ≤ A j ∧ A j < 9223372036854775808)
    (hB : ∀ j, -9223372036854775808 ≤ B j ∧ B j < 9223372036854775808)
    (hil : i ≤ m)
    (hE : i < m → ∀ k, k < nn i → W.okAt (G i) k = true)
    (h0 : ((↑i : Int) < (↑m : Int)))
    (h1 : (¬(↑(nn i) : Int) = (0 : Int)))
    (h2 : (¬A i < (0 : Int)))
    (h3 : (¬A i ≥ (↑rr2 : Int)))
    (h4 : (¬B i < (0 : Int)))
    (h5 : (¬B i ≥ (↑cw2 : Int)))
    (h6 : (¬(↑(nn i) : Int) > (↑cw2 : Int) - B i)) :
    CodeOk Try.prog 174 100000 (kAt (kOf Try.prog Try.f16) [true, true, true, true, true, true, true, false, true, false, false]) (LHoI rr cw X rr2 cw2 ro2 co2 hi2 A B nn MM G N m i Z) .normal (LHoI rr cw X rr2 cw2 ro2 co2 hi2 A B nn MM G N m (i + 1) (fun j_ p_ => W.apK (Int.toNat (A i)) (Int.toNat (B i)) (G i) (fun j_ p_ => Z j_ p_) (nn i) j_ p_)) :=
  CodeOk.of_runs (fuel := 300) (v := ⟨[3, 4, 6, 5, 8], [1, 2, 3, 4, 21, 37, 693, 694, 709], [], 100016⟩) (hs := [(4, ⟨.auto, some (.c (.bool (true)))⟩), (9, ⟨.ask, none⟩), (10, ⟨.ask, some (.agg [(.int .i64 (A i)), (.int .i64 (B i)), (.sl 4 i 0 (nn i) 4)])⟩), (17, ⟨.auto, some (.c (.bool (false)))⟩), (22, ⟨.auto, some (.c (.bool (false)))⟩), (29, ⟨.auto, some (.c (.bool (false)))⟩), (34, ⟨.auto, some (.c (.bool (false)))⟩), (41, ⟨.auto, some (.c (.bool (false)))⟩), (49, ⟨.auto, some (.c (.int .i64 (↑cw2 - B i)))⟩), (51, ⟨.auto, some (.c (.bool (false)))⟩), (54, ⟨.sum ⟨[3, 4, 6, 8, 9, 5, 10], [1, 2, 3, 4, 21, 37, 693, 694, 709, 100176], [(100176, 190690)], 200016⟩ (.exit 4) (LHiI rr cw X rr2 cw2 ro2 co2 hi2 A B nn MM G N m i (nn i) (W.apK (Int.toNat (A i)) (Int.toNat (B i)) (G i) (fun j_ p_ => Z j_ p_) (nn i))), none⟩), (56, ⟨.auto, some (.c (.int .i64 (↑(i + 1))))⟩)])
    (cs := [EI .i64 (IntKind.wrap IntKind.i64 ((↑i : Int) + 1)) ((↑(i + 1) : Int)),
      CodeOk Try.prog 174 100848 (kAt (kOf Try.prog Try.f16) [true, true, true, true, true, true, true, false, true, false, false, true, false, false, true, true, true, false]) (LHiI rr cw X rr2 cw2 ro2 co2 hi2 A B nn MM G N m i 0 fun j_ p_ => Z j_ p_) (.exit 4) (LHiI rr cw X rr2 cw2 ro2 co2 hi2 A B nn MM G N m i (nn i) (W.apK (Int.toNat (A i)) (Int.toNat (B i)) (G i) (fun j_ p_ => Z j_ p_) (nn i))),
      EB (decide ((↑(nn i) : Int) > (↑cw2 : Int) - B i)) false,
      EI .i64 (IntKind.wrap IntKind.i64 ((↑cw2 : Int) - B i)) ((↑cw2 : Int) - B i),
      EB (decide (B i ≥ (↑cw2 : Int))) false,
      EB (decide (B i < 0)) false,
      EB (decide (A i ≥ (↑rr2 : Int))) false,
      EB (decide (A i < 0)) false,
      EB ((↑(nn i) : Int) == 0) false,
      ((.agg ((List.range 3).map (fun j_ => recGet 3 (fun j_ => [(.int .i64 (A j_)), (.int .i64 (B j_)), (.sl 4 j_ 0 (nn j_) 4)]) (i * 3 + j_)))) : V) = (.agg [(.int .i64 (A i)), (.int .i64 (B i)), (.sl 4 i 0 (nn i) 4)]),
      (i * (3 : Nat) + (3 : Nat) ≤ N * (3 : Nat)),
      ((0 : Int) ≤ (↑i : Int) ∧ (↑i : Int) < (↑m : Int)),
      EB (decide ((↑i : Int) < (↑m : Int))) true])
    mixed (by kernel_rfl) ⟨.mk (by simp only [addO_eq, mulE_eq, mulE_one, Int.toNat_natCast, IntKind.wrap_i64, mmin, mmax]; omega), (CodeOk.mono (rai_ok rr cw X rr2 cw2 ro2 co2 hi2 A B nn MM G N m i (fun j_ p_ => Z j_ p_) (by omega) (by omega) (by omega) (by omega) (by omega) (by omega) (by omega) (by omega) (by omega) (by omega) (by omega) (by omega) (by omega) (by omega) (by omega) (by omega) (by exact hE (by omega))) (by decide)), .mk (decide_eq_false h6), .mk (by simp only [addO_eq, mulE_eq, mulE_one, Int.toNat_natCast, IntKind.wrap_i64, mmin, mmax]; omega), .mk (decide_eq_false h5), .mk (decide_eq_false h4), .mk (decide_eq_false h3), .mk (decide_eq_false h2), .mk (beq_f h1), EV.recs rfl, (by omega), (by omega), .mk (decide_eq_true h0), trivial⟩
theorem LHo_xf (rr cw : Nat) (X : Nat → Nat → Int) (ro co : Int) (rr2 cw2 : Nat) (ro2 co2 : Int) (hi2 : Bool) (A B : Nat → Int) (nn MM : Nat → Nat) (G : Nat → Nat → Int) (N m i : Nat) (Z : Nat → Nat → Int)
    (hrr : 1 ≤ rr ∧ rr ≤ 60)
    (hcw : 1 ≤ cw ∧ cw ≤ 120)
    (hro : 0 ≤ ro ∧ ro < rr)
    (hco : 0 ≤ co ∧ co < cw)
    (hX : ∀ j, j < rr → W.okRow (X j) cw)
    (hrr2 : 1 ≤ rr2 ∧ rr2 ≤ 60)
    (hcw2 : 1 ≤ cw2 ∧ cw2 ≤ 120)
    (hro2 : 0 ≤ ro2 ∧ ro2 < rr2)
    (hco2 : 0 ≤ co2 ∧ co2 < cw2)
    (hm : m ≤ N)
    (hms : m ≤ 1048576)
    (hnM : ∀ j, nn j ≤ MM j)
    (hMs : ∀ j, MM j ≤ 1048576)
    (hA : ∀ j, -9223372036854775808 ≤ A j ∧ A j < 9223372036854775808)
    (hB : ∀ j, -9223372036854775808 ≤ B j ∧ B j < 9223372036854775808)
    (hil : i ≤ m)
    (hE : i < m → ∀ k, k < nn i → W.okAt (G i) k = true)
    (h0 : (¬(↑i : Int) < (↑m : Int))) :
    CodeOk Try.prog 174 100000 (kAt (kOf Try.prog Try.f16) [true, true, true, true, true, true, true, false, true, false, false]) (LHoI rr cw X rr2 cw2 ro2 co2 hi2 A B nn MM G N m i Z) (.exit 2) (LHoI rr cw X rr2 cw2 ro2 co2 hi2 A B nn MM G N m i (fun j_ p_ => Z j_ p_)) :=
  CodeOk.of_runs (fuel := 300) (v := ⟨[3, 4, 6, 5, 8], [1, 2, 3, 4, 21, 37, 693, 694, 709], [], 100016⟩) (hs := [(4, ⟨.auto, some (.c (.bool (false)))⟩)])
    (cs := [EB (decide ((↑i : Int) < (↑m : Int))) false])
    mixed (by kernel_rfl) ⟨.mk (decide_eq_false h0), trivial⟩
end Go.Proofs.Ytohleiikedpmkaa.Vm

namespace Go.Proofs.Ytohleiikedpmkaa.Vm
open Go Go.Proofs Go.Proofs.Ytohleiikedpmkaa
set_option maxRecDepth 100000
noncomputable def LHpI (rr cw : Nat) (X : Nat → Nat → Int) (rr2 cw2 : Nat) (ro2 co2 : Int) (hi2 : Bool) (A B : Nat → Int) (nn MM : Nat → Nat) (G : Nat → Nat → Int) (N m i : Nat) (Z : Nat → Nat → Int) : S0 :=
  ⟨[(3, (.c (.ptr 21 0 0))), (4, (.c (.ptr 37 0 0))), (6, (.c (.ptr 709 0 0))), (5, (.c (.int .i64 0))), (8, (.c (.int .i64 (i : Int))))], [(1, (.one ⟨false, false, (.gen rr (fun j_ => (.sl 2 j_ 0 cw 4)))⟩)), (2, (.many (fun j_ => some ⟨false, false, (.ig (W.rl rr (cw * 4) j_) W.ck (fun p_ => (X j_ p_)))⟩))), (3, (.one ⟨false, false, (.row (N * 3) 3 (fun j_ => [(.int .i64 (A j_)), (.int .i64 (B j_)), (.sl 4 j_ 0 (nn j_) 4)]))⟩)), (4, (.many (fun j_ => some ⟨false, false, (.ig (MM j_ * 4) W.ck (fun p_ => (G j_ p_)))⟩))), (21, (.one ⟨true, true, (.cells [(.int .i64 (↑rr2)), (.int .i64 (↑cw2)), (.int .i64 ro2), (.int .i64 co2), (.bool hi2), (.sl 3 0 0 m 3)])⟩)), (37, (.one ⟨true, true, (.cells [(.int .i64 0), (.int .i64 0), .nils, (.int .i64 0), (.int .i64 0), (.bool (false))])⟩)), (693, (.one ⟨true, false, (.gen rr2 (fun j_ => (.sl 694 j_ 0 cw2 4)))⟩)), (694, (.many (fun j_ => some ⟨true, true, .ig (W.rl rr2 (cw2 * 4) j_) W.ck (Z j_)⟩))), (709, (.one ⟨true, true, (.cells [(.int .i64 (↑rr2)), (.int .i64 (↑cw2)), (.sl 693 0 0 rr2 1), (.int .i64 ro2), (.int .i64 co2), (.bool hi2)])⟩))], 100016⟩
theorem LHp_xtt (rr cw : Nat) (X : Nat → Nat → Int) (ro co : Int) (rr2 cw2 : Nat) (ro2 co2 : Int) (hi2 : Bool) (A B : Nat → Int) (nn MM : Nat → Nat) (G : Nat → Nat → Int) (N m i : Nat) (Z : Nat → Nat → Int)
    (hrr : 1 ≤ rr ∧ rr ≤ 60)
    (hcw : 1 ≤ cw ∧ cw ≤ 120)
    (hro : 0 ≤ ro ∧ ro < rr)
    (hco : 0 ≤ co ∧ co < cw)
    (hX : ∀ j, j < rr → W.okRow (X j) cw)
    (hrr2 : 1 ≤ rr2 ∧ rr2 ≤ 60)
    (hcw2 : 1 ≤ cw2 ∧ cw2 ≤ 120)
    (hro2 : 0 ≤ ro2 ∧ ro2 < rr2)
    (hco2 : 0 ≤ co2 ∧ co2 < cw2)
    (hm : m ≤ N)
    (hms : m ≤ 1048576)
    (hnM : ∀ j, nn j ≤ MM j)
    (hMs : ∀ j, MM j ≤ 1048576)
    (hA : ∀ j, -9223372036854775808 ≤ A j ∧ A j < 9223372036854775808)
    (hB : ∀ j, -9223372036854775808 ≤ B j ∧ B j < 9223372036854775808)
    (hil : i ≤ m)
    (hD : i < m → ¬ ∀ k, k < nn i → W.okAt (G i) k = true)
    (h0 : ((↑i : Int) < (↑m : Int)))
    (h1 : ((↑(nn i) : Int) = (0 : Int))) :
    CodeOk Try.prog 174 100000 (kAt (kOf Try.prog Try.f16) [true, true, true, true, true, true, true, false, true, false, false]) (LHpI rr cw X rr2 cw2 ro2 co2 hi2 A B nn MM G N m i Z) .ret ⟨[(3, (.c (.ptr 21 0 0))), (4, (.c (.ptr 37 0 0))), (6, (.c (.ptr 709 0 0))), (5, (.c (.int .i64 1))), (8, (.c (.int .i64 (↑i))))], [(1, (.one ⟨false, false, (.gen rr (fun j_ => (.sl 2 j_ 0 cw 4)))⟩)), (2, (.many (fun j_ => some ⟨false, false, (.ig (W.rl rr (cw * 4) j_) W.ck (fun p_ => (X j_ p_)))⟩))), (3, (.one ⟨false, false, (.row (N * 3) 3 (fun j_ => [(.int .i64 (A j_)), (.int .i64 (B j_)), (.sl 4 j_ 0 (nn j_) 4)]))⟩)), (4, (.many (fun j_ => some ⟨false, false, (.ig (MM j_ * 4) W.ck (fun p_ => (G j_ p_)))⟩))), (21, (.one ⟨true, true, (.cells [(.int .i64 (↑rr2)), (.int .i64 (↑cw2)), (.int .i64 ro2), (.int .i64 co2), (.bool hi2), (.sl 3 0 0 m 3)])⟩)), (37, (.one ⟨true, true, (.cells [(.int .i64 0), (.int .i64 0), .nils, (.int .i64 0), (.int .i64 0), (.bool (false))])⟩)), (693, (.one ⟨true, false, (.gen rr2 (fun j_ => (.sl 694 j_ 0 cw2 4)))⟩)), (694, (.many (fun j_ => some ⟨true, true, (.ig (W.rl rr2 (cw2 * 4) j_) W.ck (fun p_ => (Z j_ p_)))⟩))), (709, (.one ⟨true, true, (.cells [(.int .i64 (↑rr2)), (.int .i64 (↑cw2)), (.sl 693 0 0 rr2 1), (.int .i64 ro2), (.int .i64 co2), (.bool hi2)])⟩))], 100016⟩ :=
  CodeOk.of_runs (fuel := 300) (v := ⟨[3, 4, 6, 5, 8], [1, 2, 3, 4, 21, 37, 693, 694, 709], [], 100016⟩) (hs := [(4, ⟨.auto, some (.c (.bool (true)))⟩), (9, ⟨.ask, none⟩), (10, ⟨.ask, some (.agg [(.int .i64 (A i)), (.int .i64 (B i)), (.sl 4 i 0 (nn i) 4)])⟩), (17, ⟨.auto, some (.c (.bool (true)))⟩)])
    (cs := [EB ((↑(nn i) : Int) == 0) true,
      ((.agg ((List.range 3).map (fun j_ => recGet 3 (fun j_ => [(.int .i64 (A j_)), (.int .i64 (B j_)), (.sl 4 j_ 0 (nn j_) 4)]) (i * 3 + j_)))) : V) = (.agg [(.int .i64 (A i)), (.int .i64 (B i)), (.sl 4 i 0 (nn i) 4)]),
      (i * (3 : Nat) + (3 : Nat) ≤ N * (3 : Nat)),
      ((0 : Int) ≤ (↑i : Int) ∧ (↑i : Int) < (↑m : Int)),
      EB (decide ((↑i : Int) < (↑m : Int))) true])
    mixed (by kernel_rfl) ⟨.mk (beq_t h1), EV.recs rfl, (by omega), (by omega), .mk (decide_eq_true h0), trivial⟩
theorem LHp_xtft (rr cw : Nat) (X : Nat → Nat → Int) (ro co : Int) (rr2 cw2 : Nat) (ro2 co2 : Int) (hi2 : Bool) (A B : Nat → Int) (nn MM : Nat → Nat) (G : Nat → Nat → Int) (N m i : Nat) (Z : Nat → Nat → Int)
    (hrr : 1 ≤ rr ∧ rr ≤ 60)
    (hcw : 1 ≤ cw ∧ cw ≤ 120)
    (hro : 0 ≤ ro ∧ ro < rr)
    (hco : 0 ≤ co ∧ co < cw)
    (hX : ∀ j, j < rr → W.okRow (X j) cw)
    (hrr2 : 1 ≤ rr2 ∧ rr2 ≤ 60)
    (hcw2 : 1 ≤ cw2 ∧ cw2 ≤ 120)
    (hro2 : 0 ≤ ro2 ∧ ro2 < rr2)
    (hco2 : 0 ≤ co2 ∧ co2 < cw2)
    (hm : m ≤ N)
    (hms : m ≤ 1048576)
    (hnM : ∀ j, nn j ≤ MM j)
    (hMs : ∀ j, MM j ≤ 1048576)
    (hA : ∀ j, -9223372036854775808 ≤ A j ∧ A j < 9223372036854775808)
    (hB : ∀ j, -9223372036854775808 ≤ B j ∧ B j < 9223372036854775808)
    (hil : i ≤ m)
    (hD : i < m → ¬ ∀ k, k < nn i → W.okAt (G i) k = true)
    (h0 : ((↑i : Int) < (↑m : Int)))
    (h1 : (¬(↑(nn i) : Int) = (0 : Int)))
    (h2 : (A i < (0 : Int))) :
    CodeOk Try.prog 174 100000 (kAt (kOf Try.prog Try.f16) [true, true, true, true, true, true, true, false, true, false, false]) (LHpI rr cw X rr2 cw2 ro2 co2 hi2 A B nn MM G N m i Z) .ret ⟨[(3, (.c (.ptr 21 0 0))), (4, (.c (.ptr 37 0 0))), (6, (.c (.ptr 709 0 0))), (5, (.c (.int .i64 1))), (8, (.c (.int .i64 (↑i))))], [(1, (.one ⟨false, false, (.gen rr (fun j_ => (.sl 2 j_ 0 cw 4)))⟩)), (2, (.many (fun j_ => some ⟨false, false, (.ig (W.rl rr (cw * 4) j_) W.ck (fun p_ => (X j_ p_)))⟩))), (3, (.one ⟨false, false, (.row (N * 3) 3 (fun j_ => [(.int .i64 (A j_)), (.int .i64 (B j_)), (.sl 4 j_ 0 (nn j_) 4)]))⟩)), (4, (.many (fun j_ => some ⟨false, false, (.ig (MM j_ * 4) W.ck (fun p_ => (G j_ p_)))⟩))), (21, (.one ⟨true, true, (.cells [(.int .i64 (↑rr2)), (.int .i64 (↑cw2)), (.int .i64 ro2), (.int .i64 co2), (.bool hi2), (.sl 3 0 0 m 3)])⟩)), (37, (.one ⟨true, true, (.cells [(.int .i64 0), (.int .i64 0), .nils, (.int .i64 0), (.int .i64 0), (.bool (false))])⟩)), (693, (.one ⟨true, false, (.gen rr2 (fun j_ => (.sl 694 j_ 0 cw2 4)))⟩)), (694, (.many (fun j_ => some ⟨true, true, (.ig (W.rl rr2 (cw2 * 4) j_) W.ck (fun p_ => (Z j_ p_)))⟩))), (709, (.one ⟨true, true, (.cells [(.int .i64 (↑rr2)), (.int .i64 (↑cw2)), (.sl 693 0 0 rr2 1), (.int .i64 ro2), (.int .i64 co2), (.bool hi2)])⟩))], 100016⟩ :=
  CodeOk.of_runs (fuel := 300) (v := ⟨[3, 4, 6, 5, 8], [1, 2, 3, 4, 21, 37, 693, 694, 709], [], 100016⟩) (hs := [(4, ⟨.auto, some (.c (.bool (true)))⟩), (9, ⟨.ask, none⟩), (10, ⟨.ask, some (.agg [(.int .i64 (A i)), (.int .i64 (B i)), (.sl 4 i 0 (nn i) 4)])⟩), (17, ⟨.auto, some (.c (.bool (false)))⟩), (22, ⟨.auto, some (.c (.bool (true)))⟩)])
    (cs := [EB (decide (A i < 0)) true,
      EB ((↑(nn i) : Int) == 0) false,
      ((.agg ((List.range 3).map (fun j_ => recGet 3 (fun j_ => [(.int .i64 (A j_)), (.int .i64 (B j_)), (.sl 4 j_ 0 (nn j_) 4)]) (i * 3 + j_)))) : V) = (.agg [(.int .i64 (A i)), (.int .i64 (B i)), (.sl 4 i 0 (nn i) 4)]),
      (i * (3 : Nat) + (3 : Nat) ≤ N * (3 : Nat)),
      ((0 : Int) ≤ (↑i : Int) ∧ (↑i : Int) < (↑m : Int)),
      EB (decide ((↑i : Int) < (↑m : Int))) true])
    mixed (by kernel_rfl) ⟨.mk (decide_eq_true h2), .mk (beq_f h1), EV.recs rfl, (by omega), (by omega), .mk (decide_eq_true h0), trivial⟩
theorem LHp_xtfft (rr cw : Nat) (X : Nat → Nat → Int) (ro co : Int) (rr2 cw2 : Nat) (ro2 co2 : Int) (hi2 : Bool) (A B : Nat → Int) (nn MM : Nat → Nat) (G : Nat → Nat → Int) (N m i : Nat) (Z : Nat → Nat → Int)
    (hrr : 1 ≤ rr ∧ rr ≤ 60)
    (hcw : 1 ≤ cw ∧ cw ≤ 120)
    (hro : 0 ≤ ro ∧ ro < rr)
    (hco : 0 ≤ co ∧ co < cw)
    (hX : ∀ j, j < rr → W.okRow (X j) cw)
    (hrr2 : 1 ≤ rr2 ∧ rr2 ≤ 60)
    (hcw2 : 1 ≤ cw2 ∧ cw2 ≤ 120)
    (hro2 : 0 ≤ ro2 ∧ ro2 < rr2)
    (hco2 : 0 ≤ co2 ∧ co2 < cw2)
    (hm : m ≤ N)
    (hms : m ≤ 1048576)
    (hnM : ∀ j, nn j ≤ MM j)
    (hMs : ∀ j, MM j ≤ 1048576)
    (hA : ∀ j, -9223372036854775808 ≤ A j ∧ A j < 9223372036854775808)
    (hB : ∀ j, -9223372036854775808 ≤ B j ∧ B j < 9223372036854775808)
    (hil : i ≤ m)
    (hD : i < m → ¬ ∀ k, k < nn i → W.okAt (G i) k = true)
    (h0 : ((↑i : Int) < (↑m : Int)))
    (h1 : (¬(↑(nn i) : Int) = (0 : Int)))
    (h2 : (¬A i < (0 : Int)))
    (h3 : (A i ≥ (↑rr2 : Int))) :
    CodeOk Try.prog 174 100000 (kAt (kOf Try.prog Try.f16) [true, true, true, true, true, true, true, false, true, false, false]) (LHpI rr cw X rr2 cw2 ro2 co2 hi2 A B nn MM G N m i Z) .ret ⟨[(3, (.c (.ptr 21 0 0))), (4, (.c (.ptr 37 0 0))), (6, (.c (.ptr 709 0 0))), (5, (.c (.int .i64 1))), (8, (.c (.int .i64 (↑i))))], [(1, (.one ⟨false, false, (.gen rr (fun j_ => (.sl 2 j_ 0 cw 4)))⟩)), (2, (.many (fun j_ => some ⟨false, false, (.ig (W.rl rr (cw * 4) j_) W.ck (fun p_ => (X j_ p_)))⟩))), (3, (.one ⟨false, false, (.row (N * 3) 3 (fun j_ => [(.int .i64 (A j_)), (.int .i64 (B j_)), (.sl 4 j_ 0 (nn j_) 4)]))⟩)), (4, (.many (fun j_ => some ⟨false, false, (.ig (MM j_ * 4) W.ck (fun p_ => (G j_ p_)))⟩))), (21, (.one ⟨true, true, (.cells [(.int .i64 (↑rr2)), (.int .i64 (↑cw2)), (.int .i64 ro2), (.int .i64 co2), (.bool hi2), (.sl 3 0 0 m 3)])⟩)), (37, (.one ⟨true, true, (.cells [(.int .i64 0), (.int .i64 0), .nils, (.int .i64 0), (.int .i64 0), (.bool (false))])⟩)), (693, (.one ⟨true, false, (.gen rr2 (fun j_ => (.sl 694 j_ 0 cw2 4)))⟩)), (694, (.many (fun j_ => some ⟨true, true, (.ig (W.rl rr2 (cw2 * 4) j_) W.ck (fun p_ => (Z j_ p_)))⟩))), (709, (.one ⟨true, true, (.cells [(.int .i64 (↑rr2)), (.int .i64 (↑cw2)), (.sl 693 0 0 rr2 1), (.int .i64 ro2), (.int .i64 co2), (.bool hi2)])⟩))], 100016⟩ :=
  CodeOk.of_runs (fuel := 300) (v := ⟨[3, 4, 6, 5, 8], [1, 2, 3, 4, 21, 37, 693, 694, 709], [], 100016⟩) (hs := [(4, ⟨.auto, some (.c (.bool (true)))⟩), (9, ⟨.ask, none⟩), (10, ⟨.ask, some (.agg [(.int .i64 (A i)), (.int .i64 (B i)), (.sl 4 i 0 (nn i) 4)])⟩), (17, ⟨.auto, some (.c (.bool (false)))⟩), (22, ⟨.auto, some (.c (.bool (false)))⟩), (29, ⟨.auto, some (.c (.bool (true)))⟩)])
    (cs := [EB (decide (A i ≥ (↑rr2 : Int))) true,
      EB (decide (A i < 0)) false,
      EB ((↑(nn i) : Int) == 0) false,
      ((.agg ((List.range 3).map (fun j_ => recGet 3 (fun j_ => [(.int .i64 (A j_)), (.int .i64 (B j_)), (.sl 4 j_ 0 (nn j_) 4)]) (i * 3 + j_)))) : V) = (.agg [(.int .i64 (A i)), (.int .i64 (B i)), (.sl 4 i 0 (nn i) 4)]),
      (i * (3 : Nat) + (3 : Nat) ≤ N * (3 : Nat)),
      ((0 : Int) ≤ (↑i : Int) ∧ (↑i : Int) < (↑m : Int)),
      EB (decide ((↑i : Int) < (↑m : Int))) true])
    mixed (by kernel_rfl) ⟨.mk (decide_eq_true h3), .mk (decide_eq_false h2), .mk (beq_f h1), EV.recs rfl, (by omega), (by omega), .mk (decide_eq_true h0), trivial⟩
theorem LHp_xtffft (rr cw : Nat) (X : Nat → Nat → Int) (ro co : Int) (rr2 cw2 : Nat) (ro2 co2 : Int) (hi2 : Bool) (A B : Nat → Int) (nn MM : Nat → Nat) (G : Nat → Nat → Int) (N m i : Nat) (Z : Nat → Nat → Int)
    (hrr : 1 ≤ rr ∧ rr ≤ 60)
    (hcw : 1 ≤ cw ∧ cw ≤ 120)
    (hro : 0 ≤ ro ∧ ro < rr)
    (hco : 0 ≤ co ∧ co < cw)
    (hX : ∀ j, j < rr → W.okRow (X j) cw)
    (hrr2 : 1 ≤ rr2 ∧ rr2 ≤ 60)
    (hcw2 : 1 ≤ cw2 ∧ cw2 ≤ 120)
    (hro2 : 0 ≤ ro2 ∧ ro2 < rr2)
    (hco2 : 0 ≤ co2 ∧ co2 < cw2)
    (hm : m ≤ N)
    (hms : m ≤ 1048576)
    (hnM : ∀ j, nn j ≤ MM j)
    (hMs : ∀ j, MM j ≤ 1048576)
    (hA : ∀ j, -9223372036854775808 ≤ A j ∧ A j < 9223372036854775808)
    (hB : ∀ j, -9223372036854775808 ≤ B j ∧ B j < 9223372036854775808)
    (hil : i ≤ m)
    (hD : i < m → ¬ ∀ k, k < nn i → W.okAt (G i) k = true)
    (h0 : ((↑i : Int) < (↑m : Int)))
    (h1 : (¬(↑(nn i) : Int) = (0 : Int)))
    (h2 : (¬A i < (0 : Int)))
    (h3 : (¬A i ≥ (↑rr2 : Int)))
    (h4 : (B i < (0 : Int))) :
    CodeOk Try.prog 174 100000 (kAt (kOf Try.prog Try.f16) [true, true, true, true, true, true, true, false, true, false, false]) (LHpI rr cw X rr2 cw2 ro2 co2 hi2 A B nn MM G N m i Z) .ret ⟨[(3, (.c (.ptr 21 0 0))), (4, (.c (.ptr 37 0 0))), (6, (.c (.ptr 709 0 0))), (5, (.c (.int .i64 1))), (8, (.c (.int .i64 (↑i))))], [(1, (.one ⟨false, false, (.gen rr (fun j_ => (.sl 2 j_ 0 cw 4)))⟩)), (2, (.many (fun j_ => some ⟨false, false, (.ig (W.rl rr (cw * 4) j_) W.ck (fun p_ => (X j_ p_)))⟩))), (3, (.one ⟨false, false, (.row (N * 3) 3 (fun j_ => [(.int .i64 (A j_)), (.int .i64 (B j_)), (.sl 4 j_ 0 (nn j_) 4)]))⟩)), (4, (.many (fun j_ => some ⟨false, false, (.ig (MM j_ * 4) W.ck (fun p_ => (G j_ p_)))⟩))), (21, (.one ⟨true, true, (.cells [(.int .i64 (↑rr2)), (.int .i64 (↑cw2)), (.int .i64 ro2), (.int .i64 co2), (.bool hi2), (.sl 3 0 0 m 3)])⟩)), (37, (.one ⟨true, true, (.cells [(.int .i64 0), (.int .i64 0), .nils, (.int .i64 0), (.int .i64 0), (.bool (false))])⟩)), (693, (.one ⟨true, false, (.gen rr2 (fun j_ => (.sl 694 j_ 0 cw2 4)))⟩)), (694, (.many (fun j_ => some ⟨true, true, (.ig (W.rl rr2 (cw2 * 4) j_) W.ck (fun p_ => (Z j_ p_)))⟩))), (709, (.one ⟨true, true, (.cells [(.int .i64 (↑rr2)), (.int .i64 (↑cw2)), (.sl 693 0 0 rr2 1), (.int .i64 ro2), (.int .i64 co2), (.bool hi2)])⟩))], 100016⟩ :=
  CodeOk.of_runs (fuel := 300) (v := ⟨[3, 4, 6, 5, 8], [1, 2, 3, 4, 21, 37, 693, 694, 709], [], 100016⟩) (hs := [(4, ⟨.auto, some (.c (.bool (true)))⟩), (9, ⟨.ask, none⟩), (10, ⟨.ask, some (.agg [(.int .i64 (A i)), (.int .i64 (B i)), (.sl 4 i 0 (nn i) 4)])⟩), (17, ⟨.auto, some (.c (.bool (false)))⟩), (22, ⟨.auto, some (.c (.bool (false)))⟩), (29, ⟨.auto, some (.c (.bool (false)))⟩), (34, ⟨.auto, some (.c (.bool (true)))⟩)])
    (cs := [EB (decide (B i < 0)) true,
      EB (decide (A i ≥ (↑rr2 : Int))) false,
      EB (decide (A i < 0)) false,
      EB ((↑(nn i) : Int) == 0) false,
      ((.agg ((List.range 3).map (fun j_ => recGet 3 (fun j_ => [(.int .i64 (A j_)), (.int .i64 (B j_)), (.sl 4 j_ 0 (nn j_) 4)]) (i * 3 + j_)))) : V) = (.agg [(.int .i64 (A i)), (.int .i64 (B i)), (.sl 4 i 0 (nn i) 4)]),
      (i * (3 : Nat) + (3 : Nat) ≤ N * (3 : Nat)),
      ((0 : Int) ≤ (↑i : Int) ∧ (↑i : Int) < (↑m : Int)),
      EB (decide ((↑i : Int) < (↑m : Int))) true])
    mixed (by kernel_rfl) ⟨.mk (decide_eq_true h4), .mk (decide_eq_false h3), .mk (decide_eq_false h2), .mk (beq_f h1), EV.recs rfl, (by omega), (by omega), .mk (decide_eq_true h0), trivial⟩
theorem LHp_xtfffft (rr cw : Nat) (X : Nat → Nat → Int) (ro co : Int) (rr2 cw2 : Nat) (ro2 co2 : Int) (hi2 : Bool) (A B : Nat → Int) (nn MM : Nat → Nat) (G : Nat → Nat → Int) (N m i : Nat) (Z : Nat → Nat → Int)
    (hrr : 1 ≤ rr ∧ rr ≤ 60)
    (hcw : 1 ≤ cw ∧ cw ≤ 120)
    (hro : 0 ≤ ro ∧ ro < rr)
    (hco : 0 ≤ co ∧ co < cw)
    (hX : ∀ j, j < rr → W.okRow (X j) cw)
    (hrr2 : 1 ≤ rr2 ∧ rr2 ≤ 60)
    (hcw2 : 1 ≤ cw2 ∧ cw2 ≤ 120)
    (hro2 : 0 ≤ ro2 ∧ ro2 < rr2)
    (hco2 : 0 ≤ co2 ∧ co2 < cw2)
    (hm : m ≤ N)
    (hms : m ≤ 1048576)
    (hnM : ∀ j, nn j ≤ MM j)
    (hMs : ∀ j, MM j ≤ 1048576)
    (hA : ∀ j, -9223372036854775808 ≤ A j ∧ A j < 9223372036854775808)
    (hB : ∀ j, -9223372036854775808 ≤ B j ∧ B j < 9223372036854775808)
    (hil : i ≤ m)
    (hD : i < m → ¬ ∀ k, k < nn i → W.okAt (G i) k = true)
    (h0 : ((↑i : Int) < (↑m : Int)))
    (h1 : (¬(↑(nn i) : Int) = (0 : Int)))
    (h2 : (¬A i < (0 : Int)))
    (h3 : (¬A i ≥ (↑rr2 : Int)))
    (h4 : (¬B i < (0 : Int)))
    (h5 : (B i ≥ (↑cw2 : Int))) :
    CodeOk Try.prog 174 100000 (kAt (kOf Try.prog Try.f16) [true, true, true, true, true, true, true, false, true, false, false]) (LHpI rr cw X rr2 cw2 ro2 co2 hi2 A B nn MM G N m i Z) .ret ⟨[(3, (.c (.ptr 21 0 0))), (4, (.c (.ptr 37 0 0))), (6, (.c (.ptr 709 0 0))), (5, (.c (.int .i64 1))), (8, (.c (.int .i64 (↑i))))], [(1, (.one ⟨false, false, (.gen rr (fun j_ => (.sl 2 j_ 0 cw 4)))⟩)), (2, (.many (fun j_ => some ⟨false, false, (.ig (W.rl rr (cw * 4) j_) W.ck (fun p_ => (X j_ p_)))⟩))), (3, (.one ⟨false, false, (.row (N * 3) 3 (fun j_ => [(.int .i64 (A j_)), (.int .i64 (B j_)), (.sl 4 j_ 0 (nn j_) 4)]))⟩)), (4, (.many (fun j_ => some ⟨false, false, (.ig (MM j_ * 4) W.ck (fun p_ => (G j_ p_)))⟩))), (21, (.one ⟨true, true, (.cells [(.int .i64 (↑rr2)), (.int .i64 (↑cw2)), (.int .i64 ro2), (.int .i64 co2), (.bool hi2), (.sl 3 0 0 m 3)])⟩)), (37, (.one ⟨true, true, (.cells [(.int .i64 0), (.int .i64 0), .nils, (.int .i64 0), (.int .i64 0), (.bool (false))])⟩)), (693, (.one ⟨true, false, (.gen rr2 (fun j_ => (.sl 694 j_ 0 cw2 4)))⟩)), (694, (.many (fun j_ => some ⟨true, true, (.ig (W.rl rr2 (cw2 * 4) j_) W.ck (fun p_ => (Z j_ p_)))⟩))), (709, (.one ⟨true, true, (.cells [(.int .i64 (↑rr2)), (.int .i64 (↑cw2)), (.sl 693 0 0 rr2 1), (.int .i64 ro2), (.int .i64 co2), (.bool hi2)])⟩))], 100016⟩ :=
  CodeOk.of_runs (fuel := 300) (v := ⟨[3, 4, 6, 5, 8], [1, 2, 3, 4, 21, 37, 693, 694, 709], [], 100016⟩) (hs := [(4, ⟨.auto, some (.c (.bool (true)))⟩), (9, ⟨.ask, none⟩), (10, ⟨.ask, some (.agg [(.int .i64 (A i)), (.int .i64 (B i)), (.sl 4 i 0 (nn i) 4)])⟩), (17, ⟨.auto, some (.c (.bool (false)))⟩), (22, ⟨.auto, some (.c (.bool (false)))⟩), (29, ⟨.auto, some (.c (.bool (false)))⟩), (34, ⟨.auto, some (.c (.bool (false)))⟩), (41, ⟨.auto, some (.c (.bool (true)))⟩)])
    (cs := [EB (decide (B i ≥ (↑cw2 : Int))) true,
      EB (decide (B i < 0)) false,
      EB (decide (A i ≥ (↑rr2 : Int))) false,
      EB (decide (A i < 0)) false,
      EB ((↑(nn i) : Int) == 0) false,
      ((.agg ((List.range 3).map (fun j_ => recGet 3 (fun j_ => [(.int .i64 (A j_)), (.int .i64 (B j_)), (.sl 4 j_ 0 (nn j_) 4)]) (i * 3 + j_)))) : V) = (.agg [(.int .i64 (A i)), (.int .i64 (B i)), (.sl 4 i 0 (nn i) 4)]),
      (i * (3 : Nat) + (3 : Nat) ≤ N * (3 : Nat)),
      ((0 : Int) ≤ (↑i : Int) ∧ (↑i : Int) < (↑m : Int)),
      EB (decide ((↑i : Int) < (↑m : Int))) true])
    mixed (by kernel_rfl) ⟨.mk (decide_eq_true h5), .mk (decide_eq_false h4), .mk (decide_eq_false h3), .mk (decide_eq_false h2), .mk (beq_f h1), EV.recs rfl, (by omega), (by omega), .mk (decide_eq_true h0), trivial⟩
theorem LHp_xtffffft (rr cw : Nat) (X : Nat → Nat → Int) (ro co : Int) (rr2 cw2 : Nat) (ro2 co2 : Int) (hi2 : Bool) (A B : Nat → Int) (nn MM : Nat → Nat) (G : Nat → Nat → Int) (N m i : Nat) (Z : Nat → Nat → Int)
    (hrr : 1 ≤ rr ∧ rr ≤ 60)
    (hcw : 1 ≤ cw ∧ cw ≤ 120)
    (hro : 0 ≤ ro ∧ ro < rr)
    (hco : 0 ≤ co ∧ co < cw)
    (hX : ∀ j, j < rr → W.okRow (X j) cw)
    (hrr2 : 1 ≤ rr2 ∧ rr2 ≤ 60)
    (hcw2 : 1 ≤ cw2 ∧ cw2 ≤ 120)
    (hro2 : 0 ≤ ro2 ∧ ro2 < rr2)
    (hco2 : 0 ≤ co2 ∧ co2 < cw2)
    (hm : m ≤ N)
    (hms : m ≤ 1048576)
    (hnM : ∀ j, nn j ≤ MM j)
    (hMs : ∀ j, MM j ≤ 1048576)
    (hA : ∀ j, -9223372036854775808 ≤ A j ∧ A j < 9223372036854775808)
    (hB : ∀ j, -9223372036854775808 ≤ B j ∧ B j < 9223372036854775808)
    (hil : i ≤ m)
    (hD : i < m → ¬ ∀ k, k < nn i → W.okAt (G i) k = true)
    (h0 : ((↑i : Int) < (↑m : Int)))
    (h1 : (¬(↑(nn i) : Int) = (0 : Int)))
    (h2 : (¬A i < (0 : Int)))
    (h3 : (¬A i ≥ (↑rr2 : Int)))
    (h4 : (¬B i < (0 : Int)))
    (h5 : (¬B i ≥ (↑cw2 : Int)))
    (h6 : ((↑(nn i) : Int) > (↑cw2 : Int) - B i)) :
    CodeOk Try.prog 174 100000 (kAt (kOf Try.prog Try.f16) [true, true, true, true, true, true, true, false, true, false, false]) (LHpI rr cw X rr2 cw2 ro2 co2 hi2 A B nn MM G N m i Z) .ret ⟨[(3, (.c (.ptr 21 0 0))), (4, (.c (.ptr 37 0 0))), (6, (.c (.ptr 709 0 0))), (5, (.c (.int .i64 1))), (8, (.c (.int .i64 (↑i))))], [(1, (.one ⟨false, false, (.gen rr (fun j_ => (.sl 2 j_ 0 cw 4)))⟩)), (2, (.many (fun j_ => some ⟨false, false, (.ig (W.rl rr (cw * 4) j_) W.ck (fun p_ => (X j_ p_)))⟩))), (3, (.one ⟨false, false, (.row (N * 3) 3 (fun j_ => [(.int .i64 (A j_)), (.int .i64 (B j_)), (.sl 4 j_ 0 (nn j_) 4)]))⟩)), (4, (.many (fun j_ => some ⟨false, false, (.ig (MM j_ * 4) W.ck (fun p_ => (G j_ p_)))⟩))), (21, (.one ⟨true, true, (.cells [(.int .i64 (↑rr2)), (.int .i64 (↑cw2)), (.int .i64 ro2), (.int .i64 co2), (.bool hi2), (.sl 3 0 0 m 3)])⟩)), (37, (.one ⟨true, true, (.cells [(.int .i64 0), (.int .i64 0), .nils, (.int .i64 0), (.int .i64 0), (.bool (false))])⟩)), (693, (.one ⟨true, false, (.gen rr2 (fun j_ => (.sl 694 j_ 0 cw2 4)))⟩)), (694, (.many (fun j_ => some ⟨true, true, (.ig (W.rl rr2 (cw2 * 4) j_) W.ck (fun p_ => (Z j_ p_)))⟩))), (709, (.one ⟨true, true, (.cells [(.int .i64 (↑rr2)), (.int .i64 (↑cw2)), (.sl 693 0 0 rr2 1), (.int .i64 ro2), (.int .i64 co2), (.bool hi2)])⟩))], 100016⟩ :=
  CodeOk.of_runs (fuel := 300) (v := ⟨[3, 4, 6, 5, 8], [1, 2, 3, 4, 21, 37, 693, 694, 709], [], 100016⟩) (hs := [(4, ⟨.auto, some (.c (.bool (true)))⟩), (9, ⟨.ask, none⟩), (10, ⟨.ask, some (.agg [(.int .i64 (A i)), (.int .i64 (B i)), (.sl 4 i 0 (nn i) 4)])⟩), (17, ⟨.auto, some (.c (.bool (false)))⟩), (22, ⟨.auto, some (.c (.bool (false)))⟩), (29, ⟨.auto, some (.c (.bool (false)))⟩), (34, ⟨.auto, some (.c (.bool (false)))⟩), (41, ⟨.auto, some (.c (.bool (false)))⟩), (49, ⟨.auto, some (.c (.int .i64 (↑cw2 - B i)))⟩), (51, ⟨.auto, some (.c (.bool (true)))⟩)])
    (cs := [EB (decide ((↑(nn i) : Int) > (↑cw2 : Int) - B i)) true,
      EI .i64 (IntKind.wrap IntKind.i64 ((↑cw2 : Int) - B i)) ((↑cw2 : Int) - B i),
      EB (decide (B i ≥ (↑cw2 : Int))) false,
      EB (decide (B i < 0)) false,
      EB (decide (A i ≥ (↑rr2 : Int))) false,
      EB (decide (A i < 0)) false,
      EB ((↑(nn i) : Int) == 0) false,
      ((.agg ((List.range 3).map (fun j_ => recGet 3 (fun j_ => [(.int .i64 (A j_)), (.int .i64 (B j_)), (.sl 4 j_ 0 (nn j_) 4)]) (i * 3 + j_)))) : V) = (.agg [(.int .i64 (A i)), (.int .i64 (B i)), (.sl 4 i 0 (nn i) 4)]),
      (i * (3 : Nat) + (3 : Nat) ≤ N * (3 : Nat)),
      ((0 : Int) ≤ (↑i : Int) ∧ (↑i : Int) < (↑m : Int)),
      EB (decide ((↑i : Int) < (↑m : Int))) true])
    mixed (by kernel_rfl) ⟨.mk (decide_eq_true h6), .mk (by simp only [addO_eq, mulE_eq, mulE_one, Int.toNat_natCast, IntKind.wrap_i64, mmin, mmax]; omega), .mk (decide_eq_false h5), .mk (decide_eq_false h4), .mk (decide_eq_false h3), .mk (decide_eq_false h2), .mk (beq_f h1), EV.recs rfl, (by omega), (by omega), .mk (decide_eq_true h0), trivial⟩
theorem LHp_xtffffff (rr cw : Nat) (X : Nat → Nat → Int) (ro co : Int) (rr2 cw2 : Nat) (ro2 co2 : Int) (hi2 : Bool) (A B : Nat → Int) (nn MM : Nat → Nat) (G : Nat → Nat → Int) (N m i : Nat) (Z : Nat → Nat → Int)
    (hrr : 1 ≤ rr ∧ rr ≤ 60)
    (hcw : 1 ≤ cw ∧ cw ≤ 120)
    (hro : 0 ≤ ro ∧ ro < rr)
    (hco : 0 ≤ co ∧ co < cw)
    (hX : ∀ j, j < rr → W.okRow (X j) cw)
    (hrr2 : 1 ≤ rr2 ∧ rr2 ≤ 60)
    (hcw2 : 1 ≤ cw2 ∧ cw2 ≤ 120)
    (hro2 : 0 ≤ ro2 ∧ ro2 < rr2)
    (hco2 : 0 ≤ co2 ∧ co2 < cw2)
    (hm : m ≤ N)
    (hms : m ≤ 1048576)
    (hnM : ∀ j, nn j ≤ MM j)
    (hMs : ∀ j, MM j ≤ 1048576)
    (hA : ∀ j, -9223372036854775808 ≤ A j ∧ A j < 9223372036854775808)
    (hB : ∀ j, -9223372036854775808 ≤ B j ∧ B j < 9223372036854775808)
    (hil : i ≤ m)
    (hD : i < m → ¬ ∀ k, k < nn i → W.okAt (G i) k = true)
    (h0 : ((↑i : Int) < (↑m : Int)))
    (h1 : (¬(↑(nn i) : Int) = (0 : Int)))
    (h2 : (¬A i < (0 : Int)))
    (h3 : (¬A i ≥ (↑rr2 : Int)))
    (h4 : (¬B i < (0 : Int)))
    (h5 : (¬B i ≥ (↑cw2 : Int)))
    (h6 : (¬(↑(nn i) : Int) > (↑cw2 : Int) - B i)) :
    CodeOk Try.prog 174 100000 (kAt (kOf Try.prog Try.f16) [true, true, true, true, true, true, true, false, true, false, false]) (LHpI rr cw X rr2 cw2 ro2 co2 hi2 A B nn MM G N m i Z) .ret ⟨[(4, (.c (.ptr 37 0 0))), (5, (.c (.int .i64 1)))], [(37, (.one ⟨true, true, (.cells [(.int .i64 0), (.int .i64 0), .nils, (.int .i64 0), (.int .i64 0), (.bool (false))])⟩))], 100016⟩ :=
  CodeOk.of_runs (fuel := 300) (v := ⟨[4, 5], [1, 2, 3, 4, 21, 37, 693, 694, 709], [], 100016⟩) (hs := [(4, ⟨.auto, some (.c (.bool (true)))⟩), (9, ⟨.ask, none⟩), (10, ⟨.ask, some (.agg [(.int .i64 (A i)), (.int .i64 (B i)), (.sl 4 i 0 (nn i) 4)])⟩), (17, ⟨.auto, some (.c (.bool (false)))⟩), (22, ⟨.auto, some (.c (.bool (false)))⟩), (29, ⟨.auto, some (.c (.bool (false)))⟩), (34, ⟨.auto, some (.c (.bool (false)))⟩), (41, ⟨.auto, some (.c (.bool (false)))⟩), (49, ⟨.auto, some (.c (.int .i64 (↑cw2 - B i)))⟩), (51, ⟨.auto, some (.c (.bool (false)))⟩), (54, ⟨.sum ⟨[3, 4, 6, 8, 9, 5, 10], [1, 2, 3, 4, 21, 37, 693, 694, 709, 100176], [(100176, 190690)], 200016⟩ (.ret) ({ tm := [(4, V.c (C.ptr 37 0 0)), (5, V.c (C.int IntKind.i64 1))], me := [(37, Ent.one { own := true, ex := true, body := Body.cells [C.int IntKind.i64 0, C.int IntKind.i64 0, C.nils, C.int IntKind.i64 0, C.int IntKind.i64 0, C.bool false] })], nx := 200016 }), none⟩)])
    (cs := [CodeOk Try.prog 174 100848 (kAt (kOf Try.prog Try.f16) [true, true, true, true, true, true, true, false, true, false, false, true, false, false, true, true, true, false]) (LHiI rr cw X rr2 cw2 ro2 co2 hi2 A B nn MM G N m i 0 fun j_ p_ => Z j_ p_) (.ret) ({ tm := [(4, V.c (C.ptr 37 0 0)), (5, V.c (C.int IntKind.i64 1))], me := [(37, Ent.one { own := true, ex := true, body := Body.cells [C.int IntKind.i64 0, C.int IntKind.i64 0, C.nils, C.int IntKind.i64 0, C.int IntKind.i64 0, C.bool false] })], nx := 200016 }),
      EB (decide ((↑(nn i) : Int) > (↑cw2 : Int) - B i)) false,
      EI .i64 (IntKind.wrap IntKind.i64 ((↑cw2 : Int) - B i)) ((↑cw2 : Int) - B i),
      EB (decide (B i ≥ (↑cw2 : Int))) false,
      EB (decide (B i < 0)) false,
      EB (decide (A i ≥ (↑rr2 : Int))) false,
      EB (decide (A i < 0)) false,
      EB ((↑(nn i) : Int) == 0) false,
      ((.agg ((List.range 3).map (fun j_ => recGet 3 (fun j_ => [(.int .i64 (A j_)), (.int .i64 (B j_)), (.sl 4 j_ 0 (nn j_) 4)]) (i * 3 + j_)))) : V) = (.agg [(.int .i64 (A i)), (.int .i64 (B i)), (.sl 4 i 0 (nn i) 4)]),
      (i * (3 : Nat) + (3 : Nat) ≤ N * (3 : Nat)),
      ((0 : Int) ≤ (↑i : Int) ∧ (↑i : Int) < (↑m : Int)),
      EB (decide ((↑i : Int) < (↑m : Int))) true])
    mixed (by kernel_rfl) ⟨(CodeOk.mono (rai_bad rr cw X rr2 cw2 ro2 co2 hi2 A B nn MM G N m i (fun j_ p_ => Z j_ p_) (by omega) (by omega) (by omega) (by omega) (by omega) (by omega) (by omega) (by omega) (by omega) (by omega) (by omega) (by omega) (by omega) (by omega) (by omega) (by omega) (by exact hD (by omega))) (by decide)), .mk (decide_eq_false h6), .mk (by simp only [addO_eq, mulE_eq, mulE_one, Int.toNat_natCast, IntKind.wrap_i64, mmin, mmax]; omega), .mk (decide_eq_false h5), .mk (decide_eq_false h4), .mk (decide_eq_false h3), .mk (decide_eq_false h2), .mk (beq_f h1), EV.recs rfl, (by omega), (by omega), .mk (decide_eq_true h0), trivial⟩
end Go.Proofs.Ytohleiikedpmkaa.Vm

namespace Go.Proofs.Ytohleiikedpmkaa.W
theorem okRB_iff {g : Nat → Int} {n : Nat} : okRB g n = true ↔ ∀ k, k < n → okAt g k = true := by
  unfold okRB; rw [decide_eq_true_eq]; exact Iff.rfl
end Go.Proofs.Ytohleiikedpmkaa.W
namespace Go.Proofs.Ytohleiikedpmkaa.Vm
open Go Go.Proofs Go.Proofs.Ytohleiikedpmkaa
theorem rar_step (rr cw : Nat) (X : Nat → Nat → Int) (rr2 cw2 : Nat) (ro2 co2 : Int) (hi2 : Bool) (A B : Nat → Int) (nn MM : Nat → Nat) (G : Nat → Nat → Int) (N m : Nat) (i : Nat) (Z : Nat → Nat → Int)
    (hrr : 1 ≤ rr ∧ rr ≤ 60)
    (hcw : 1 ≤ cw ∧ cw ≤ 120)
    (hX : ∀ j, j < rr → W.okRow (X j) cw)
    (hrr2 : 1 ≤ rr2 ∧ rr2 ≤ 60)
    (hcw2 : 1 ≤ cw2 ∧ cw2 ≤ 120)
    (hro2 : 0 ≤ ro2 ∧ ro2 < rr2)
    (hco2 : 0 ≤ co2 ∧ co2 < cw2)
    (hm : m ≤ N)
    (hms : m ≤ 1048576)
    (hnM : ∀ j, nn j ≤ MM j)
    (hMs : ∀ j, MM j ≤ 1048576)
    (hA : ∀ j, -9223372036854775808 ≤ A j ∧ A j < 9223372036854775808)
    (hB : ∀ j, -9223372036854775808 ≤ B j ∧ B j < 9223372036854775808)
    (h0 : (i : Int) < (m : Int)) (hq : W.okRun rr2 cw2 (A i) (B i) (nn i) (G i)) :
    CodeOk Try.prog 174 100000 (kAt (kOf Try.prog Try.f16) [true, true, true, true, true, true, true, false, true, false, false]) (LHoI rr cw X rr2 cw2 ro2 co2 hi2 A B nn MM G N m i (W.apG A B nn G Z i)) .normal (LHoI rr cw X rr2 cw2 ro2 co2 hi2 A B nn MM G N m (i + 1) (W.apG A B nn G Z (i + 1))) := by
  have hro : (0 : Int) ≤ 0 ∧ (0 : Int) < rr := by omega
  have hco : (0 : Int) ≤ 0 ∧ (0 : Int) < cw := by omega
  obtain ⟨q1, q2, q3, q4, q5, q6, q7⟩ := hq
  exact LHo_rtffffff rr cw X 0 0 rr2 cw2 ro2 co2 hi2 A B nn MM G N m i (W.apG A B nn G Z i) hrr hcw hro hco hX hrr2 hcw2 hro2 hco2 hm hms hnM hMs hA hB (by omega) (fun _ => W.okRB_iff.1 q7) h0 (by omega) (by omega) (by omega) (by omega) (by omega) (by omega)
theorem rar_ok (rr cw : Nat) (X : Nat → Nat → Int) (rr2 cw2 : Nat) (ro2 co2 : Int) (hi2 : Bool) (A B : Nat → Int) (nn MM : Nat → Nat) (G : Nat → Nat → Int) (N m : Nat) (Z : Nat → Nat → Int)
    (hrr : 1 ≤ rr ∧ rr ≤ 60)
    (hcw : 1 ≤ cw ∧ cw ≤ 120)
    (hX : ∀ j, j < rr → W.okRow (X j) cw)
    (hrr2 : 1 ≤ rr2 ∧ rr2 ≤ 60)
    (hcw2 : 1 ≤ cw2 ∧ cw2 ≤ 120)
    (hro2 : 0 ≤ ro2 ∧ ro2 < rr2)
    (hco2 : 0 ≤ co2 ∧ co2 < cw2)
    (hm : m ≤ N)
    (hms : m ≤ 1048576)
    (hnM : ∀ j, nn j ≤ MM j)
    (hMs : ∀ j, MM j ≤ 1048576)
    (hA : ∀ j, -9223372036854775808 ≤ A j ∧ A j < 9223372036854775808)
    (hB : ∀ j, -9223372036854775808 ≤ B j ∧ B j < 9223372036854775808)
    (hE : ∀ i, i < m → W.okRun rr2 cw2 (A i) (B i) (nn i) (G i)) :
    CodeOk Try.prog 174 100000 (kAt (kOf Try.prog Try.f16) [true, true, true, true, true, true, true, false, true, false]) (LHoI rr cw X rr2 cw2 ro2 co2 hi2 A B nn MM G N m 0 Z) (.exit 2) (LHoI rr cw X rr2 cw2 ro2 co2 hi2 A B nn MM G N m m (W.apG A B nn G Z m)) := by
  have hro : (0 : Int) ≤ 0 ∧ (0 : Int) < rr := by omega
  have hco : (0 : Int) ≤ 0 ∧ (0 : Int) < cw := by omega
  refine LHo_by (fun i => LHoI rr cw X rr2 cw2 ro2 co2 hi2 A B nn MM G N m i (W.apG A B nn G Z i)) (fun i => i ≤ m) (fun i => m - i) (by simp) ?_ 0 (Nat.zero_le _)
  intro i hi
  by_cases h0 : (i : Int) < (m : Int)
  · exact .inl ⟨i + 1, by omega, by omega, rar_step rr cw X rr2 cw2 ro2 co2 hi2 A B nn MM G N m i Z hrr hcw hX hrr2 hcw2 hro2 hco2 hm hms hnM hMs hA hB h0 (hE i (by omega))⟩
  · have e : i = m := by omega
    have x := LHo_xf rr cw X 0 0 rr2 cw2 ro2 co2 hi2 A B nn MM G N m i (W.apG A B nn G Z i) hrr hcw hro hco hX hrr2 hcw2 hro2 hco2 hm hms hnM hMs hA hB hi (fun h => by omega) h0
    refine .inr ?_
    rw [e] at x ⊢
    exact x
theorem rar_bad (rr cw : Nat) (X : Nat → Nat → Int) (rr2 cw2 : Nat) (ro2 co2 : Int) (hi2 : Bool) (A B : Nat → Int) (nn MM : Nat → Nat) (G : Nat → Nat → Int) (N m : Nat) (Z : Nat → Nat → Int)
    (hrr : 1 ≤ rr ∧ rr ≤ 60)
    (hcw : 1 ≤ cw ∧ cw ≤ 120)
    (hX : ∀ j, j < rr → W.okRow (X j) cw)
    (hrr2 : 1 ≤ rr2 ∧ rr2 ≤ 60)
    (hcw2 : 1 ≤ cw2 ∧ cw2 ≤ 120)
    (hro2 : 0 ≤ ro2 ∧ ro2 < rr2)
    (hco2 : 0 ≤ co2 ∧ co2 < cw2)
    (hm : m ≤ N)
    (hms : m ≤ 1048576)
    (hnM : ∀ j, nn j ≤ MM j)
    (hMs : ∀ j, MM j ≤ 1048576)
    (hA : ∀ j, -9223372036854775808 ≤ A j ∧ A j < 9223372036854775808)
    (hB : ∀ j, -9223372036854775808 ≤ B j ∧ B j < 9223372036854775808)
    (hD : ¬ ∀ i, i < m → W.okRun rr2 cw2 (A i) (B i) (nn i) (G i)) :
    CodeOk Try.prog 174 100000 (kAt (kOf Try.prog Try.f16) [true, true, true, true, true, true, true, false, true, false]) (LHoI rr cw X rr2 cw2 ro2 co2 hi2 A B nn MM G N m 0 Z) .ret ⟨[(4, (.c (.ptr 37 0 0))), (5, (.c (.int .i64 1)))], [(37, (.one ⟨true, true, (.cells [(.int .i64 0), (.int .i64 0), .nils, (.int .i64 0), (.int .i64 0), (.bool (false))])⟩))], 100016⟩ := by
  have hro : (0 : Int) ≤ 0 ∧ (0 : Int) < rr := by omega
  have hco : (0 : Int) ≤ 0 ∧ (0 : Int) < cw := by omega
  refine LHo_by (fun i => LHoI rr cw X rr2 cw2 ro2 co2 hi2 A B nn MM G N m i (W.apG A B nn G Z i)) (fun i => i ≤ m ∧ ∀ k, k < i → W.okRun rr2 cw2 (A k) (B k) (nn k) (G k)) (fun i => m - i) (by simp) ?_ 0 ⟨Nat.zero_le _, fun k hk => by omega⟩
  intro i ⟨hi, he⟩
  by_cases h0 : (i : Int) < (m : Int)
  · skip
    by_cases he2 : ∀ k, k < nn i → W.okAt (G i) k = true
    · skip
      by_cases g0 : (nn i : Int) = 0
      · exact .inr ((LHo_xtt rr cw X 0 0 rr2 cw2 ro2 co2 hi2 A B nn MM G N m i (W.apG A B nn G Z i) hrr hcw hro hco hX hrr2 hcw2 hro2 hco2 hm hms hnM hMs hA hB hi (fun _ => he2) h0 g0).move (Move.less (by decide) (by decide) (by decide) rfl ⟨rfl, rfl, trivial⟩ ⟨SameB.refl rfl, trivial⟩))
      by_cases g1 : A i < 0
      · exact .inr ((LHo_xtft rr cw X 0 0 rr2 cw2 ro2 co2 hi2 A B nn MM G N m i (W.apG A B nn G Z i) hrr hcw hro hco hX hrr2 hcw2 hro2 hco2 hm hms hnM hMs hA hB hi (fun _ => he2) h0 g0 g1).move (Move.less (by decide) (by decide) (by decide) rfl ⟨rfl, rfl, trivial⟩ ⟨SameB.refl rfl, trivial⟩))
      by_cases g2 : A i ≥ (rr2 : Int)
      · exact .inr ((LHo_xtfft rr cw X 0 0 rr2 cw2 ro2 co2 hi2 A B nn MM G N m i (W.apG A B nn G Z i) hrr hcw hro hco hX hrr2 hcw2 hro2 hco2 hm hms hnM hMs hA hB hi (fun _ => he2) h0 g0 g1 g2).move (Move.less (by decide) (by decide) (by decide) rfl ⟨rfl, rfl, trivial⟩ ⟨SameB.refl rfl, trivial⟩))
      by_cases g3 : B i < 0
      · exact .inr ((LHo_xtffft rr cw X 0 0 rr2 cw2 ro2 co2 hi2 A B nn MM G N m i (W.apG A B nn G Z i) hrr hcw hro hco hX hrr2 hcw2 hro2 hco2 hm hms hnM hMs hA hB hi (fun _ => he2) h0 g0 g1 g2 g3).move (Move.less (by decide) (by decide) (by decide) rfl ⟨rfl, rfl, trivial⟩ ⟨SameB.refl rfl, trivial⟩))
      by_cases g4 : B i ≥ (cw2 : Int)
      · exact .inr ((LHo_xtfffft rr cw X 0 0 rr2 cw2 ro2 co2 hi2 A B nn MM G N m i (W.apG A B nn G Z i) hrr hcw hro hco hX hrr2 hcw2 hro2 hco2 hm hms hnM hMs hA hB hi (fun _ => he2) h0 g0 g1 g2 g3 g4).move (Move.less (by decide) (by decide) (by decide) rfl ⟨rfl, rfl, trivial⟩ ⟨SameB.refl rfl, trivial⟩))
      by_cases g5 : (nn i : Int) > (cw2 : Int) - B i
      · exact .inr ((LHo_xtffffft rr cw X 0 0 rr2 cw2 ro2 co2 hi2 A B nn MM G N m i (W.apG A B nn G Z i) hrr hcw hro hco hX hrr2 hcw2 hro2 hco2 hm hms hnM hMs hA hB hi (fun _ => he2) h0 g0 g1 g2 g3 g4 g5).move (Move.less (by decide) (by decide) (by decide) rfl ⟨rfl, rfl, trivial⟩ ⟨SameB.refl rfl, trivial⟩))
      exact .inl ⟨i + 1, ⟨by omega, fun k hk => by
          by_cases e : k = i
          · rw [e]; exact ⟨by omega, by omega, by omega, by omega, by omega, by omega, W.okRB_iff.2 he2⟩
          · exact he k (by omega)⟩, by omega, rar_step rr cw X rr2 cw2 ro2 co2 hi2 A B nn MM G N m i Z hrr hcw hX hrr2 hcw2 hro2 hco2 hm hms hnM hMs hA hB h0 ⟨by omega, by omega, by omega, by omega, by omega, by omega, W.okRB_iff.2 he2⟩⟩
    · skip
      by_cases g0 : (nn i : Int) = 0
      · exact .inr ((LHp_xtt rr cw X 0 0 rr2 cw2 ro2 co2 hi2 A B nn MM G N m i (W.apG A B nn G Z i) hrr hcw hro hco hX hrr2 hcw2 hro2 hco2 hm hms hnM hMs hA hB hi (fun _ => he2) h0 g0).move (Move.less (by decide) (by decide) (by decide) rfl ⟨rfl, rfl, trivial⟩ ⟨SameB.refl rfl, trivial⟩))
      by_cases g1 : A i < 0
      · exact .inr ((LHp_xtft rr cw X 0 0 rr2 cw2 ro2 co2 hi2 A B nn MM G N m i (W.apG A B nn G Z i) hrr hcw hro hco hX hrr2 hcw2 hro2 hco2 hm hms hnM hMs hA hB hi (fun _ => he2) h0 g0 g1).move (Move.less (by decide) (by decide) (by decide) rfl ⟨rfl, rfl, trivial⟩ ⟨SameB.refl rfl, trivial⟩))
      by_cases g2 : A i ≥ (rr2 : Int)
      · exact .inr ((LHp_xtfft rr cw X 0 0 rr2 cw2 ro2 co2 hi2 A B nn MM G N m i (W.apG A B nn G Z i) hrr hcw hro hco hX hrr2 hcw2 hro2 hco2 hm hms hnM hMs hA hB hi (fun _ => he2) h0 g0 g1 g2).move (Move.less (by decide) (by decide) (by decide) rfl ⟨rfl, rfl, trivial⟩ ⟨SameB.refl rfl, trivial⟩))
      by_cases g3 : B i < 0
      · exact .inr ((LHp_xtffft rr cw X 0 0 rr2 cw2 ro2 co2 hi2 A B nn MM G N m i (W.apG A B nn G Z i) hrr hcw hro hco hX hrr2 hcw2 hro2 hco2 hm hms hnM hMs hA hB hi (fun _ => he2) h0 g0 g1 g2 g3).move (Move.less (by decide) (by decide) (by decide) rfl ⟨rfl, rfl, trivial⟩ ⟨SameB.refl rfl, trivial⟩))
      by_cases g4 : B i ≥ (cw2 : Int)
      · exact .inr ((LHp_xtfffft rr cw X 0 0 rr2 cw2 ro2 co2 hi2 A B nn MM G N m i (W.apG A B nn G Z i) hrr hcw hro hco hX hrr2 hcw2 hro2 hco2 hm hms hnM hMs hA hB hi (fun _ => he2) h0 g0 g1 g2 g3 g4).move (Move.less (by decide) (by decide) (by decide) rfl ⟨rfl, rfl, trivial⟩ ⟨SameB.refl rfl, trivial⟩))
      by_cases g5 : (nn i : Int) > (cw2 : Int) - B i
      · exact .inr ((LHp_xtffffft rr cw X 0 0 rr2 cw2 ro2 co2 hi2 A B nn MM G N m i (W.apG A B nn G Z i) hrr hcw hro hco hX hrr2 hcw2 hro2 hco2 hm hms hnM hMs hA hB hi (fun _ => he2) h0 g0 g1 g2 g3 g4 g5).move (Move.less (by decide) (by decide) (by decide) rfl ⟨rfl, rfl, trivial⟩ ⟨SameB.refl rfl, trivial⟩))
      exact .inr ((LHp_xtffffff rr cw X 0 0 rr2 cw2 ro2 co2 hi2 A B nn MM G N m i (W.apG A B nn G Z i) hrr hcw hro hco hX hrr2 hcw2 hro2 hco2 hm hms hnM hMs hA hB hi (fun _ => he2) h0 g0 g1 g2 g3 g4 g5).move (Move.less (by decide) (by decide) (by decide) rfl ⟨rfl, rfl, trivial⟩ ⟨SameB.refl rfl, trivial⟩))
  · have e : i = m := by omega
    rw [e] at he
    exact absurd he hD
end Go.Proofs.Ytohleiikedpmkaa.Vm

namespace Go.Proofs.Ytohleiikedpmkaa.Vm
open Go Go.Proofs Go.Proofs.Ytohleiikedpmkaa
set_option maxRecDepth 100000
noncomputable def LHaI (rr cw : Nat) (X : Nat → Nat → Int) (ro co : Int) (hi : Bool) (ro2 co2 : Int) (hi2 : Bool) (A B : Nat → Int) (nn MM : Nat → Nat) (G : Nat → Nat → Int) (N m i : Nat) (Z : Nat → Nat → Int) : S0 :=
  ⟨[(2, (.c (.ptr 5 0 0))), (3, (.c (.ptr 21 0 0))), (4, (.c (.ptr 37 0 0))), (5, (.c (.int .i64 0))), (6, (.c (.ptr 709 0 0))), (7, (.c (.int .i64 (i : Int))))], [(1, (.one ⟨false, false, (.gen rr (fun j_ => (.sl 2 j_ 0 cw 4)))⟩)), (2, (.many (fun j_ => some ⟨false, false, (.ig (W.rl rr (cw * 4) j_) W.ck (fun p_ => (X j_ p_)))⟩))), (3, (.one ⟨false, false, (.row (N * 3) 3 (fun j_ => [(.int .i64 (A j_)), (.int .i64 (B j_)), (.sl 4 j_ 0 (nn j_) 4)]))⟩)), (4, (.many (fun j_ => some ⟨false, false, (.ig (MM j_ * 4) W.ck (fun p_ => (G j_ p_)))⟩))), (5, (.one ⟨true, true, (.cells [(.int .i64 (↑rr)), (.int .i64 (↑cw)), (.sl 1 0 0 rr 1), (.int .i64 ro), (.int .i64 co), (.bool hi)])⟩)), (21, (.one ⟨true, true, (.cells [(.int .i64 (↑rr)), (.int .i64 (↑cw)), (.int .i64 ro2), (.int .i64 co2), (.bool hi2), (.sl 3 0 0 m 3)])⟩)), (37, (.one ⟨true, true, (.cells [(.int .i64 0), (.int .i64 0), .nils, (.int .i64 0), (.int .i64 0), (.bool (false))])⟩)), (693, (.one ⟨true, false, (.gen rr (fun j_ => (.sl 694 j_ 0 cw 4)))⟩)), (694, (.many (fun j_ => some ⟨true, true, .ig (W.rl rr (cw * 4) j_) W.ck (Z j_)⟩))), (709, (.one ⟨true, true, (.cells [(.int .i64 (↑rr)), (.int .i64 (↑cw)), (.sl 693 0 0 rr 1), (.int .i64 0), (.int .i64 0), (.bool (false))])⟩))], 965⟩
theorem LHa_by {α : Type} (I : α → S0) (Inv : α → Prop) (μ : α → Nat) {ex : Ex} {s' : S0} (hex : ex ≠ .normal)
    (step : ∀ x, Inv x → (∃ y, Inv y ∧ μ y < μ x ∧ CodeOk Try.prog 174 949 (kAt (kOf Try.prog Try.f16) [true, true, true, false, true, false, true, false, false]) (I x) .normal (I y)) ∨ CodeOk Try.prog 174 949 (kAt (kOf Try.prog Try.f16) [true, true, true, false, true, false, true, false, false]) (I x) ex s') (x : α) (hx : Inv x) :
    CodeOk Try.prog 174 949 (kAt (kOf Try.prog Try.f16) [true, true, true, false, true, false, true, false]) (I x) ex s' := by
  have hk : (kAt (kOf Try.prog Try.f16) [true, true, true, false, true, false, true, false]) = .loop (kAt (kOf Try.prog Try.f16) [true, true, true, false, true, false, true, false, false]) := by kernel_rfl
  rw [hk]
  exact CodeOk.loop I Inv μ hex step x hx
noncomputable def LHa0 (rr cw : Nat) (X : Nat → Nat → Int) (ro co : Int) (hi : Bool) (ro2 co2 : Int) (hi2 : Bool) (A B : Nat → Int) (nn MM : Nat → Nat) (G : Nat → Nat → Int) (N m : Nat) : S0 :=
  ⟨[(2, (.c (.ptr 5 0 0))), (3, (.c (.ptr 21 0 0))), (4, (.c (.ptr 37 0 0))), (5, (.c (.int .i64 0))), (6, (.c (.ptr 709 0 0))), (7, (.c (.int .i64 0)))], [(1, (.one ⟨false, false, (.gen rr (fun j_ => (.sl 2 j_ 0 cw 4)))⟩)), (2, (.many (fun j_ => some ⟨false, false, (.ig (W.rl rr (cw * 4) j_) W.ck (fun p_ => (X j_ p_)))⟩))), (3, (.one ⟨false, false, (.row (N * 3) 3 (fun j_ => [(.int .i64 (A j_)), (.int .i64 (B j_)), (.sl 4 j_ 0 (nn j_) 4)]))⟩)), (4, (.many (fun j_ => some ⟨false, false, (.ig (MM j_ * 4) W.ck (fun p_ => (G j_ p_)))⟩))), (5, (.one ⟨true, true, (.cells [(.int .i64 (↑rr)), (.int .i64 (↑cw)), (.sl 1 0 0 rr 1), (.int .i64 ro), (.int .i64 co), (.bool hi)])⟩)), (21, (.one ⟨true, true, (.cells [(.int .i64 (↑rr)), (.int .i64 (↑cw)), (.int .i64 ro2), (.int .i64 co2), (.bool hi2), (.sl 3 0 0 m 3)])⟩)), (37, (.one ⟨true, true, (.cells [(.int .i64 0), (.int .i64 0), .nils, (.int .i64 0), (.int .i64 0), (.bool (false))])⟩)), (693, (.one ⟨true, false, (.gen rr (fun j_ => (.sl 694 j_ 0 cw 4)))⟩)), (694, (.many (fun j_ => some ⟨true, true, (.ig (W.rl rr (cw * 4) j_) W.ck W.blank)⟩))), (709, (.one ⟨true, true, (.cells [(.int .i64 (↑rr)), (.int .i64 (↑cw)), (.sl 693 0 0 rr 1), (.int .i64 0), (.int .i64 0), (.bool (false))])⟩))], 949⟩
theorem LHa_rt (rr cw : Nat) (X : Nat → Nat → Int) (ro co : Int) (hi : Bool) (ro2 co2 : Int) (hi2 : Bool) (A B : Nat → Int) (nn MM : Nat → Nat) (G : Nat → Nat → Int) (N m i : Nat) (Z : Nat → Nat → Int)
    (hrr : 1 ≤ rr ∧ rr ≤ 60)
    (hcw : 1 ≤ cw ∧ cw ≤ 120)
    (hro : 0 ≤ ro ∧ ro < rr)
    (hco : 0 ≤ co ∧ co < cw)
    (hX : ∀ j, j < rr → W.okRow (X j) cw)
    (hro2 : 0 ≤ ro2 ∧ ro2 < rr)
    (hco2 : 0 ≤ co2 ∧ co2 < cw)
    (hm : m ≤ N)
    (hms : m ≤ 1048576)
    (hnM : ∀ j, nn j ≤ MM j)
    (hMs : ∀ j, MM j ≤ 1048576)
    (hA : ∀ j, -9223372036854775808 ≤ A j ∧ A j < 9223372036854775808)
    (hB : ∀ j, -9223372036854775808 ≤ B j ∧ B j < 9223372036854775808)
    (hil : i ≤ rr)
    (h0 : ((↑i : Int) < (↑rr : Int))) :
    CodeOk Try.prog 174 949 (kAt (kOf Try.prog Try.f16) [true, true, true, false, true, false, true, false, false]) (LHaI rr cw X ro co hi ro2 co2 hi2 A B nn MM G N m i Z) .normal ⟨[(2, (.c (.ptr 5 0 0))), (3, (.c (.ptr 21 0 0))), (4, (.c (.ptr 37 0 0))), (5, (.c (.int .i64 0))), (6, (.c (.ptr 709 0 0))), (7, (.c (.int .i64 (↑(i + 1)))))], [(1, (.one ⟨false, false, (.gen rr (fun j_ => (.sl 2 j_ 0 cw 4)))⟩)), (2, (.many (fun j_ => some ⟨false, false, (.ig (W.rl rr (cw * 4) j_) W.ck (fun p_ => (X j_ p_)))⟩))), (3, (.one ⟨false, false, (.row (N * 3) 3 (fun j_ => [(.int .i64 (A j_)), (.int .i64 (B j_)), (.sl 4 j_ 0 (nn j_) 4)]))⟩)), (4, (.many (fun j_ => some ⟨false, false, (.ig (MM j_ * 4) W.ck (fun p_ => (G j_ p_)))⟩))), (5, (.one ⟨true, true, (.cells [(.int .i64 (↑rr)), (.int .i64 (↑cw)), (.sl 1 0 0 rr 1), (.int .i64 ro), (.int .i64 co), (.bool hi)])⟩)), (21, (.one ⟨true, true, (.cells [(.int .i64 (↑rr)), (.int .i64 (↑cw)), (.int .i64 ro2), (.int .i64 co2), (.bool hi2), (.sl 3 0 0 m 3)])⟩)), (37, (.one ⟨true, true, (.cells [(.int .i64 0), (.int .i64 0), .nils, (.int .i64 0), (.int .i64 0), (.bool (false))])⟩)), (693, (.one ⟨true, false, (.gen rr (fun j_ => (.sl 694 j_ 0 cw 4)))⟩)), (694, (.many (renF [] 949 (updF (fun j_ => some ⟨true, true, (.ig (W.rl rr (cw * 4) j_) W.ck (fun p_ => (Z j_ p_)))⟩) i ⟨true, true, (.ig (W.rl rr (cw * 4) i) (fun p_ => (bif inR 0 (min cw cw * 4) p_ then W.ck (p_ - 0 + 0 + 0) else W.ck p_)) (fun p_ => (bif inR 0 (min cw cw * 4) p_ then X i (p_ - 0 + 0 + 0) else Z i p_)))⟩)))), (709, (.one ⟨true, true, (.cells [(.int .i64 (↑rr)), (.int .i64 (↑cw)), (.sl 693 0 0 rr 1), (.int .i64 0), (.int .i64 0), (.bool (false))])⟩))], 965⟩ :=
  CodeOk.of_runs (fuel := 300) (v := ⟨[2, 3, 4, 5, 6, 7], [1, 2, 3, 4, 5, 21, 37, 693, 694, 709], [], 965⟩) (hs := [(3, ⟨.auto, some (.c (.bool (true)))⟩), (8, ⟨.ask, none⟩), (9, ⟨.ask, none⟩), (13, ⟨.ask, none⟩), (14, ⟨.ask, none⟩), (15, ⟨.ask, some (.c (.int .i64 (↑cw)))⟩), (17, ⟨.auto, some (.c (.int .i64 (↑(i + 1))))⟩)])
    (cs := [EI .i64 (IntKind.wrap IntKind.i64 ((↑i : Int) + 1)) ((↑(i + 1) : Int)),
      EI .i64 ((↑(min cw cw) : Int)) ((↑cw : Int)),
      ((0 : Nat) + cw * (4 : Nat) ≤ W.rl rr (cw * (4 : Nat)) i ∧ (0 : Nat) + cw * (4 : Nat) ≤ W.rl rr (cw * (4 : Nat)) i),
      (i + (1 : Nat) ≤ rr),
      ((0 : Int) ≤ (↑i : Int) ∧ (↑i : Int) < (↑rr : Int)),
      (i + (1 : Nat) ≤ rr),
      ((0 : Int) ≤ (↑i : Int) ∧ (↑i : Int) < (↑rr : Int)),
      EB (decide ((↑i : Int) < (↑rr : Int))) true])
    mixed (by kernel_rfl) ⟨.mk (by simp only [addO_eq, mulE_eq, mulE_one, Int.toNat_natCast, IntKind.wrap_i64, mmin, mmax]; omega), .mk (by omega), (by rw [rl_lt (by omega)]; omega), (by omega), (by omega), (by omega), (by omega), .mk (decide_eq_true h0), trivial⟩
theorem LHa_xf (rr cw : Nat) (X : Nat → Nat → Int) (ro co : Int) (hi : Bool) (ro2 co2 : Int) (hi2 : Bool) (A B : Nat → Int) (nn MM : Nat → Nat) (G : Nat → Nat → Int) (N m i : Nat) (Z : Nat → Nat → Int)
    (hrr : 1 ≤ rr ∧ rr ≤ 60)
    (hcw : 1 ≤ cw ∧ cw ≤ 120)
    (hro : 0 ≤ ro ∧ ro < rr)
    (hco : 0 ≤ co ∧ co < cw)
    (hX : ∀ j, j < rr → W.okRow (X j) cw)
    (hro2 : 0 ≤ ro2 ∧ ro2 < rr)
    (hco2 : 0 ≤ co2 ∧ co2 < cw)
    (hm : m ≤ N)
    (hms : m ≤ 1048576)
    (hnM : ∀ j, nn j ≤ MM j)
    (hMs : ∀ j, MM j ≤ 1048576)
    (hA : ∀ j, -9223372036854775808 ≤ A j ∧ A j < 9223372036854775808)
    (hB : ∀ j, -9223372036854775808 ≤ B j ∧ B j < 9223372036854775808)
    (hil : i ≤ rr)
    (h0 : (¬(↑i : Int) < (↑rr : Int))) :
    CodeOk Try.prog 174 949 (kAt (kOf Try.prog Try.f16) [true, true, true, false, true, false, true, false, false]) (LHaI rr cw X ro co hi ro2 co2 hi2 A B nn MM G N m i Z) (.exit 0) (LHaI rr cw X ro co hi ro2 co2 hi2 A B nn MM G N m i (fun j_ p_ => Z j_ p_)) :=
  CodeOk.of_runs (fuel := 300) (v := ⟨[2, 3, 4, 5, 6, 7], [1, 2, 3, 4, 5, 21, 37, 693, 694, 709], [], 965⟩) (hs := [(3, ⟨.auto, some (.c (.bool (false)))⟩)])
    (cs := [EB (decide ((↑i : Int) < (↑rr : Int))) false])
    mixed (by kernel_rfl) ⟨.mk (decide_eq_false h0), trivial⟩
end Go.Proofs.Ytohleiikedpmkaa.Vm

namespace Go.Proofs.Ytohleiikedpmkaa.W
open Go Go.Proofs.Ytohleiikedpmkaa.Vm
def cpZ (X : Nat → Nat → Int) (i : Nat) : Nat → Nat → Int := fun j p => bif Nat.blt j i then X j p else blank p
end Go.Proofs.Ytohleiikedpmkaa.W
namespace Go.Proofs.Ytohleiikedpmkaa.Vm
open Go Go.Proofs Go.Proofs.Ytohleiikedpmkaa
theorem rac_ok (rr cw : Nat) (X : Nat → Nat → Int) (ro co : Int) (hi : Bool) (ro2 co2 : Int) (hi2 : Bool) (A B : Nat → Int) (nn MM : Nat → Nat) (G : Nat → Nat → Int) (N m : Nat)
    (hrr : 1 ≤ rr ∧ rr ≤ 60)
    (hcw : 1 ≤ cw ∧ cw ≤ 120)
    (hro : 0 ≤ ro ∧ ro < rr)
    (hco : 0 ≤ co ∧ co < cw)
    (hX : ∀ j, j < rr → W.okRow (X j) cw)
    (hro2 : 0 ≤ ro2 ∧ ro2 < rr)
    (hco2 : 0 ≤ co2 ∧ co2 < cw)
    (hm : m ≤ N)
    (hms : m ≤ 1048576)
    (hnM : ∀ j, nn j ≤ MM j)
    (hMs : ∀ j, MM j ≤ 1048576)
    (hA : ∀ j, -9223372036854775808 ≤ A j ∧ A j < 9223372036854775808)
    (hB : ∀ j, -9223372036854775808 ≤ B j ∧ B j < 9223372036854775808)
    : CodeOk Try.prog 174 949 (kAt (kOf Try.prog Try.f16) [true, true, true, false, true, false, true, false]) (LHa0 rr cw X ro co hi ro2 co2 hi2 A B nn MM G N m) (.exit 0) (LHaI rr cw X ro co hi ro2 co2 hi2 A B nn MM G N m rr X) := by
  have h : CodeOk Try.prog 174 949 (kAt (kOf Try.prog Try.f16) [true, true, true, false, true, false, true, false]) (LHaI rr cw X ro co hi ro2 co2 hi2 A B nn MM G N m 0 (W.cpZ X 0)) (.exit 0) (LHaI rr cw X ro co hi ro2 co2 hi2 A B nn MM G N m rr X) := by
    refine LHa_by (fun i => LHaI rr cw X ro co hi ro2 co2 hi2 A B nn MM G N m i (W.cpZ X i)) (fun i => i ≤ rr) (fun i => rr - i) (by simp) ?_ 0 (Nat.zero_le _)
    intro i hi_
    by_cases h0 : (i : Int) < (rr : Int)
    · refine .inl ⟨i + 1, by omega, by omega, (LHa_rt rr cw X ro co hi ro2 co2 hi2 A B nn MM G N m i (W.cpZ X i) hrr hcw hro hco hX hro2 hco2 hm hms hnM hMs hA hB hi_ h0).move (Move.same (by decide) (by decide) (by decide) rfl ?_)⟩
      refine ⟨SameB.refl rfl, fun j k e => SameB.refl e, SameB.refl rfl, fun j k e => SameB.refl e, SameB.refl rfl, SameB.refl rfl, SameB.refl rfl, SameB.refl rfl, ?_, SameB.refl rfl, trivial⟩
      intro j k e
      injection e with e
      subst e
      by_cases hj : j = i
      · subst hj
        refine SameB.ig (((renF_upd _).trans (by rw [Nat.beq_refl]; rfl))) (fun h => h) (fun p hp => ?_) (fun p hp => ?_)
        · cases inR 0 (min cw cw * 4) p <;> rfl
        · have hp : p < cw * 4 := by
            have hp : p < W.rl rr (cw * 4) j := hp
            rw [rl_lt (by omega)] at hp; exact hp
          show _ = (bif Nat.blt j (j + 1) then X j p else W.blank p)
          rw [bltT (by omega), Nat.min_self, inR_iff.2 (show 0 ≤ p ∧ p < 0 + cw * 4 by omega)]
          rfl
      · refine SameB.ig (((renF_upd _).trans (by rw [beqF hj]; rfl))) (fun h => h) (fun p _ => rfl) (fun p _ => ?_)
        show W.cpZ X i j p = W.cpZ X (i + 1) j p
        unfold W.cpZ
        by_cases hlt : j < i
        · rw [bltT hlt, bltT (by omega)]
        · rw [bltF hlt, bltF (by omega)]
    · have e : i = rr := by omega
      have x := LHa_xf rr cw X ro co hi ro2 co2 hi2 A B nn MM G N m i (W.cpZ X i) hrr hcw hro hco hX hro2 hco2 hm hms hnM hMs hA hB hi_ h0
      refine .inr ?_
      rw [e] at x ⊢
      refine x.move (Move.same (by decide) (by decide) (by decide) rfl ?_)
      refine ⟨SameB.refl rfl, fun j k e => SameB.refl e, SameB.refl rfl, fun j k e => SameB.refl e, SameB.refl rfl, SameB.refl rfl, SameB.refl rfl, SameB.refl rfl, ?_, SameB.refl rfl, trivial⟩
      intro j k e
      injection e with e
      subst e
      refine SameB.ig rfl (fun h => h) (fun p _ => rfl) (fun p hp => ?_)
      have hp : p < W.rl rr (cw * 4) j := hp
      show W.cpZ X rr j p = X j p
      unfold W.cpZ
      by_cases hlt : j < rr
      · rw [bltT hlt]; rfl
      · rw [rl_ge (by omega)] at hp; omega
  refine CodeOk.enter (Move.same (by decide) (by decide) (by decide) rfl ?_) h
  exact ⟨SameB.refl rfl, fun j k e => SameB.refl e, SameB.refl rfl, fun j k e => SameB.refl e, SameB.refl rfl, SameB.refl rfl, SameB.refl rfl, SameB.refl rfl, fun j k e => SameB.refl e, SameB.refl rfl, trivial⟩
end Go.Proofs.Ytohleiikedpmkaa.Vm

namespace Go.Proofs.Ytohleiikedpmkaa.Vm
open Go Go.Proofs Go.Proofs.Ytohleiikedpmkaa
set_option maxRecDepth 100000
theorem ras_g (rr cw : Nat) (X : Nat → Nat → Int) (ro co : Int) (hi : Bool) (ro2 co2 : Int) (hi2 : Bool) (A B : Nat → Int) (nn MM : Nat → Nat) (G : Nat → Nat → Int) (N m : Nat)
    (hrr : 1 ≤ rr ∧ rr ≤ 60)
    (hcw : 1 ≤ cw ∧ cw ≤ 120)
    (hro : 0 ≤ ro ∧ ro < rr)
    (hco : 0 ≤ co ∧ co < cw)
    (hX : ∀ j, j < rr → W.okRow (X j) cw)
    (hro2 : 0 ≤ ro2 ∧ ro2 < rr)
    (hco2 : 0 ≤ co2 ∧ co2 < cw)
    (hm : m ≤ N)
    (hms : m ≤ 1048576)
    (hnM : ∀ j, nn j ≤ MM j)
    (hMs : ∀ j, MM j ≤ 1048576)
    (hA : ∀ j, -9223372036854775808 ≤ A j ∧ A j < 9223372036854775808)
    (hB : ∀ j, -9223372036854775808 ≤ B j ∧ B j < 9223372036854775808)
    (hE : ∀ i, i < m → W.okRun rr cw (A i) (B i) (nn i) (G i)) :
    Contract0 Try.prog 16 [(.agg [(.int .i64 (↑rr)), (.int .i64 (↑cw)), (.sl 1 0 0 rr 1), (.int .i64 ro), (.int .i64 co), (.bool hi)]), (.agg [(.int .i64 (↑rr)), (.int .i64 (↑cw)), (.int .i64 ro2), (.int .i64 co2), (.bool hi2), (.sl 3 0 0 m 3)])] [(1, (.one ⟨false, false, (.gen rr (fun j_ => (.sl 2 j_ 0 cw 4)))⟩)), (2, (.many (fun j_ => some ⟨false, false, (.ig (W.rl rr (cw * 4) j_) W.ck (fun p_ => (X j_ p_)))⟩))), (3, (.one ⟨false, false, (.row (N * 3) 3 (fun j_ => [(.int .i64 (A j_)), (.int .i64 (B j_)), (.sl 4 j_ 0 (nn j_) 4)]))⟩)), (4, (.many (fun j_ => some ⟨false, false, (.ig (MM j_ * 4) W.ck (fun p_ => (G j_ p_)))⟩)))] 5 (.tup [(.agg [(.int .i64 (↑rr)), (.int .i64 (↑cw)), (.sl 5 0 0 rr 1), (.int .i64 ro2), (.int .i64 co2), (.bool hi2)]), (.c (.int .i64 0))]) [] [(5, (.one ⟨true, false, (.gen rr (fun j_ => (.sl 6 j_ 0 cw 4)))⟩)), (6, (.many (fun j_ => some ⟨true, true, (.ig (W.rl rr (cw * 4) j_) W.ck (fun p_ => (W.apG A B nn G (fun j_ p_ => X j_ p_) m j_ p_)))⟩)))] :=
  Contract0.renum (Contract0.of_frunF (res := (.tup [(.agg [(.int .i64 (↑rr)), (.int .i64 (↑cw)), (.sl 693 0 0 rr 1), (.int .i64 ro2), (.int .i64 co2), (.bool hi2)]), (.c (.int .i64 0))])) (up := [(693, (.one ⟨true, false, (.gen rr (fun j_ => (.sl 694 j_ 0 cw 4)))⟩)), (694, (.many (fun j_ => some ⟨true, true, (.ig (W.rl rr (cw * 4) j_) W.ck (fun p_ => (W.apG A B nn G (fun j_ p_ => X j_ p_) m j_ p_)))⟩)))]) (kill := []) (n0 := 5) (m := [(1, (.one ⟨false, false, (.gen rr (fun j_ => (.sl 2 j_ 0 cw 4)))⟩)), (2, (.many (fun j_ => some ⟨false, false, (.ig (W.rl rr (cw * 4) j_) W.ck (fun p_ => (X j_ p_)))⟩))), (3, (.one ⟨false, false, (.row (N * 3) 3 (fun j_ => [(.int .i64 (A j_)), (.int .i64 (B j_)), (.sl 4 j_ 0 (nn j_) 4)]))⟩)), (4, (.many (fun j_ => some ⟨false, false, (.ig (MM j_ * 4) W.ck (fun p_ => (G j_ p_)))⟩)))]) (args := [(.agg [(.int .i64 (↑rr)), (.int .i64 (↑cw)), (.sl 1 0 0 rr 1), (.int .i64 ro), (.int .i64 co), (.bool hi)]), (.agg [(.int .i64 (↑rr)), (.int .i64 (↑cw)), (.int .i64 ro2), (.int .i64 co2), (.bool hi2), (.sl 3 0 0 m 3)])]) (fn := Try.f16) (c := bodyOf Try.f16) (fuel := 300) (k := kOf Try.prog Try.f16) (outs := [693, 694]) (hs := [(5, ⟨.call [1, 2] (.c (.bool (true))) [] [], none⟩), (12, ⟨.call [] (.c (.bool (true))) [] [], none⟩), (18, ⟨.auto, some (.c (.bool (false)))⟩), (25, ⟨.auto, some (.c (.bool (false)))⟩), (30, ⟨.auto, some (.c (.bool (false)))⟩), (37, ⟨.auto, some (.c (.bool (false)))⟩), (44, ⟨.call [] (.agg [(.int .i64 (↑rr)), (.int .i64 (↑cw)), (.sl 693 0 0 rr 1), (.int .i64 0), (.int .i64 0), (.bool (false))]) [] [(693, (.one ⟨true, false, (.gen rr (fun j_ => (.sl 694 j_ 0 cw 4)))⟩)), (694, (.many (fun j_ => some ⟨true, true, (.ig (W.rl rr (cw * 4) j_) W.ck W.blank)⟩)))], none⟩), (51, ⟨.auto, some (.c (.bool (true)))⟩), (57, ⟨.auto, some (.c (.bool (true)))⟩), (61, ⟨.sum ⟨[2, 3, 4, 5, 6, 7], [1, 2, 3, 4, 5, 21, 37, 693, 694, 709], [], 949⟩ (.exit 0) (LHaI rr cw X ro co hi ro2 co2 hi2 A B nn MM G N m rr X), none⟩), (75, ⟨.sum ⟨[3, 4, 6, 5, 8], [1, 2, 3, 4, 21, 37, 693, 694, 709], [], 100016⟩ (.exit 2) (LHoI rr cw X rr cw ro2 co2 hi2 A B nn MM G N m m (W.apG A B nn G (fun j_ p_ => X j_ p_) m)), none⟩)])
    (cs := [OwnF (fun j_ => some ⟨true, true, (.ig (W.rl rr (cw * 4) j_) W.ck (fun p_ => (W.apG A B nn G (fun j_ p_ => X j_ p_) m j_ p_)))⟩),
      CodeOk Try.prog 174 1173 (kAt (kOf Try.prog Try.f16) [true, true, true, true, true, true, true, false, true, false]) (LHoI rr cw X rr cw ro2 co2 hi2 A B nn MM G N m 0 fun j_ p_ => X j_ p_) (.exit 2) (LHoI rr cw X rr cw ro2 co2 hi2 A B nn MM G N m m (W.apG A B nn G (fun j_ p_ => X j_ p_) m)),
      CodeOk Try.prog 174 949 (kAt (kOf Try.prog Try.f16) [true, true, true, false, true, false, true, false]) (LHa0 rr cw X ro co hi ro2 co2 hi2 A B nn MM G N m) (.exit 0) (LHaI rr cw X ro co hi ro2 co2 hi2 A B nn MM G N m rr X),
      EB ((↑cw : Int) == (↑cw : Int)) true,
      EB ((↑rr : Int) == (↑rr : Int)) true,
      Contract Try.prog 23 [(.c (.int .i64 (↑rr))), (.c (.int .i64 (↑cw)))] [] 693 (.agg [(.int .i64 (↑rr)), (.int .i64 (↑cw)), (.sl 693 0 0 rr 1), (.int .i64 0), (.int .i64 0), (.bool (false))]) [] [(693, (.one ⟨true, false, (.gen rr (fun j_ => (.sl 694 j_ 0 cw 4)))⟩)), (694, (.many (fun j_ => some ⟨true, true, (.ig (W.rl rr (cw * 4) j_) W.ck W.blank)⟩)))],
      EB (decide (co2 ≥ (↑cw : Int))) false,
      EB (decide (co2 < 0)) false,
      EB (decide (ro2 ≥ (↑rr : Int))) false,
      EB (decide (ro2 < 0)) false,
      Contract Try.prog 34 [(.c (.int .i64 (↑rr))), (.c (.int .i64 (↑cw)))] [] 197 (.c (.bool (true))) [] [],
      Contract Try.prog 20 [(.agg [(.int .i64 (↑rr)), (.int .i64 (↑cw)), (.sl 1 0 0 rr 1), (.int .i64 ro), (.int .i64 co), (.bool hi)])] [(1, (.one ⟨false, false, (.gen rr (fun j_ => (.sl 2 j_ 0 cw 4)))⟩)), (2, (.many (fun j_ => some ⟨false, false, (.ig (W.rl rr (cw * 4) j_) W.ck (fun p_ => (X j_ p_)))⟩)))] 85 (.c (.bool (true))) [] []])
    mixed Try.func16 (by kernel_rfl) (by kernel_rfl) (by kernel_rfl) ⟨rfl, (.inr (RoF.of (fun _ => rfl))), rfl, (.inr (RoF.of (fun _ => rfl))), trivial⟩ (by kernel_rfl) ⟨OwnF.of (fun _ => rfl), (CodeOk.mono (rar_ok rr cw X rr cw ro2 co2 hi2 A B nn MM G N m (fun j_ p_ => X j_ p_) (by omega) (by omega) (by omega) (by omega) (by omega) (by omega) (by omega) (by omega) (by omega) (by omega) (by omega) (by omega) (by omega) (by omega)) (by decide)), (rac_ok rr cw X ro co hi ro2 co2 hi2 A B nn MM G N m (by omega) (by omega) (by omega) (by omega) (by omega) (by omega) (by omega) (by omega) (by omega) (by omega) (by omega) (by omega) (by omega)), .mk (beq_t (by omega)), .mk (beq_t (by omega)), Contract0.in1 (bs_ok rr cw (by omega) (by omega)) [] [none, none] [(1, 693), (2, 694)] [] (by kernel_rfl), .mk (decide_eq_false (by omega)), .mk (decide_eq_false (by omega)), .mk (decide_eq_false (by omega)), .mk (decide_eq_false (by omega)), Contract0.in1 (rsize_ok ((↑rr : Int)) ((↑cw : Int)) (by omega) (by omega)) [] [none, none] [] [] (by kernel_rfl), Contract0.in1 (rs_ok rr cw (fun j_ p_ => X j_ p_) ro co hi (by omega) (by omega) (by omega) (by omega) (by omega)) [.b 1 1 true [], .b 2 2 true []] [none] [] [] (by kernel_rfl), trivial⟩) [.b 1 1 true, .b 2 2 true, .b 3 3 true, .b 4 4 true] [] [(693, 5), (694, 6)] [] (by kernel_rfl) (by kernel_rfl) (by kernel_rfl) (by kernel_rfl) (by kernel_rfl)
theorem rad_g_t (rr cw : Nat) (X : Nat → Nat → Int) (ro co : Int) (hi : Bool) (rr2 cw2 : Nat) (ro2 co2 : Int) (hi2 : Bool) (A B : Nat → Int) (nn MM : Nat → Nat) (G : Nat → Nat → Int) (N m : Nat)
    (hrr : 1 ≤ rr ∧ rr ≤ 60)
    (hcw : 1 ≤ cw ∧ cw ≤ 120)
    (hro : 0 ≤ ro ∧ ro < rr)
    (hco : 0 ≤ co ∧ co < cw)
    (hX : ∀ j, j < rr → W.okRow (X j) cw)
    (hrr2 : 1 ≤ rr2 ∧ rr2 ≤ 60)
    (hcw2 : 1 ≤ cw2 ∧ cw2 ≤ 120)
    (hro2 : 0 ≤ ro2 ∧ ro2 < rr2)
    (hco2 : 0 ≤ co2 ∧ co2 < cw2)
    (hm : m ≤ N)
    (hms : m ≤ 1048576)
    (hnM : ∀ j, nn j ≤ MM j)
    (hMs : ∀ j, MM j ≤ 1048576)
    (hA : ∀ j, -9223372036854775808 ≤ A j ∧ A j < 9223372036854775808)
    (hB : ∀ j, -9223372036854775808 ≤ B j ∧ B j < 9223372036854775808)
    (hd : ¬ (rr2 = rr ∧ cw2 = cw))
    (hE : ∀ i, i < m → W.okRun rr2 cw2 (A i) (B i) (nn i) (G i))
    (h0 : ((↑rr : Int) = (↑rr2 : Int))) :
    Contract0 Try.prog 16 [(.agg [(.int .i64 (↑rr)), (.int .i64 (↑cw)), (.sl 1 0 0 rr 1), (.int .i64 ro), (.int .i64 co), (.bool hi)]), (.agg [(.int .i64 (↑rr2)), (.int .i64 (↑cw2)), (.int .i64 ro2), (.int .i64 co2), (.bool hi2), (.sl 3 0 0 m 3)])] [(1, (.one ⟨false, false, (.gen rr (fun j_ => (.sl 2 j_ 0 cw 4)))⟩)), (2, (.many (fun j_ => some ⟨false, false, (.ig (W.rl rr (cw * 4) j_) W.ck (fun p_ => (X j_ p_)))⟩))), (3, (.one ⟨false, false, (.row (N * 3) 3 (fun j_ => [(.int .i64 (A j_)), (.int .i64 (B j_)), (.sl 4 j_ 0 (nn j_) 4)]))⟩)), (4, (.many (fun j_ => some ⟨false, false, (.ig (MM j_ * 4) W.ck (fun p_ => (G j_ p_)))⟩)))] 5 (.tup [(.agg [(.int .i64 (↑rr2)), (.int .i64 (↑cw2)), (.sl 5 0 0 rr2 1), (.int .i64 ro2), (.int .i64 co2), (.bool hi2)]), (.c (.int .i64 0))]) [] [(5, (.one ⟨true, false, (.gen rr2 (fun j_ => (.sl 6 j_ 0 cw2 4)))⟩)), (6, (.many (fun j_ => some ⟨true, true, (.ig (W.rl rr2 (cw2 * 4) j_) W.ck (fun p_ => (W.apG A B nn G (fun j_ => W.blank) m j_ p_)))⟩)))] :=
  Contract0.renum (Contract0.of_frunF (res := (.tup [(.agg [(.int .i64 (↑rr2)), (.int .i64 (↑cw2)), (.sl 693 0 0 rr2 1), (.int .i64 ro2), (.int .i64 co2), (.bool hi2)]), (.c (.int .i64 0))])) (up := [(693, (.one ⟨true, false, (.gen rr2 (fun j_ => (.sl 694 j_ 0 cw2 4)))⟩)), (694, (.many (fun j_ => some ⟨true, true, (.ig (W.rl rr2 (cw2 * 4) j_) W.ck (fun p_ => (W.apG A B nn G (fun j_ => W.blank) m j_ p_)))⟩)))]) (kill := []) (n0 := 5) (m := [(1, (.one ⟨false, false, (.gen rr (fun j_ => (.sl 2 j_ 0 cw 4)))⟩)), (2, (.many (fun j_ => some ⟨false, false, (.ig (W.rl rr (cw * 4) j_) W.ck (fun p_ => (X j_ p_)))⟩))), (3, (.one ⟨false, false, (.row (N * 3) 3 (fun j_ => [(.int .i64 (A j_)), (.int .i64 (B j_)), (.sl 4 j_ 0 (nn j_) 4)]))⟩)), (4, (.many (fun j_ => some ⟨false, false, (.ig (MM j_ * 4) W.ck (fun p_ => (G j_ p_)))⟩)))]) (args := [(.agg [(.int .i64 (↑rr)), (.int .i64 (↑cw)), (.sl 1 0 0 rr 1), (.int .i64 ro), (.int .i64 co), (.bool hi)]), (.agg [(.int .i64 (↑rr2)), (.int .i64 (↑cw2)), (.int .i64 ro2), (.int .i64 co2), (.bool hi2), (.sl 3 0 0 m 3)])]) (fn := Try.f16) (c := bodyOf Try.f16) (fuel := 300) (k := kOf Try.prog Try.f16) (outs := [693, 694]) (hs := [(5, ⟨.call [1, 2] (.c (.bool (true))) [] [], none⟩), (12, ⟨.call [] (.c (.bool (true))) [] [], none⟩), (18, ⟨.auto, some (.c (.bool (false)))⟩), (25, ⟨.auto, some (.c (.bool (false)))⟩), (30, ⟨.auto, some (.c (.bool (false)))⟩), (37, ⟨.auto, some (.c (.bool (false)))⟩), (44, ⟨.call [] (.agg [(.int .i64 (↑rr2)), (.int .i64 (↑cw2)), (.sl 693 0 0 rr2 1), (.int .i64 0), (.int .i64 0), (.bool (false))]) [] [(693, (.one ⟨true, false, (.gen rr2 (fun j_ => (.sl 694 j_ 0 cw2 4)))⟩)), (694, (.many (fun j_ => some ⟨true, true, (.ig (W.rl rr2 (cw2 * 4) j_) W.ck W.blank)⟩)))], none⟩), (52, ⟨.auto, some (.c (.bool (true)))⟩), (57, ⟨.auto, some (.c (.bool (false)))⟩), (73, ⟨.sum ⟨[3, 4, 6, 5, 8], [1, 2, 3, 4, 21, 37, 693, 694, 709], [], 100016⟩ (.exit 2) (LHoI rr cw X rr2 cw2 ro2 co2 hi2 A B nn MM G N m m (W.apG A B nn G (fun j_ => W.blank) m)), none⟩)])
    (cs := [OwnF (fun j_ => some ⟨true, true, (.ig (W.rl rr2 (cw2 * 4) j_) W.ck (fun p_ => (W.apG A B nn G (fun j_ => W.blank) m j_ p_)))⟩),
      CodeOk Try.prog 174 1141 (kAt (kOf Try.prog Try.f16) [true, true, true, true, true, true, true, false, true, false]) (LHoI rr cw X rr2 cw2 ro2 co2 hi2 A B nn MM G N m 0 fun j_ => W.blank) (.exit 2) (LHoI rr cw X rr2 cw2 ro2 co2 hi2 A B nn MM G N m m (W.apG A B nn G (fun j_ => W.blank) m)),
      EB ((↑cw : Int) == (↑cw2 : Int)) false,
      EB ((↑rr : Int) == (↑rr2 : Int)) true,
      Contract Try.prog 23 [(.c (.int .i64 (↑rr2))), (.c (.int .i64 (↑cw2)))] [] 693 (.agg [(.int .i64 (↑rr2)), (.int .i64 (↑cw2)), (.sl 693 0 0 rr2 1), (.int .i64 0), (.int .i64 0), (.bool (false))]) [] [(693, (.one ⟨true, false, (.gen rr2 (fun j_ => (.sl 694 j_ 0 cw2 4)))⟩)), (694, (.many (fun j_ => some ⟨true, true, (.ig (W.rl rr2 (cw2 * 4) j_) W.ck W.blank)⟩)))],
      EB (decide (co2 ≥ (↑cw2 : Int))) false,
      EB (decide (co2 < 0)) false,
      EB (decide (ro2 ≥ (↑rr2 : Int))) false,
      EB (decide (ro2 < 0)) false,
      Contract Try.prog 34 [(.c (.int .i64 (↑rr2))), (.c (.int .i64 (↑cw2)))] [] 197 (.c (.bool (true))) [] [],
      Contract Try.prog 20 [(.agg [(.int .i64 (↑rr)), (.int .i64 (↑cw)), (.sl 1 0 0 rr 1), (.int .i64 ro), (.int .i64 co), (.bool hi)])] [(1, (.one ⟨false, false, (.gen rr (fun j_ => (.sl 2 j_ 0 cw 4)))⟩)), (2, (.many (fun j_ => some ⟨false, false, (.ig (W.rl rr (cw * 4) j_) W.ck (fun p_ => (X j_ p_)))⟩)))] 85 (.c (.bool (true))) [] []])
    mixed Try.func16 (by kernel_rfl) (by kernel_rfl) (by kernel_rfl) ⟨rfl, (.inr (RoF.of (fun _ => rfl))), rfl, (.inr (RoF.of (fun _ => rfl))), trivial⟩ (by kernel_rfl) ⟨OwnF.of (fun _ => rfl), (CodeOk.mono (rar_ok rr cw X rr2 cw2 ro2 co2 hi2 A B nn MM G N m (fun j_ => W.blank) (by omega) (by omega) (by omega) (by omega) (by omega) (by omega) (by omega) (by omega) (by omega) (by omega) (by omega) (by omega) (by omega) (by omega)) (by decide)), .mk (beq_f (by omega)), .mk (beq_t h0), Contract0.in1 (bs_ok rr2 cw2 (by omega) (by omega)) [] [none, none] [(1, 693), (2, 694)] [] (by kernel_rfl), .mk (decide_eq_false (by omega)), .mk (decide_eq_false (by omega)), .mk (decide_eq_false (by omega)), .mk (decide_eq_false (by omega)), Contract0.in1 (rsize_ok ((↑rr2 : Int)) ((↑cw2 : Int)) (by omega) (by omega)) [] [none, none] [] [] (by kernel_rfl), Contract0.in1 (rs_ok rr cw (fun j_ p_ => X j_ p_) ro co hi (by omega) (by omega) (by omega) (by omega) (by omega)) [.b 1 1 true [], .b 2 2 true []] [none] [] [] (by kernel_rfl), trivial⟩) [.b 1 1 true, .b 2 2 true, .b 3 3 true, .b 4 4 true] [] [(693, 5), (694, 6)] [] (by kernel_rfl) (by kernel_rfl) (by kernel_rfl) (by kernel_rfl) (by kernel_rfl)
theorem rad_g_f (rr cw : Nat) (X : Nat → Nat → Int) (ro co : Int) (hi : Bool) (rr2 cw2 : Nat) (ro2 co2 : Int) (hi2 : Bool) (A B : Nat → Int) (nn MM : Nat → Nat) (G : Nat → Nat → Int) (N m : Nat)
    (hrr : 1 ≤ rr ∧ rr ≤ 60)
    (hcw : 1 ≤ cw ∧ cw ≤ 120)
    (hro : 0 ≤ ro ∧ ro < rr)
    (hco : 0 ≤ co ∧ co < cw)
    (hX : ∀ j, j < rr → W.okRow (X j) cw)
    (hrr2 : 1 ≤ rr2 ∧ rr2 ≤ 60)
    (hcw2 : 1 ≤ cw2 ∧ cw2 ≤ 120)
    (hro2 : 0 ≤ ro2 ∧ ro2 < rr2)
    (hco2 : 0 ≤ co2 ∧ co2 < cw2)
    (hm : m ≤ N)
    (hms : m ≤ 1048576)
    (hnM : ∀ j, nn j ≤ MM j)
    (hMs : ∀ j, MM j ≤ 1048576)
    (hA : ∀ j, -9223372036854775808 ≤ A j ∧ A j < 9223372036854775808)
    (hB : ∀ j, -9223372036854775808 ≤ B j ∧ B j < 9223372036854775808)
    (hd : ¬ (rr2 = rr ∧ cw2 = cw))
    (hE : ∀ i, i < m → W.okRun rr2 cw2 (A i) (B i) (nn i) (G i))
    (h0 : (¬(↑rr : Int) = (↑rr2 : Int))) :
    Contract0 Try.prog 16 [(.agg [(.int .i64 (↑rr)), (.int .i64 (↑cw)), (.sl 1 0 0 rr 1), (.int .i64 ro), (.int .i64 co), (.bool hi)]), (.agg [(.int .i64 (↑rr2)), (.int .i64 (↑cw2)), (.int .i64 ro2), (.int .i64 co2), (.bool hi2), (.sl 3 0 0 m 3)])] [(1, (.one ⟨false, false, (.gen rr (fun j_ => (.sl 2 j_ 0 cw 4)))⟩)), (2, (.many (fun j_ => some ⟨false, false, (.ig (W.rl rr (cw * 4) j_) W.ck (fun p_ => (X j_ p_)))⟩))), (3, (.one ⟨false, false, (.row (N * 3) 3 (fun j_ => [(.int .i64 (A j_)), (.int .i64 (B j_)), (.sl 4 j_ 0 (nn j_) 4)]))⟩)), (4, (.many (fun j_ => some ⟨false, false, (.ig (MM j_ * 4) W.ck (fun p_ => (G j_ p_)))⟩)))] 5 (.tup [(.agg [(.int .i64 (↑rr2)), (.int .i64 (↑cw2)), (.sl 5 0 0 rr2 1), (.int .i64 ro2), (.int .i64 co2), (.bool hi2)]), (.c (.int .i64 0))]) [] [(5, (.one ⟨true, false, (.gen rr2 (fun j_ => (.sl 6 j_ 0 cw2 4)))⟩)), (6, (.many (fun j_ => some ⟨true, true, (.ig (W.rl rr2 (cw2 * 4) j_) W.ck (fun p_ => (W.apG A B nn G (fun j_ => W.blank) m j_ p_)))⟩)))] :=
  Contract0.renum (Contract0.of_frunF (res := (.tup [(.agg [(.int .i64 (↑rr2)), (.int .i64 (↑cw2)), (.sl 693 0 0 rr2 1), (.int .i64 ro2), (.int .i64 co2), (.bool hi2)]), (.c (.int .i64 0))])) (up := [(693, (.one ⟨true, false, (.gen rr2 (fun j_ => (.sl 694 j_ 0 cw2 4)))⟩)), (694, (.many (fun j_ => some ⟨true, true, (.ig (W.rl rr2 (cw2 * 4) j_) W.ck (fun p_ => (W.apG A B nn G (fun j_ => W.blank) m j_ p_)))⟩)))]) (kill := []) (n0 := 5) (m := [(1, (.one ⟨false, false, (.gen rr (fun j_ => (.sl 2 j_ 0 cw 4)))⟩)), (2, (.many (fun j_ => some ⟨false, false, (.ig (W.rl rr (cw * 4) j_) W.ck (fun p_ => (X j_ p_)))⟩))), (3, (.one ⟨false, false, (.row (N * 3) 3 (fun j_ => [(.int .i64 (A j_)), (.int .i64 (B j_)), (.sl 4 j_ 0 (nn j_) 4)]))⟩)), (4, (.many (fun j_ => some ⟨false, false, (.ig (MM j_ * 4) W.ck (fun p_ => (G j_ p_)))⟩)))]) (args := [(.agg [(.int .i64 (↑rr)), (.int .i64 (↑cw)), (.sl 1 0 0 rr 1), (.int .i64 ro), (.int .i64 co), (.bool hi)]), (.agg [(.int .i64 (↑rr2)), (.int .i64 (↑cw2)), (.int .i64 ro2), (.int .i64 co2), (.bool hi2), (.sl 3 0 0 m 3)])]) (fn := Try.f16) (c := bodyOf Try.f16) (fuel := 300) (k := kOf Try.prog Try.f16) (outs := [693, 694]) (hs := [(5, ⟨.call [1, 2] (.c (.bool (true))) [] [], none⟩), (12, ⟨.call [] (.c (.bool (true))) [] [], none⟩), (18, ⟨.auto, some (.c (.bool (false)))⟩), (25, ⟨.auto, some (.c (.bool (false)))⟩), (30, ⟨.auto, some (.c (.bool (false)))⟩), (37, ⟨.auto, some (.c (.bool (false)))⟩), (44, ⟨.call [] (.agg [(.int .i64 (↑rr2)), (.int .i64 (↑cw2)), (.sl 693 0 0 rr2 1), (.int .i64 0), (.int .i64 0), (.bool (false))]) [] [(693, (.one ⟨true, false, (.gen rr2 (fun j_ => (.sl 694 j_ 0 cw2 4)))⟩)), (694, (.many (fun j_ => some ⟨true, true, (.ig (W.rl rr2 (cw2 * 4) j_) W.ck W.blank)⟩)))], none⟩), (52, ⟨.auto, some (.c (.bool (false)))⟩), (73, ⟨.sum ⟨[3, 4, 6, 5, 8], [1, 2, 3, 4, 21, 37, 693, 694, 709], [], 100016⟩ (.exit 2) (LHoI rr cw X rr2 cw2 ro2 co2 hi2 A B nn MM G N m m (W.apG A B nn G (fun j_ => W.blank) m)), none⟩)])
    (cs := [OwnF (fun j_ => some ⟨true, true, (.ig (W.rl rr2 (cw2 * 4) j_) W.ck (fun p_ => (W.apG A B nn G (fun j_ => W.blank) m j_ p_)))⟩),
      CodeOk Try.prog 174 1141 (kAt (kOf Try.prog Try.f16) [true, true, true, true, true, true, true, false, true, false]) (LHoI rr cw X rr2 cw2 ro2 co2 hi2 A B nn MM G N m 0 fun j_ => W.blank) (.exit 2) (LHoI rr cw X rr2 cw2 ro2 co2 hi2 A B nn MM G N m m (W.apG A B nn G (fun j_ => W.blank) m)),
      EB ((↑rr : Int) == (↑rr2 : Int)) false,
      Contract Try.prog 23 [(.c (.int .i64 (↑rr2))), (.c (.int .i64 (↑cw2)))] [] 693 (.agg [(.int .i64 (↑rr2)), (.int .i64 (↑cw2)), (.sl 693 0 0 rr2 1), (.int .i64 0), (.int .i64 0), (.bool (false))]) [] [(693, (.one ⟨true, false, (.gen rr2 (fun j_ => (.sl 694 j_ 0 cw2 4)))⟩)), (694, (.many (fun j_ => some ⟨true, true, (.ig (W.rl rr2 (cw2 * 4) j_) W.ck W.blank)⟩)))],
      EB (decide (co2 ≥ (↑cw2 : Int))) false,
      EB (decide (co2 < 0)) false,
      EB (decide (ro2 ≥ (↑rr2 : Int))) false,
      EB (decide (ro2 < 0)) false,
      Contract Try.prog 34 [(.c (.int .i64 (↑rr2))), (.c (.int .i64 (↑cw2)))] [] 197 (.c (.bool (true))) [] [],
      Contract Try.prog 20 [(.agg [(.int .i64 (↑rr)), (.int .i64 (↑cw)), (.sl 1 0 0 rr 1), (.int .i64 ro), (.int .i64 co), (.bool hi)])] [(1, (.one ⟨false, false, (.gen rr (fun j_ => (.sl 2 j_ 0 cw 4)))⟩)), (2, (.many (fun j_ => some ⟨false, false, (.ig (W.rl rr (cw * 4) j_) W.ck (fun p_ => (X j_ p_)))⟩)))] 85 (.c (.bool (true))) [] []])
    mixed Try.func16 (by kernel_rfl) (by kernel_rfl) (by kernel_rfl) ⟨rfl, (.inr (RoF.of (fun _ => rfl))), rfl, (.inr (RoF.of (fun _ => rfl))), trivial⟩ (by kernel_rfl) ⟨OwnF.of (fun _ => rfl), (CodeOk.mono (rar_ok rr cw X rr2 cw2 ro2 co2 hi2 A B nn MM G N m (fun j_ => W.blank) (by omega) (by omega) (by omega) (by omega) (by omega) (by omega) (by omega) (by omega) (by omega) (by omega) (by omega) (by omega) (by omega) (by omega)) (by decide)), .mk (beq_f h0), Contract0.in1 (bs_ok rr2 cw2 (by omega) (by omega)) [] [none, none] [(1, 693), (2, 694)] [] (by kernel_rfl), .mk (decide_eq_false (by omega)), .mk (decide_eq_false (by omega)), .mk (decide_eq_false (by omega)), .mk (decide_eq_false (by omega)), Contract0.in1 (rsize_ok ((↑rr2 : Int)) ((↑cw2 : Int)) (by omega) (by omega)) [] [none, none] [] [] (by kernel_rfl), Contract0.in1 (rs_ok rr cw (fun j_ p_ => X j_ p_) ro co hi (by omega) (by omega) (by omega) (by omega) (by omega)) [.b 1 1 true [], .b 2 2 true []] [none] [] [] (by kernel_rfl), trivial⟩) [.b 1 1 true, .b 2 2 true, .b 3 3 true, .b 4 4 true] [] [(693, 5), (694, 6)] [] (by kernel_rfl) (by kernel_rfl) (by kernel_rfl) (by kernel_rfl) (by kernel_rfl)
theorem ras_b (rr cw : Nat) (X : Nat → Nat → Int) (ro co : Int) (hi : Bool) (ro2 co2 : Int) (hi2 : Bool) (A B : Nat → Int) (nn MM : Nat → Nat) (G : Nat → Nat → Int) (N m : Nat)
    (hrr : 1 ≤ rr ∧ rr ≤ 60)
    (hcw : 1 ≤ cw ∧ cw ≤ 120)
    (hro : 0 ≤ ro ∧ ro < rr)
    (hco : 0 ≤ co ∧ co < cw)
    (hX : ∀ j, j < rr → W.okRow (X j) cw)
    (hro2 : 0 ≤ ro2 ∧ ro2 < rr)
    (hco2 : 0 ≤ co2 ∧ co2 < cw)
    (hm : m ≤ N)
    (hms : m ≤ 1048576)
    (hnM : ∀ j, nn j ≤ MM j)
    (hMs : ∀ j, MM j ≤ 1048576)
    (hA : ∀ j, -9223372036854775808 ≤ A j ∧ A j < 9223372036854775808)
    (hB : ∀ j, -9223372036854775808 ≤ B j ∧ B j < 9223372036854775808)
    (hE : ¬ ∀ i, i < m → W.okRun rr cw (A i) (B i) (nn i) (G i)) :
    Contract0 Try.prog 16 [(.agg [(.int .i64 (↑rr)), (.int .i64 (↑cw)), (.sl 1 0 0 rr 1), (.int .i64 ro), (.int .i64 co), (.bool hi)]), (.agg [(.int .i64 (↑rr)), (.int .i64 (↑cw)), (.int .i64 ro2), (.int .i64 co2), (.bool hi2), (.sl 3 0 0 m 3)])] [(1, (.one ⟨false, false, (.gen rr (fun j_ => (.sl 2 j_ 0 cw 4)))⟩)), (2, (.many (fun j_ => some ⟨false, false, (.ig (W.rl rr (cw * 4) j_) W.ck (fun p_ => (X j_ p_)))⟩))), (3, (.one ⟨false, false, (.row (N * 3) 3 (fun j_ => [(.int .i64 (A j_)), (.int .i64 (B j_)), (.sl 4 j_ 0 (nn j_) 4)]))⟩)), (4, (.many (fun j_ => some ⟨false, false, (.ig (MM j_ * 4) W.ck (fun p_ => (G j_ p_)))⟩)))] 5 (.tup [(.agg [(.int .i64 0), (.int .i64 0), .nils, (.int .i64 0), (.int .i64 0), (.bool (false))]), (.c (.int .i64 1))]) [] [] :=
  Contract0.of_frunF (res := (.tup [(.agg [(.int .i64 0), (.int .i64 0), .nils, (.int .i64 0), (.int .i64 0), (.bool (false))]), (.c (.int .i64 1))])) (up := []) (kill := []) (n0 := 5) (m := [(1, (.one ⟨false, false, (.gen rr (fun j_ => (.sl 2 j_ 0 cw 4)))⟩)), (2, (.many (fun j_ => some ⟨false, false, (.ig (W.rl rr (cw * 4) j_) W.ck (fun p_ => (X j_ p_)))⟩))), (3, (.one ⟨false, false, (.row (N * 3) 3 (fun j_ => [(.int .i64 (A j_)), (.int .i64 (B j_)), (.sl 4 j_ 0 (nn j_) 4)]))⟩)), (4, (.many (fun j_ => some ⟨false, false, (.ig (MM j_ * 4) W.ck (fun p_ => (G j_ p_)))⟩)))]) (args := [(.agg [(.int .i64 (↑rr)), (.int .i64 (↑cw)), (.sl 1 0 0 rr 1), (.int .i64 ro), (.int .i64 co), (.bool hi)]), (.agg [(.int .i64 (↑rr)), (.int .i64 (↑cw)), (.int .i64 ro2), (.int .i64 co2), (.bool hi2), (.sl 3 0 0 m 3)])]) (fn := Try.f16) (c := bodyOf Try.f16) (fuel := 300) (k := kOf Try.prog Try.f16) (outs := []) (hs := [(5, ⟨.call [1, 2] (.c (.bool (true))) [] [], none⟩), (12, ⟨.call [] (.c (.bool (true))) [] [], none⟩), (18, ⟨.auto, some (.c (.bool (false)))⟩), (25, ⟨.auto, some (.c (.bool (false)))⟩), (30, ⟨.auto, some (.c (.bool (false)))⟩), (37, ⟨.auto, some (.c (.bool (false)))⟩), (44, ⟨.call [] (.agg [(.int .i64 (↑rr)), (.int .i64 (↑cw)), (.sl 693 0 0 rr 1), (.int .i64 0), (.int .i64 0), (.bool (false))]) [] [(693, (.one ⟨true, false, (.gen rr (fun j_ => (.sl 694 j_ 0 cw 4)))⟩)), (694, (.many (fun j_ => some ⟨true, true, (.ig (W.rl rr (cw * 4) j_) W.ck W.blank)⟩)))], none⟩), (51, ⟨.auto, some (.c (.bool (true)))⟩), (57, ⟨.auto, some (.c (.bool (true)))⟩), (61, ⟨.sum ⟨[2, 3, 4, 5, 6, 7], [1, 2, 3, 4, 5, 21, 37, 693, 694, 709], [], 949⟩ (.exit 0) (LHaI rr cw X ro co hi ro2 co2 hi2 A B nn MM G N m rr X), none⟩), (75, ⟨.sum ⟨[3, 4, 6, 5, 8], [1, 2, 3, 4, 21, 37, 693, 694, 709], [], 100016⟩ (.ret) ({ tm := [(4, V.c (C.ptr 37 0 0)), (5, V.c (C.int IntKind.i64 1))], me := [(37, Ent.one { own := true, ex := true, body := Body.cells [C.int IntKind.i64 0, C.int IntKind.i64 0, C.nils, C.int IntKind.i64 0, C.int IntKind.i64 0, C.bool false] })], nx := 100016 }), none⟩)])
    (cs := [CodeOk Try.prog 174 1173 (kAt (kOf Try.prog Try.f16) [true, true, true, true, true, true, true, false, true, false]) (LHoI rr cw X rr cw ro2 co2 hi2 A B nn MM G N m 0 fun j_ p_ => X j_ p_) (.ret) ({ tm := [(4, V.c (C.ptr 37 0 0)), (5, V.c (C.int IntKind.i64 1))], me := [(37, Ent.one { own := true, ex := true, body := Body.cells [C.int IntKind.i64 0, C.int IntKind.i64 0, C.nils, C.int IntKind.i64 0, C.int IntKind.i64 0, C.bool false] })], nx := 100016 }),
      CodeOk Try.prog 174 949 (kAt (kOf Try.prog Try.f16) [true, true, true, false, true, false, true, false]) (LHa0 rr cw X ro co hi ro2 co2 hi2 A B nn MM G N m) (.exit 0) (LHaI rr cw X ro co hi ro2 co2 hi2 A B nn MM G N m rr X),
      EB ((↑cw : Int) == (↑cw : Int)) true,
      EB ((↑rr : Int) == (↑rr : Int)) true,
      Contract Try.prog 23 [(.c (.int .i64 (↑rr))), (.c (.int .i64 (↑cw)))] [] 693 (.agg [(.int .i64 (↑rr)), (.int .i64 (↑cw)), (.sl 693 0 0 rr 1), (.int .i64 0), (.int .i64 0), (.bool (false))]) [] [(693, (.one ⟨true, false, (.gen rr (fun j_ => (.sl 694 j_ 0 cw 4)))⟩)), (694, (.many (fun j_ => some ⟨true, true, (.ig (W.rl rr (cw * 4) j_) W.ck W.blank)⟩)))],
      EB (decide (co2 ≥ (↑cw : Int))) false,
      EB (decide (co2 < 0)) false,
      EB (decide (ro2 ≥ (↑rr : Int))) false,
      EB (decide (ro2 < 0)) false,
      Contract Try.prog 34 [(.c (.int .i64 (↑rr))), (.c (.int .i64 (↑cw)))] [] 197 (.c (.bool (true))) [] [],
      Contract Try.prog 20 [(.agg [(.int .i64 (↑rr)), (.int .i64 (↑cw)), (.sl 1 0 0 rr 1), (.int .i64 ro), (.int .i64 co), (.bool hi)])] [(1, (.one ⟨false, false, (.gen rr (fun j_ => (.sl 2 j_ 0 cw 4)))⟩)), (2, (.many (fun j_ => some ⟨false, false, (.ig (W.rl rr (cw * 4) j_) W.ck (fun p_ => (X j_ p_)))⟩)))] 85 (.c (.bool (true))) [] []])
    mixed Try.func16 (by kernel_rfl) (by kernel_rfl) (by kernel_rfl) ⟨rfl, (.inr (RoF.of (fun _ => rfl))), rfl, (.inr (RoF.of (fun _ => rfl))), trivial⟩ (by kernel_rfl) ⟨(CodeOk.mono (rar_bad rr cw X rr cw ro2 co2 hi2 A B nn MM G N m (fun j_ p_ => X j_ p_) (by omega) (by omega) (by omega) (by omega) (by omega) (by omega) (by omega) (by omega) (by omega) (by omega) (by omega) (by omega) (by omega) (by omega)) (by decide)), (rac_ok rr cw X ro co hi ro2 co2 hi2 A B nn MM G N m (by omega) (by omega) (by omega) (by omega) (by omega) (by omega) (by omega) (by omega) (by omega) (by omega) (by omega) (by omega) (by omega)), .mk (beq_t (by omega)), .mk (beq_t (by omega)), Contract0.in1 (bs_ok rr cw (by omega) (by omega)) [] [none, none] [(1, 693), (2, 694)] [] (by kernel_rfl), .mk (decide_eq_false (by omega)), .mk (decide_eq_false (by omega)), .mk (decide_eq_false (by omega)), .mk (decide_eq_false (by omega)), Contract0.in1 (rsize_ok ((↑rr : Int)) ((↑cw : Int)) (by omega) (by omega)) [] [none, none] [] [] (by kernel_rfl), Contract0.in1 (rs_ok rr cw (fun j_ p_ => X j_ p_) ro co hi (by omega) (by omega) (by omega) (by omega) (by omega)) [.b 1 1 true [], .b 2 2 true []] [none] [] [] (by kernel_rfl), trivial⟩
theorem rad_b_t (rr cw : Nat) (X : Nat → Nat → Int) (ro co : Int) (hi : Bool) (rr2 cw2 : Nat) (ro2 co2 : Int) (hi2 : Bool) (A B : Nat → Int) (nn MM : Nat → Nat) (G : Nat → Nat → Int) (N m : Nat)
    (hrr : 1 ≤ rr ∧ rr ≤ 60)
    (hcw : 1 ≤ cw ∧ cw ≤ 120)
    (hro : 0 ≤ ro ∧ ro < rr)
    (hco : 0 ≤ co ∧ co < cw)
    (hX : ∀ j, j < rr → W.okRow (X j) cw)
    (hrr2 : 1 ≤ rr2 ∧ rr2 ≤ 60)
    (hcw2 : 1 ≤ cw2 ∧ cw2 ≤ 120)
    (hro2 : 0 ≤ ro2 ∧ ro2 < rr2)
    (hco2 : 0 ≤ co2 ∧ co2 < cw2)
    (hm : m ≤ N)
    (hms : m ≤ 1048576)
    (hnM : ∀ j, nn j ≤ MM j)
    (hMs : ∀ j, MM j ≤ 1048576)
    (hA : ∀ j, -9223372036854775808 ≤ A j ∧ A j < 9223372036854775808)
    (hB : ∀ j, -9223372036854775808 ≤ B j ∧ B j < 9223372036854775808)
    (hd : ¬ (rr2 = rr ∧ cw2 = cw))
    (hE : ¬ ∀ i, i < m → W.okRun rr2 cw2 (A i) (B i) (nn i) (G i))
    (h0 : ((↑rr : Int) = (↑rr2 : Int))) :
    Contract0 Try.prog 16 [(.agg [(.int .i64 (↑rr)), (.int .i64 (↑cw)), (.sl 1 0 0 rr 1), (.int .i64 ro), (.int .i64 co), (.bool hi)]), (.agg [(.int .i64 (↑rr2)), (.int .i64 (↑cw2)), (.int .i64 ro2), (.int .i64 co2), (.bool hi2), (.sl 3 0 0 m 3)])] [(1, (.one ⟨false, false, (.gen rr (fun j_ => (.sl 2 j_ 0 cw 4)))⟩)), (2, (.many (fun j_ => some ⟨false, false, (.ig (W.rl rr (cw * 4) j_) W.ck (fun p_ => (X j_ p_)))⟩))), (3, (.one ⟨false, false, (.row (N * 3) 3 (fun j_ => [(.int .i64 (A j_)), (.int .i64 (B j_)), (.sl 4 j_ 0 (nn j_) 4)]))⟩)), (4, (.many (fun j_ => some ⟨false, false, (.ig (MM j_ * 4) W.ck (fun p_ => (G j_ p_)))⟩)))] 5 (.tup [(.agg [(.int .i64 0), (.int .i64 0), .nils, (.int .i64 0), (.int .i64 0), (.bool (false))]), (.c (.int .i64 1))]) [] [] :=
  Contract0.of_frunF (res := (.tup [(.agg [(.int .i64 0), (.int .i64 0), .nils, (.int .i64 0), (.int .i64 0), (.bool (false))]), (.c (.int .i64 1))])) (up := []) (kill := []) (n0 := 5) (m := [(1, (.one ⟨false, false, (.gen rr (fun j_ => (.sl 2 j_ 0 cw 4)))⟩)), (2, (.many (fun j_ => some ⟨false, false, (.ig (W.rl rr (cw * 4) j_) W.ck (fun p_ => (X j_ p_)))⟩))), (3, (.one ⟨false, false, (.row (N * 3) 3 (fun j_ => [(.int .i64 (A j_)), (.int .i64 (B j_)), (.sl 4 j_ 0 (nn j_) 4)]))⟩)), (4, (.many (fun j_ => some ⟨false, false, (.ig (MM j_ * 4) W.ck (fun p_ => (G j_ p_)))⟩)))]) (args := [(.agg [(.int .i64 (↑rr)), (.int .i64 (↑cw)), (.sl 1 0 0 rr 1), (.int .i64 ro), (.int .i64 co), (.bool hi)]), (.agg [(.int .i64 (↑rr2)), (.int .i64 (↑cw2)), (.int .i64 ro2), (.int .i64 co2), (.bool hi2), (.sl 3 0 0 m 3)])]) (fn := Try.f16) (c := bodyOf Try.f16) (fuel := 300) (k := kOf Try.prog Try.f16) (outs := []) (hs := [(5, ⟨.call [1, 2] (.c (.bool (true))) [] [], none⟩), (12, ⟨.call [] (.c (.bool (true))) [] [], none⟩), (18, ⟨.auto, some (.c (.bool (false)))⟩), (25, ⟨.auto, some (.c (.bool (false)))⟩), (30, ⟨.auto, some (.c (.bool (false)))⟩), (37, ⟨.auto, some (.c (.bool (false)))⟩), (44, ⟨.call [] (.agg [(.int .i64 (↑rr2)), (.int .i64 (↑cw2)), (.sl 693 0 0 rr2 1), (.int .i64 0), (.int .i64 0), (.bool (false))]) [] [(693, (.one ⟨true, false, (.gen rr2 (fun j_ => (.sl 694 j_ 0 cw2 4)))⟩)), (694, (.many (fun j_ => some ⟨true, true, (.ig (W.rl rr2 (cw2 * 4) j_) W.ck W.blank)⟩)))], none⟩), (52, ⟨.auto, some (.c (.bool (true)))⟩), (57, ⟨.auto, some (.c (.bool (false)))⟩), (73, ⟨.sum ⟨[3, 4, 6, 5, 8], [1, 2, 3, 4, 21, 37, 693, 694, 709], [], 100016⟩ (.ret) ({ tm := [(4, V.c (C.ptr 37 0 0)), (5, V.c (C.int IntKind.i64 1))], me := [(37, Ent.one { own := true, ex := true, body := Body.cells [C.int IntKind.i64 0, C.int IntKind.i64 0, C.nils, C.int IntKind.i64 0, C.int IntKind.i64 0, C.bool false] })], nx := 100016 }), none⟩)])
    (cs := [CodeOk Try.prog 174 1141 (kAt (kOf Try.prog Try.f16) [true, true, true, true, true, true, true, false, true, false]) (LHoI rr cw X rr2 cw2 ro2 co2 hi2 A B nn MM G N m 0 fun j_ => W.blank) (.ret) ({ tm := [(4, V.c (C.ptr 37 0 0)), (5, V.c (C.int IntKind.i64 1))], me := [(37, Ent.one { own := true, ex := true, body := Body.cells [C.int IntKind.i64 0, C.int IntKind.i64 0, C.nils, C.int IntKind.i64 0, C.int IntKind.i64 0, C.bool false] })], nx := 100016 }),
      EB ((↑cw : Int) == (↑cw2 : Int)) false,
      EB ((↑rr : Int) == (↑rr2 : Int)) true,
      Contract Try.prog 23 [(.c (.int .i64 (↑rr2))), (.c (.int .i64 (↑cw2)))] [] 693 (.agg [(.int .i64 (↑rr2)), (.int .i64 (↑cw2)), (.sl 693 0 0 rr2 1), (.int .i64 0), (.int .i64 0), (.bool (false))]) [] [(693, (.one ⟨true, false, (.gen rr2 (fun j_ => (.sl 694 j_ 0 cw2 4)))⟩)), (694, (.many (fun j_ => some ⟨true, true, (.ig (W.rl rr2 (cw2 * 4) j_) W.ck W.blank)⟩)))],
      EB (decide (co2 ≥ (↑cw2 : Int))) false,
      EB (decide (co2 < 0)) false,
      EB (decide (ro2 ≥ (↑rr2 : Int))) false,
      EB (decide (ro2 < 0)) false,
      Contract Try.prog 34 [(.c (.int .i64 (↑rr2))), (.c (.int .i64 (↑cw2)))] [] 197 (.c (.bool (true))) [] [],
      Contract Try.prog 20 [(.agg [(.int .i64 (↑rr)), (.int .i64 (↑cw)), (.sl 1 0 0 rr 1), (.int .i64 ro), (.int .i64 co), (.bool hi)])] [(1, (.one ⟨false, false, (.gen rr (fun j_ => (.sl 2 j_ 0 cw 4)))⟩)), (2, (.many (fun j_ => some ⟨false, false, (.ig (W.rl rr (cw * 4) j_) W.ck (fun p_ => (X j_ p_)))⟩)))] 85 (.c (.bool (true))) [] []])
    mixed Try.func16 (by kernel_rfl) (by kernel_rfl) (by kernel_rfl) ⟨rfl, (.inr (RoF.of (fun _ => rfl))), rfl, (.inr (RoF.of (fun _ => rfl))), trivial⟩ (by kernel_rfl) ⟨(CodeOk.mono (rar_bad rr cw X rr2 cw2 ro2 co2 hi2 A B nn MM G N m (fun j_ => W.blank) (by omega) (by omega) (by omega) (by omega) (by omega) (by omega) (by omega) (by omega) (by omega) (by omega) (by omega) (by omega) (by omega) (by omega)) (by decide)), .mk (beq_f (by omega)), .mk (beq_t h0), Contract0.in1 (bs_ok rr2 cw2 (by omega) (by omega)) [] [none, none] [(1, 693), (2, 694)] [] (by kernel_rfl), .mk (decide_eq_false (by omega)), .mk (decide_eq_false (by omega)), .mk (decide_eq_false (by omega)), .mk (decide_eq_false (by omega)), Contract0.in1 (rsize_ok ((↑rr2 : Int)) ((↑cw2 : Int)) (by omega) (by omega)) [] [none, none] [] [] (by kernel_rfl), Contract0.in1 (rs_ok rr cw (fun j_ p_ => X j_ p_) ro co hi (by omega) (by omega) (by omega) (by omega) (by omega)) [.b 1 1 true [], .b 2 2 true []] [none] [] [] (by kernel_rfl), trivial⟩
theorem rad_b_f (rr cw : Nat) (X : Nat → Nat → Int) (ro co : Int) (hi : Bool) (rr2 cw2 : Nat) (ro2 co2 : Int) (hi2 : Bool) (A B : Nat → Int) (nn MM : Nat → Nat) (G : Nat → Nat → Int) (N m : Nat)
    (hrr : 1 ≤ rr ∧ rr ≤ 60)
    (hcw : 1 ≤ cw ∧ cw ≤ 120)
    (hro : 0 ≤ ro ∧ ro < rr)
    (hco : 0 ≤ co ∧ co < cw)
    (hX : ∀ j, j < rr → W.okRow (X j) cw)
    (hrr2 : 1 ≤ rr2 ∧ rr2 ≤ 60)
    (hcw2 : 1 ≤ cw2 ∧ cw2 ≤ 120)
    (hro2 : 0 ≤ ro2 ∧ ro2 < rr2)
    (hco2 : 0 ≤ co2 ∧ co2 < cw2)
    (hm : m ≤ N)
    (hms : m ≤ 1048576)
    (hnM : ∀ j, nn j ≤ MM j)
    (hMs : ∀ j, MM j ≤ 1048576)
    (hA : ∀ j, -9223372036854775808 ≤ A j ∧ A j < 9223372036854775808)
    (hB : ∀ j, -9223372036854775808 ≤ B j ∧ B j < 9223372036854775808)
    (hd : ¬ (rr2 = rr ∧ cw2 = cw))
    (hE : ¬ ∀ i, i < m → W.okRun rr2 cw2 (A i) (B i) (nn i) (G i))
    (h0 : (¬(↑rr : Int) = (↑rr2 : Int))) :
    Contract0 Try.prog 16 [(.agg [(.int .i64 (↑rr)), (.int .i64 (↑cw)), (.sl 1 0 0 rr 1), (.int .i64 ro), (.int .i64 co), (.bool hi)]), (.agg [(.int .i64 (↑rr2)), (.int .i64 (↑cw2)), (.int .i64 ro2), (.int .i64 co2), (.bool hi2), (.sl 3 0 0 m 3)])] [(1, (.one ⟨false, false, (.gen rr (fun j_ => (.sl 2 j_ 0 cw 4)))⟩)), (2, (.many (fun j_ => some ⟨false, false, (.ig (W.rl rr (cw * 4) j_) W.ck (fun p_ => (X j_ p_)))⟩))), (3, (.one ⟨false, false, (.row (N * 3) 3 (fun j_ => [(.int .i64 (A j_)), (.int .i64 (B j_)), (.sl 4 j_ 0 (nn j_) 4)]))⟩)), (4, (.many (fun j_ => some ⟨false, false, (.ig (MM j_ * 4) W.ck (fun p_ => (G j_ p_)))⟩)))] 5 (.tup [(.agg [(.int .i64 0), (.int .i64 0), .nils, (.int .i64 0), (.int .i64 0), (.bool (false))]), (.c (.int .i64 1))]) [] [] :=
  Contract0.of_frunF (res := (.tup [(.agg [(.int .i64 0), (.int .i64 0), .nils, (.int .i64 0), (.int .i64 0), (.bool (false))]), (.c (.int .i64 1))])) (up := []) (kill := []) (n0 := 5) (m := [(1, (.one ⟨false, false, (.gen rr (fun j_ => (.sl 2 j_ 0 cw 4)))⟩)), (2, (.many (fun j_ => some ⟨false, false, (.ig (W.rl rr (cw * 4) j_) W.ck (fun p_ => (X j_ p_)))⟩))), (3, (.one ⟨false, false, (.row (N * 3) 3 (fun j_ => [(.int .i64 (A j_)), (.int .i64 (B j_)), (.sl 4 j_ 0 (nn j_) 4)]))⟩)), (4, (.many (fun j_ => some ⟨false, false, (.ig (MM j_ * 4) W.ck (fun p_ => (G j_ p_)))⟩)))]) (args := [(.agg [(.int .i64 (↑rr)), (.int .i64 (↑cw)), (.sl 1 0 0 rr 1), (.int .i64 ro), (.int .i64 co), (.bool hi)]), (.agg [(.int .i64 (↑rr2)), (.int .i64 (↑cw2)), (.int .i64 ro2), (.int .i64 co2), (.bool hi2), (.sl 3 0 0 m 3)])]) (fn := Try.f16) (c := bodyOf Try.f16) (fuel := 300) (k := kOf Try.prog Try.f16) (outs := []) (hs := [(5, ⟨.call [1, 2] (.c (.bool (true))) [] [], none⟩), (12, ⟨.call [] (.c (.bool (true))) [] [], none⟩), (18, ⟨.auto, some (.c (.bool (false)))⟩), (25, ⟨.auto, some (.c (.bool (false)))⟩), (30, ⟨.auto, some (.c (.bool (false)))⟩), (37, ⟨.auto, some (.c (.bool (false)))⟩), (44, ⟨.call [] (.agg [(.int .i64 (↑rr2)), (.int .i64 (↑cw2)), (.sl 693 0 0 rr2 1), (.int .i64 0), (.int .i64 0), (.bool (false))]) [] [(693, (.one ⟨true, false, (.gen rr2 (fun j_ => (.sl 694 j_ 0 cw2 4)))⟩)), (694, (.many (fun j_ => some ⟨true, true, (.ig (W.rl rr2 (cw2 * 4) j_) W.ck W.blank)⟩)))], none⟩), (52, ⟨.auto, some (.c (.bool (false)))⟩), (73, ⟨.sum ⟨[3, 4, 6, 5, 8], [1, 2, 3, 4, 21, 37, 693, 694, 709], [], 100016⟩ (.ret) ({ tm := [(4, V.c (C.ptr 37 0 0)), (5, V.c (C.int IntKind.i64 1))], me := [(37, Ent.one { own := true, ex := true, body := Body.cells [C.int IntKind.i64 0, C.int IntKind.i64 0, C.nils, C.int IntKind.i64 0, C.int IntKind.i64 0, C.bool false] })], nx := 100016 }), none⟩)])
    (cs := [CodeOk Try.prog 174 1141 (kAt (kOf Try.prog Try.f16) [true, true, true, true, true, true, true, false, true, false]) (LHoI rr cw X rr2 cw2 ro2 co2 hi2 A B nn MM G N m 0 fun j_ => W.blank) (.ret) ({ tm := [(4, V.c (C.ptr 37 0 0)), (5, V.c (C.int IntKind.i64 1))], me := [(37, Ent.one { own := true, ex := true, body := Body.cells [C.int IntKind.i64 0, C.int IntKind.i64 0, C.nils, C.int IntKind.i64 0, C.int IntKind.i64 0, C.bool false] })], nx := 100016 }),
      EB ((↑rr : Int) == (↑rr2 : Int)) false,
      Contract Try.prog 23 [(.c (.int .i64 (↑rr2))), (.c (.int .i64 (↑cw2)))] [] 693 (.agg [(.int .i64 (↑rr2)), (.int .i64 (↑cw2)), (.sl 693 0 0 rr2 1), (.int .i64 0), (.int .i64 0), (.bool (false))]) [] [(693, (.one ⟨true, false, (.gen rr2 (fun j_ => (.sl 694 j_ 0 cw2 4)))⟩)), (694, (.many (fun j_ => some ⟨true, true, (.ig (W.rl rr2 (cw2 * 4) j_) W.ck W.blank)⟩)))],
      EB (decide (co2 ≥ (↑cw2 : Int))) false,
      EB (decide (co2 < 0)) false,
      EB (decide (ro2 ≥ (↑rr2 : Int))) false,
      EB (decide (ro2 < 0)) false,
      Contract Try.prog 34 [(.c (.int .i64 (↑rr2))), (.c (.int .i64 (↑cw2)))] [] 197 (.c (.bool (true))) [] [],
      Contract Try.prog 20 [(.agg [(.int .i64 (↑rr)), (.int .i64 (↑cw)), (.sl 1 0 0 rr 1), (.int .i64 ro), (.int .i64 co), (.bool hi)])] [(1, (.one ⟨false, false, (.gen rr (fun j_ => (.sl 2 j_ 0 cw 4)))⟩)), (2, (.many (fun j_ => some ⟨false, false, (.ig (W.rl rr (cw * 4) j_) W.ck (fun p_ => (X j_ p_)))⟩)))] 85 (.c (.bool (true))) [] []])
    mixed Try.func16 (by kernel_rfl) (by kernel_rfl) (by kernel_rfl) ⟨rfl, (.inr (RoF.of (fun _ => rfl))), rfl, (.inr (RoF.of (fun _ => rfl))), trivial⟩ (by kernel_rfl) ⟨(CodeOk.mono (rar_bad rr cw X rr2 cw2 ro2 co2 hi2 A B nn MM G N m (fun j_ => W.blank) (by omega) (by omega) (by omega) (by omega) (by omega) (by omega) (by omega) (by omega) (by omega) (by omega) (by omega) (by omega) (by omega) (by omega)) (by decide)), .mk (beq_f h0), Contract0.in1 (bs_ok rr2 cw2 (by omega) (by omega)) [] [none, none] [(1, 693), (2, 694)] [] (by kernel_rfl), .mk (decide_eq_false (by omega)), .mk (decide_eq_false (by omega)), .mk (decide_eq_false (by omega)), .mk (decide_eq_false (by omega)), Contract0.in1 (rsize_ok ((↑rr2 : Int)) ((↑cw2 : Int)) (by omega) (by omega)) [] [none, none] [] [] (by kernel_rfl), Contract0.in1 (rs_ok rr cw (fun j_ p_ => X j_ p_) ro co hi (by omega) (by omega) (by omega) (by omega) (by omega)) [.b 1 1 true [], .b 2 2 true []] [none] [] [] (by kernel_rfl), trivial⟩
end Go.Proofs.Ytohleiikedpmkaa.Vm

namespace Go.Proofs.Ytohleiikedpmkaa.Vm
open Go Go.Proofs Go.Proofs.Ytohleiikedpmkaa
theorem rsize_t (r c : Int) (h : 1 ≤ r ∧ r ≤ 60 ∧ 1 ≤ c ∧ c ≤ 120) : PureF Try.prog 34 [(.c (.int .i64 r)), (.c (.int .i64 c))] (.c (.bool true)) := by
  have := rsize_any r c
  rwa [show W.rzB r c = true from decide_eq_true h] at this
theorem rsize_f (r c : Int) (h : ¬ (1 ≤ r ∧ r ≤ 60 ∧ 1 ≤ c ∧ c ≤ 120)) : PureF Try.prog 34 [(.c (.int .i64 r)), (.c (.int .i64 c))] (.c (.bool false)) := by
  have := rsize_any r c
  rwa [show W.rzB r c = false from decide_eq_false h] at this
end Go.Proofs.Ytohleiikedpmkaa.Vm

namespace Go.Proofs.Ytohleiikedpmkaa.Vm
open Go Go.Proofs Go.Proofs.Ytohleiikedpmkaa
set_option maxRecDepth 100000
theorem raz_c0t (rr cw : Nat) (X : Nat → Nat → Int) (ro co : Int) (hi : Bool) (pr pc po pq : Int) (hi2 : Bool) (A B : Nat → Int) (nn MM : Nat → Nat) (G : Nat → Nat → Int) (N m : Nat)
    (hrr : 1 ≤ rr ∧ rr ≤ 60)
    (hcw : 1 ≤ cw ∧ cw ≤ 120)
    (hro : 0 ≤ ro ∧ ro < rr)
    (hco : 0 ≤ co ∧ co < cw)
    (hX : ∀ j, j < rr → W.okRow (X j) cw)
    (hm : m ≤ N)
    (hms : m ≤ 1048576)
    (hnM : ∀ j, nn j ≤ MM j)
    (hMs : ∀ j, MM j ≤ 1048576)
    (hA : ∀ j, -9223372036854775808 ≤ A j ∧ A j < 9223372036854775808)
    (hB : ∀ j, -9223372036854775808 ≤ B j ∧ B j < 9223372036854775808)
    (hz : ¬ (1 ≤ pr ∧ pr ≤ 60 ∧ 1 ≤ pc ∧ pc ≤ 120 ∧ 0 ≤ po ∧ po < pr ∧ 0 ≤ pq ∧ pq < pc))
    (c0 : ((1 : Int) ≤ pr ∧ pr ≤ (60 : Int) ∧ (1 : Int) ≤ pc ∧ pc ≤ (120 : Int)))
    (h1 : (po < (0 : Int))) :
    Contract0 Try.prog 16 [(.agg [(.int .i64 (↑rr)), (.int .i64 (↑cw)), (.sl 1 0 0 rr 1), (.int .i64 ro), (.int .i64 co), (.bool hi)]), (.agg [(.int .i64 pr), (.int .i64 pc), (.int .i64 po), (.int .i64 pq), (.bool hi2), (.sl 3 0 0 m 3)])] [(1, (.one ⟨false, false, (.gen rr (fun j_ => (.sl 2 j_ 0 cw 4)))⟩)), (2, (.many (fun j_ => some ⟨false, false, (.ig (W.rl rr (cw * 4) j_) W.ck (fun p_ => (X j_ p_)))⟩))), (3, (.one ⟨false, false, (.row (N * 3) 3 (fun j_ => [(.int .i64 (A j_)), (.int .i64 (B j_)), (.sl 4 j_ 0 (nn j_) 4)]))⟩)), (4, (.many (fun j_ => some ⟨false, false, (.ig (MM j_ * 4) W.ck (fun p_ => (G j_ p_)))⟩)))] 5 (.tup [(.agg [(.int .i64 0), (.int .i64 0), .nils, (.int .i64 0), (.int .i64 0), (.bool (false))]), (.c (.int .i64 1))]) [] [] :=
  Contract0.of_frunF (res := (.tup [(.agg [(.int .i64 0), (.int .i64 0), .nils, (.int .i64 0), (.int .i64 0), (.bool (false))]), (.c (.int .i64 1))])) (up := []) (kill := []) (n0 := 5) (m := [(1, (.one ⟨false, false, (.gen rr (fun j_ => (.sl 2 j_ 0 cw 4)))⟩)), (2, (.many (fun j_ => some ⟨false, false, (.ig (W.rl rr (cw * 4) j_) W.ck (fun p_ => (X j_ p_)))⟩))), (3, (.one ⟨false, false, (.row (N * 3) 3 (fun j_ => [(.int .i64 (A j_)), (.int .i64 (B j_)), (.sl 4 j_ 0 (nn j_) 4)]))⟩)), (4, (.many (fun j_ => some ⟨false, false, (.ig (MM j_ * 4) W.ck (fun p_ => (G j_ p_)))⟩)))]) (args := [(.agg [(.int .i64 (↑rr)), (.int .i64 (↑cw)), (.sl 1 0 0 rr 1), (.int .i64 ro), (.int .i64 co), (.bool hi)]), (.agg [(.int .i64 pr), (.int .i64 pc), (.int .i64 po), (.int .i64 pq), (.bool hi2), (.sl 3 0 0 m 3)])]) (fn := Try.f16) (c := bodyOf Try.f16) (fuel := 300) (k := kOf Try.prog Try.f16) (outs := []) (hs := [(5, ⟨.call [1, 2] (.c (.bool (true))) [] [], none⟩), (12, ⟨.call [] (.c (.bool (true))) [] [], none⟩), (20, ⟨.auto, some (.c (.bool (true)))⟩)])
    (cs := [EB (decide (po < 0)) true,
      Contract Try.prog 34 [(.c (.int .i64 pr)), (.c (.int .i64 pc))] [] 197 (.c (.bool (true))) [] [],
      Contract Try.prog 20 [(.agg [(.int .i64 (↑rr)), (.int .i64 (↑cw)), (.sl 1 0 0 rr 1), (.int .i64 ro), (.int .i64 co), (.bool hi)])] [(1, (.one ⟨false, false, (.gen rr (fun j_ => (.sl 2 j_ 0 cw 4)))⟩)), (2, (.many (fun j_ => some ⟨false, false, (.ig (W.rl rr (cw * 4) j_) W.ck (fun p_ => (X j_ p_)))⟩)))] 85 (.c (.bool (true))) [] []])
    mixed Try.func16 (by kernel_rfl) (by kernel_rfl) (by kernel_rfl) ⟨rfl, (.inr (RoF.of (fun _ => rfl))), rfl, (.inr (RoF.of (fun _ => rfl))), trivial⟩ (by kernel_rfl) ⟨.mk (decide_eq_true h1), Contract0.in1 (rsize_t pr pc c0) [] [none, none] [] [] (by kernel_rfl), Contract0.in1 (rs_ok rr cw (fun j_ p_ => X j_ p_) ro co hi (by omega) (by omega) (by omega) (by omega) (by omega)) [.b 1 1 true [], .b 2 2 true []] [none] [] [] (by kernel_rfl), trivial⟩
theorem raz_c0ft (rr cw : Nat) (X : Nat → Nat → Int) (ro co : Int) (hi : Bool) (pr pc po pq : Int) (hi2 : Bool) (A B : Nat → Int) (nn MM : Nat → Nat) (G : Nat → Nat → Int) (N m : Nat)
    (hrr : 1 ≤ rr ∧ rr ≤ 60)
    (hcw : 1 ≤ cw ∧ cw ≤ 120)
    (hro : 0 ≤ ro ∧ ro < rr)
    (hco : 0 ≤ co ∧ co < cw)
    (hX : ∀ j, j < rr → W.okRow (X j) cw)
    (hm : m ≤ N)
    (hms : m ≤ 1048576)
    (hnM : ∀ j, nn j ≤ MM j)
    (hMs : ∀ j, MM j ≤ 1048576)
    (hA : ∀ j, -9223372036854775808 ≤ A j ∧ A j < 9223372036854775808)
    (hB : ∀ j, -9223372036854775808 ≤ B j ∧ B j < 9223372036854775808)
    (hz : ¬ (1 ≤ pr ∧ pr ≤ 60 ∧ 1 ≤ pc ∧ pc ≤ 120 ∧ 0 ≤ po ∧ po < pr ∧ 0 ≤ pq ∧ pq < pc))
    (c0 : ((1 : Int) ≤ pr ∧ pr ≤ (60 : Int) ∧ (1 : Int) ≤ pc ∧ pc ≤ (120 : Int)))
    (h1 : (¬po < (0 : Int)))
    (h2 : (po ≥ pr)) :
    Contract0 Try.prog 16 [(.agg [(.int .i64 (↑rr)), (.int .i64 (↑cw)), (.sl 1 0 0 rr 1), (.int .i64 ro), (.int .i64 co), (.bool hi)]), (.agg [(.int .i64 pr), (.int .i64 pc), (.int .i64 po), (.int .i64 pq), (.bool hi2), (.sl 3 0 0 m 3)])] [(1, (.one ⟨false, false, (.gen rr (fun j_ => (.sl 2 j_ 0 cw 4)))⟩)), (2, (.many (fun j_ => some ⟨false, false, (.ig (W.rl rr (cw * 4) j_) W.ck (fun p_ => (X j_ p_)))⟩))), (3, (.one ⟨false, false, (.row (N * 3) 3 (fun j_ => [(.int .i64 (A j_)), (.int .i64 (B j_)), (.sl 4 j_ 0 (nn j_) 4)]))⟩)), (4, (.many (fun j_ => some ⟨false, false, (.ig (MM j_ * 4) W.ck (fun p_ => (G j_ p_)))⟩)))] 5 (.tup [(.agg [(.int .i64 0), (.int .i64 0), .nils, (.int .i64 0), (.int .i64 0), (.bool (false))]), (.c (.int .i64 1))]) [] [] :=
  Contract0.of_frunF (res := (.tup [(.agg [(.int .i64 0), (.int .i64 0), .nils, (.int .i64 0), (.int .i64 0), (.bool (false))]), (.c (.int .i64 1))])) (up := []) (kill := []) (n0 := 5) (m := [(1, (.one ⟨false, false, (.gen rr (fun j_ => (.sl 2 j_ 0 cw 4)))⟩)), (2, (.many (fun j_ => some ⟨false, false, (.ig (W.rl rr (cw * 4) j_) W.ck (fun p_ => (X j_ p_)))⟩))), (3, (.one ⟨false, false, (.row (N * 3) 3 (fun j_ => [(.int .i64 (A j_)), (.int .i64 (B j_)), (.sl 4 j_ 0 (nn j_) 4)]))⟩)), (4, (.many (fun j_ => some ⟨false, false, (.ig (MM j_ * 4) W.ck (fun p_ => (G j_ p_)))⟩)))]) (args := [(.agg [(.int .i64 (↑rr)), (.int .i64 (↑cw)), (.sl 1 0 0 rr 1), (.int .i64 ro), (.int .i64 co), (.bool hi)]), (.agg [(.int .i64 pr), (.int .i64 pc), (.int .i64 po), (.int .i64 pq), (.bool hi2), (.sl 3 0 0 m 3)])]) (fn := Try.f16) (c := bodyOf Try.f16) (fuel := 300) (k := kOf Try.prog Try.f16) (outs := []) (hs := [(5, ⟨.call [1, 2] (.c (.bool (true))) [] [], none⟩), (12, ⟨.call [] (.c (.bool (true))) [] [], none⟩), (20, ⟨.auto, some (.c (.bool (false)))⟩), (27, ⟨.auto, some (.c (.bool (true)))⟩)])
    (cs := [EB (decide (po ≥ pr)) true,
      EB (decide (po < 0)) false,
      Contract Try.prog 34 [(.c (.int .i64 pr)), (.c (.int .i64 pc))] [] 197 (.c (.bool (true))) [] [],
      Contract Try.prog 20 [(.agg [(.int .i64 (↑rr)), (.int .i64 (↑cw)), (.sl 1 0 0 rr 1), (.int .i64 ro), (.int .i64 co), (.bool hi)])] [(1, (.one ⟨false, false, (.gen rr (fun j_ => (.sl 2 j_ 0 cw 4)))⟩)), (2, (.many (fun j_ => some ⟨false, false, (.ig (W.rl rr (cw * 4) j_) W.ck (fun p_ => (X j_ p_)))⟩)))] 85 (.c (.bool (true))) [] []])
    mixed Try.func16 (by kernel_rfl) (by kernel_rfl) (by kernel_rfl) ⟨rfl, (.inr (RoF.of (fun _ => rfl))), rfl, (.inr (RoF.of (fun _ => rfl))), trivial⟩ (by kernel_rfl) ⟨.mk (decide_eq_true h2), .mk (decide_eq_false h1), Contract0.in1 (rsize_t pr pc c0) [] [none, none] [] [] (by kernel_rfl), Contract0.in1 (rs_ok rr cw (fun j_ p_ => X j_ p_) ro co hi (by omega) (by omega) (by omega) (by omega) (by omega)) [.b 1 1 true [], .b 2 2 true []] [none] [] [] (by kernel_rfl), trivial⟩
theorem raz_c0fft (rr cw : Nat) (X : Nat → Nat → Int) (ro co : Int) (hi : Bool) (pr pc po pq : Int) (hi2 : Bool) (A B : Nat → Int) (nn MM : Nat → Nat) (G : Nat → Nat → Int) (N m : Nat)
    (hrr : 1 ≤ rr ∧ rr ≤ 60)
    (hcw : 1 ≤ cw ∧ cw ≤ 120)
    (hro : 0 ≤ ro ∧ ro < rr)
    (hco : 0 ≤ co ∧ co < cw)
    (hX : ∀ j, j < rr → W.okRow (X j) cw)
    (hm : m ≤ N)
    (hms : m ≤ 1048576)
    (hnM : ∀ j, nn j ≤ MM j)
    (hMs : ∀ j, MM j ≤ 1048576)
    (hA : ∀ j, -9223372036854775808 ≤ A j ∧ A j < 9223372036854775808)
    (hB : ∀ j, -9223372036854775808 ≤ B j ∧ B j < 9223372036854775808)
    (hz : ¬ (1 ≤ pr ∧ pr ≤ 60 ∧ 1 ≤ pc ∧ pc ≤ 120 ∧ 0 ≤ po ∧ po < pr ∧ 0 ≤ pq ∧ pq < pc))
    (c0 : ((1 : Int) ≤ pr ∧ pr ≤ (60 : Int) ∧ (1 : Int) ≤ pc ∧ pc ≤ (120 : Int)))
    (h1 : (¬po < (0 : Int)))
    (h2 : (¬po ≥ pr))
    (h3 : (pq < (0 : Int))) :
    Contract0 Try.prog 16 [(.agg [(.int .i64 (↑rr)), (.int .i64 (↑cw)), (.sl 1 0 0 rr 1), (.int .i64 ro), (.int .i64 co), (.bool hi)]), (.agg [(.int .i64 pr), (.int .i64 pc), (.int .i64 po), (.int .i64 pq), (.bool hi2), (.sl 3 0 0 m 3)])] [(1, (.one ⟨false, false, (.gen rr (fun j_ => (.sl 2 j_ 0 cw 4)))⟩)), (2, (.many (fun j_ => some ⟨false, false, (.ig (W.rl rr (cw * 4) j_) W.ck (fun p_ => (X j_ p_)))⟩))), (3, (.one ⟨false, false, (.row (N * 3) 3 (fun j_ => [(.int .i64 (A j_)), (.int .i64 (B j_)), (.sl 4 j_ 0 (nn j_) 4)]))⟩)), (4, (.many (fun j_ => some ⟨false, false, (.ig (MM j_ * 4) W.ck (fun p_ => (G j_ p_)))⟩)))] 5 (.tup [(.agg [(.int .i64 0), (.int .i64 0), .nils, (.int .i64 0), (.int .i64 0), (.bool (false))]), (.c (.int .i64 1))]) [] [] :=
  Contract0.of_frunF (res := (.tup [(.agg [(.int .i64 0), (.int .i64 0), .nils, (.int .i64 0), (.int .i64 0), (.bool (false))]), (.c (.int .i64 1))])) (up := []) (kill := []) (n0 := 5) (m := [(1, (.one ⟨false, false, (.gen rr (fun j_ => (.sl 2 j_ 0 cw 4)))⟩)), (2, (.many (fun j_ => some ⟨false, false, (.ig (W.rl rr (cw * 4) j_) W.ck (fun p_ => (X j_ p_)))⟩))), (3, (.one ⟨false, false, (.row (N * 3) 3 (fun j_ => [(.int .i64 (A j_)), (.int .i64 (B j_)), (.sl 4 j_ 0 (nn j_) 4)]))⟩)), (4, (.many (fun j_ => some ⟨false, false, (.ig (MM j_ * 4) W.ck (fun p_ => (G j_ p_)))⟩)))]) (args := [(.agg [(.int .i64 (↑rr)), (.int .i64 (↑cw)), (.sl 1 0 0 rr 1), (.int .i64 ro), (.int .i64 co), (.bool hi)]), (.agg [(.int .i64 pr), (.int .i64 pc), (.int .i64 po), (.int .i64 pq), (.bool hi2), (.sl 3 0 0 m 3)])]) (fn := Try.f16) (c := bodyOf Try.f16) (fuel := 300) (k := kOf Try.prog Try.f16) (outs := []) (hs := [(5, ⟨.call [1, 2] (.c (.bool (true))) [] [], none⟩), (12, ⟨.call [] (.c (.bool (true))) [] [], none⟩), (20, ⟨.auto, some (.c (.bool (false)))⟩), (27, ⟨.auto, some (.c (.bool (false)))⟩), (32, ⟨.auto, some (.c (.bool (true)))⟩)])
    (cs := [EB (decide (pq < 0)) true,
      EB (decide (po ≥ pr)) false,
      EB (decide (po < 0)) false,
      Contract Try.prog 34 [(.c (.int .i64 pr)), (.c (.int .i64 pc))] [] 197 (.c (.bool (true))) [] [],
      Contract Try.prog 20 [(.agg [(.int .i64 (↑rr)), (.int .i64 (↑cw)), (.sl 1 0 0 rr 1), (.int .i64 ro), (.int .i64 co), (.bool hi)])] [(1, (.one ⟨false, false, (.gen rr (fun j_ => (.sl 2 j_ 0 cw 4)))⟩)), (2, (.many (fun j_ => some ⟨false, false, (.ig (W.rl rr (cw * 4) j_) W.ck (fun p_ => (X j_ p_)))⟩)))] 85 (.c (.bool (true))) [] []])
    mixed Try.func16 (by kernel_rfl) (by kernel_rfl) (by kernel_rfl) ⟨rfl, (.inr (RoF.of (fun _ => rfl))), rfl, (.inr (RoF.of (fun _ => rfl))), trivial⟩ (by kernel_rfl) ⟨.mk (decide_eq_true h3), .mk (decide_eq_false h2), .mk (decide_eq_false h1), Contract0.in1 (rsize_t pr pc c0) [] [none, none] [] [] (by kernel_rfl), Contract0.in1 (rs_ok rr cw (fun j_ p_ => X j_ p_) ro co hi (by omega) (by omega) (by omega) (by omega) (by omega)) [.b 1 1 true [], .b 2 2 true []] [none] [] [] (by kernel_rfl), trivial⟩
theorem raz_c0fff (rr cw : Nat) (X : Nat → Nat → Int) (ro co : Int) (hi : Bool) (pr pc po pq : Int) (hi2 : Bool) (A B : Nat → Int) (nn MM : Nat → Nat) (G : Nat → Nat → Int) (N m : Nat)
    (hrr : 1 ≤ rr ∧ rr ≤ 60)
    (hcw : 1 ≤ cw ∧ cw ≤ 120)
    (hro : 0 ≤ ro ∧ ro < rr)
    (hco : 0 ≤ co ∧ co < cw)
    (hX : ∀ j, j < rr → W.okRow (X j) cw)
    (hm : m ≤ N)
    (hms : m ≤ 1048576)
    (hnM : ∀ j, nn j ≤ MM j)
    (hMs : ∀ j, MM j ≤ 1048576)
    (hA : ∀ j, -9223372036854775808 ≤ A j ∧ A j < 9223372036854775808)
    (hB : ∀ j, -9223372036854775808 ≤ B j ∧ B j < 9223372036854775808)
    (hz : ¬ (1 ≤ pr ∧ pr ≤ 60 ∧ 1 ≤ pc ∧ pc ≤ 120 ∧ 0 ≤ po ∧ po < pr ∧ 0 ≤ pq ∧ pq < pc))
    (c0 : ((1 : Int) ≤ pr ∧ pr ≤ (60 : Int) ∧ (1 : Int) ≤ pc ∧ pc ≤ (120 : Int)))
    (h1 : (¬po < (0 : Int)))
    (h2 : (¬po ≥ pr))
    (h3 : (¬pq < (0 : Int))) :
    Contract0 Try.prog 16 [(.agg [(.int .i64 (↑rr)), (.int .i64 (↑cw)), (.sl 1 0 0 rr 1), (.int .i64 ro), (.int .i64 co), (.bool hi)]), (.agg [(.int .i64 pr), (.int .i64 pc), (.int .i64 po), (.int .i64 pq), (.bool hi2), (.sl 3 0 0 m 3)])] [(1, (.one ⟨false, false, (.gen rr (fun j_ => (.sl 2 j_ 0 cw 4)))⟩)), (2, (.many (fun j_ => some ⟨false, false, (.ig (W.rl rr (cw * 4) j_) W.ck (fun p_ => (X j_ p_)))⟩))), (3, (.one ⟨false, false, (.row (N * 3) 3 (fun j_ => [(.int .i64 (A j_)), (.int .i64 (B j_)), (.sl 4 j_ 0 (nn j_) 4)]))⟩)), (4, (.many (fun j_ => some ⟨false, false, (.ig (MM j_ * 4) W.ck (fun p_ => (G j_ p_)))⟩)))] 5 (.tup [(.agg [(.int .i64 0), (.int .i64 0), .nils, (.int .i64 0), (.int .i64 0), (.bool (false))]), (.c (.int .i64 1))]) [] [] :=
  Contract0.of_frunF (res := (.tup [(.agg [(.int .i64 0), (.int .i64 0), .nils, (.int .i64 0), (.int .i64 0), (.bool (false))]), (.c (.int .i64 1))])) (up := []) (kill := []) (n0 := 5) (m := [(1, (.one ⟨false, false, (.gen rr (fun j_ => (.sl 2 j_ 0 cw 4)))⟩)), (2, (.many (fun j_ => some ⟨false, false, (.ig (W.rl rr (cw * 4) j_) W.ck (fun p_ => (X j_ p_)))⟩))), (3, (.one ⟨false, false, (.row (N * 3) 3 (fun j_ => [(.int .i64 (A j_)), (.int .i64 (B j_)), (.sl 4 j_ 0 (nn j_) 4)]))⟩)), (4, (.many (fun j_ => some ⟨false, false, (.ig (MM j_ * 4) W.ck (fun p_ => (G j_ p_)))⟩)))]) (args := [(.agg [(.int .i64 (↑rr)), (.int .i64 (↑cw)), (.sl 1 0 0 rr 1), (.int .i64 ro), (.int .i64 co), (.bool hi)]), (.agg [(.int .i64 pr), (.int .i64 pc), (.int .i64 po), (.int .i64 pq), (.bool hi2), (.sl 3 0 0 m 3)])]) (fn := Try.f16) (c := bodyOf Try.f16) (fuel := 300) (k := kOf Try.prog Try.f16) (outs := []) (hs := [(5, ⟨.call [1, 2] (.c (.bool (true))) [] [], none⟩), (12, ⟨.call [] (.c (.bool (true))) [] [], none⟩), (20, ⟨.auto, some (.c (.bool (false)))⟩), (27, ⟨.auto, some (.c (.bool (false)))⟩), (32, ⟨.auto, some (.c (.bool (false)))⟩), (37, ⟨.auto, some (.c (.bool (true)))⟩)])
    (cs := [EB (decide (pq ≥ pc)) true,
      EB (decide (pq < 0)) false,
      EB (decide (po ≥ pr)) false,
      EB (decide (po < 0)) false,
      Contract Try.prog 34 [(.c (.int .i64 pr)), (.c (.int .i64 pc))] [] 197 (.c (.bool (true))) [] [],
      Contract Try.prog 20 [(.agg [(.int .i64 (↑rr)), (.int .i64 (↑cw)), (.sl 1 0 0 rr 1), (.int .i64 ro), (.int .i64 co), (.bool hi)])] [(1, (.one ⟨false, false, (.gen rr (fun j_ => (.sl 2 j_ 0 cw 4)))⟩)), (2, (.many (fun j_ => some ⟨false, false, (.ig (W.rl rr (cw * 4) j_) W.ck (fun p_ => (X j_ p_)))⟩)))] 85 (.c (.bool (true))) [] []])
    mixed Try.func16 (by kernel_rfl) (by kernel_rfl) (by kernel_rfl) ⟨rfl, (.inr (RoF.of (fun _ => rfl))), rfl, (.inr (RoF.of (fun _ => rfl))), trivial⟩ (by kernel_rfl) ⟨.mk (decide_eq_true (by omega)), .mk (decide_eq_false h3), .mk (decide_eq_false h2), .mk (decide_eq_false h1), Contract0.in1 (rsize_t pr pc c0) [] [none, none] [] [] (by kernel_rfl), Contract0.in1 (rs_ok rr cw (fun j_ p_ => X j_ p_) ro co hi (by omega) (by omega) (by omega) (by omega) (by omega)) [.b 1 1 true [], .b 2 2 true []] [none] [] [] (by kernel_rfl), trivial⟩
theorem raz_c1 (rr cw : Nat) (X : Nat → Nat → Int) (ro co : Int) (hi : Bool) (pr pc po pq : Int) (hi2 : Bool) (A B : Nat → Int) (nn MM : Nat → Nat) (G : Nat → Nat → Int) (N m : Nat)
    (hrr : 1 ≤ rr ∧ rr ≤ 60)
    (hcw : 1 ≤ cw ∧ cw ≤ 120)
    (hro : 0 ≤ ro ∧ ro < rr)
    (hco : 0 ≤ co ∧ co < cw)
    (hX : ∀ j, j < rr → W.okRow (X j) cw)
    (hm : m ≤ N)
    (hms : m ≤ 1048576)
    (hnM : ∀ j, nn j ≤ MM j)
    (hMs : ∀ j, MM j ≤ 1048576)
    (hA : ∀ j, -9223372036854775808 ≤ A j ∧ A j < 9223372036854775808)
    (hB : ∀ j, -9223372036854775808 ≤ B j ∧ B j < 9223372036854775808)
    (hz : ¬ (1 ≤ pr ∧ pr ≤ 60 ∧ 1 ≤ pc ∧ pc ≤ 120 ∧ 0 ≤ po ∧ po < pr ∧ 0 ≤ pq ∧ pq < pc))
    (c0 : (¬((1 : Int) ≤ pr ∧ pr ≤ (60 : Int) ∧ (1 : Int) ≤ pc ∧ pc ≤ (120 : Int)))) :
    Contract0 Try.prog 16 [(.agg [(.int .i64 (↑rr)), (.int .i64 (↑cw)), (.sl 1 0 0 rr 1), (.int .i64 ro), (.int .i64 co), (.bool hi)]), (.agg [(.int .i64 pr), (.int .i64 pc), (.int .i64 po), (.int .i64 pq), (.bool hi2), (.sl 3 0 0 m 3)])] [(1, (.one ⟨false, false, (.gen rr (fun j_ => (.sl 2 j_ 0 cw 4)))⟩)), (2, (.many (fun j_ => some ⟨false, false, (.ig (W.rl rr (cw * 4) j_) W.ck (fun p_ => (X j_ p_)))⟩))), (3, (.one ⟨false, false, (.row (N * 3) 3 (fun j_ => [(.int .i64 (A j_)), (.int .i64 (B j_)), (.sl 4 j_ 0 (nn j_) 4)]))⟩)), (4, (.many (fun j_ => some ⟨false, false, (.ig (MM j_ * 4) W.ck (fun p_ => (G j_ p_)))⟩)))] 5 (.tup [(.agg [(.int .i64 0), (.int .i64 0), .nils, (.int .i64 0), (.int .i64 0), (.bool (false))]), (.c (.int .i64 1))]) [] [] :=
  Contract0.of_frunF (res := (.tup [(.agg [(.int .i64 0), (.int .i64 0), .nils, (.int .i64 0), (.int .i64 0), (.bool (false))]), (.c (.int .i64 1))])) (up := []) (kill := []) (n0 := 5) (m := [(1, (.one ⟨false, false, (.gen rr (fun j_ => (.sl 2 j_ 0 cw 4)))⟩)), (2, (.many (fun j_ => some ⟨false, false, (.ig (W.rl rr (cw * 4) j_) W.ck (fun p_ => (X j_ p_)))⟩))), (3, (.one ⟨false, false, (.row (N * 3) 3 (fun j_ => [(.int .i64 (A j_)), (.int .i64 (B j_)), (.sl 4 j_ 0 (nn j_) 4)]))⟩)), (4, (.many (fun j_ => some ⟨false, false, (.ig (MM j_ * 4) W.ck (fun p_ => (G j_ p_)))⟩)))]) (args := [(.agg [(.int .i64 (↑rr)), (.int .i64 (↑cw)), (.sl 1 0 0 rr 1), (.int .i64 ro), (.int .i64 co), (.bool hi)]), (.agg [(.int .i64 pr), (.int .i64 pc), (.int .i64 po), (.int .i64 pq), (.bool hi2), (.sl 3 0 0 m 3)])]) (fn := Try.f16) (c := bodyOf Try.f16) (fuel := 300) (k := kOf Try.prog Try.f16) (outs := []) (hs := [(5, ⟨.call [1, 2] (.c (.bool (true))) [] [], none⟩), (12, ⟨.call [] (.c (.bool (false))) [] [], none⟩)])
    (cs := [Contract Try.prog 34 [(.c (.int .i64 pr)), (.c (.int .i64 pc))] [] 197 (.c (.bool (false))) [] [],
      Contract Try.prog 20 [(.agg [(.int .i64 (↑rr)), (.int .i64 (↑cw)), (.sl 1 0 0 rr 1), (.int .i64 ro), (.int .i64 co), (.bool hi)])] [(1, (.one ⟨false, false, (.gen rr (fun j_ => (.sl 2 j_ 0 cw 4)))⟩)), (2, (.many (fun j_ => some ⟨false, false, (.ig (W.rl rr (cw * 4) j_) W.ck (fun p_ => (X j_ p_)))⟩)))] 85 (.c (.bool (true))) [] []])
    mixed Try.func16 (by kernel_rfl) (by kernel_rfl) (by kernel_rfl) ⟨rfl, (.inr (RoF.of (fun _ => rfl))), rfl, (.inr (RoF.of (fun _ => rfl))), trivial⟩ (by kernel_rfl) ⟨Contract0.in1 (rsize_f pr pc c0) [] [none, none] [] [] (by kernel_rfl), Contract0.in1 (rs_ok rr cw (fun j_ p_ => X j_ p_) ro co hi (by omega) (by omega) (by omega) (by omega) (by omega)) [.b 1 1 true [], .b 2 2 true []] [none] [] [] (by kernel_rfl), trivial⟩
end Go.Proofs.Ytohleiikedpmkaa.Vm

namespace Go.Proofs.Ytohleiikedpmkaa.W
def okPat (pr pc po pq : Int) (A B : Nat → Int) (nn : Nat → Nat) (G : Nat → Nat → Int) (m : Nat) : Prop :=
  (1 ≤ pr ∧ pr ≤ 60 ∧ 1 ≤ pc ∧ pc ≤ 120 ∧ 0 ≤ po ∧ po < pr ∧ 0 ≤ pq ∧ pq < pc) ∧ ∀ i, i < m → okRun pr.toNat pc.toNat (A i) (B i) (nn i) (G i)
end Go.Proofs.Ytohleiikedpmkaa.W
namespace Go.Proofs.Ytohleiikedpmkaa.Vm
open Go Go.Proofs Go.Proofs.Ytohleiikedpmkaa
theorem app_i_ok (rr cw : Nat) (X : Nat → Nat → Int) (ro co : Int) (hi : Bool) (pr pc po pq : Int) (hi2 : Bool) (A B : Nat → Int) (nn MM : Nat → Nat) (G : Nat → Nat → Int) (N m : Nat)
    (hrr : 1 ≤ rr ∧ rr ≤ 60)
    (hcw : 1 ≤ cw ∧ cw ≤ 120)
    (hro : 0 ≤ ro ∧ ro < rr)
    (hco : 0 ≤ co ∧ co < cw)
    (hX : ∀ j, j < rr → W.okRow (X j) cw)
    (hm : m ≤ N)
    (hms : m ≤ 1048576)
    (hnM : ∀ j, nn j ≤ MM j)
    (hMs : ∀ j, MM j ≤ 1048576)
    (hA : ∀ j, -9223372036854775808 ≤ A j ∧ A j < 9223372036854775808)
    (hB : ∀ j, -9223372036854775808 ≤ B j ∧ B j < 9223372036854775808)
    (hE : W.okPat pr pc po pq A B nn G m) :
    Contract0 Try.prog 15 [(.agg [(.int .i64 (↑rr)), (.int .i64 (↑cw)), (.sl 1 0 0 rr 1), (.int .i64 ro), (.int .i64 co), (.bool hi)]), (.agg [(.int .i64 pr), (.int .i64 pc), (.int .i64 po), (.int .i64 pq), (.bool hi2), (.sl 3 0 0 m 3)])] [(1, (.one ⟨false, false, (.gen rr (fun j_ => (.sl 2 j_ 0 cw 4)))⟩)), (2, (.many (fun j_ => some ⟨false, false, (.ig (W.rl rr (cw * 4) j_) W.ck (X j_))⟩))), (3, (.one ⟨false, false, (.row (N * 3) 3 (fun j_ => [(.int .i64 (A j_)), (.int .i64 (B j_)), (.sl 4 j_ 0 (nn j_) 4)]))⟩)), (4, (.many (fun j_ => some ⟨false, false, (.ig (MM j_ * 4) W.ck (G j_))⟩)))] 5 (.tup [(.agg [(.int .i64 ((pr.toNat : Nat) : Int)), (.int .i64 ((pc.toNat : Nat) : Int)), (.sl 5 0 0 pr.toNat 1), (.int .i64 po), (.int .i64 pq), (.bool hi2)]), (.c (.int .i64 0))]) [] [(5, (.one ⟨true, false, (.gen pr.toNat (fun j_ => (.sl 6 j_ 0 pc.toNat 4)))⟩)), (6, (.many (fun j_ => some ⟨true, false, (.ig (W.rl pr.toNat (pc.toNat * 4) j_) W.ck (W.apG A B nn G (W.frX rr cw X pr.toNat pc.toNat) m j_))⟩)))] := by
  obtain ⟨⟨s1, s2, s3, s4, s5, s6, s7, s8⟩, hE⟩ := hE
  obtain ⟨rr2, rfl⟩ : ∃ n : Nat, pr = n := ⟨pr.toNat, by omega⟩
  obtain ⟨cw2, rfl⟩ : ∃ n : Nat, pc = n := ⟨pc.toNat, by omega⟩
  simp only [Int.toNat_natCast] at hE ⊢
  exact apg_g rr cw X ro co hi rr2 cw2 po pq hi2 A B nn MM G N m hrr hcw hro hco hX (by omega) (by omega) (by omega) (by omega) hm hms hnM hMs hA hB hE
theorem app_i_err (rr cw : Nat) (X : Nat → Nat → Int) (ro co : Int) (hi : Bool) (pr pc po pq : Int) (hi2 : Bool) (A B : Nat → Int) (nn MM : Nat → Nat) (G : Nat → Nat → Int) (N m : Nat)
    (hrr : 1 ≤ rr ∧ rr ≤ 60)
    (hcw : 1 ≤ cw ∧ cw ≤ 120)
    (hro : 0 ≤ ro ∧ ro < rr)
    (hco : 0 ≤ co ∧ co < cw)
    (hX : ∀ j, j < rr → W.okRow (X j) cw)
    (hm : m ≤ N)
    (hms : m ≤ 1048576)
    (hnM : ∀ j, nn j ≤ MM j)
    (hMs : ∀ j, MM j ≤ 1048576)
    (hA : ∀ j, -9223372036854775808 ≤ A j ∧ A j < 9223372036854775808)
    (hB : ∀ j, -9223372036854775808 ≤ B j ∧ B j < 9223372036854775808)
    (hE : ¬ W.okPat pr pc po pq A B nn G m) :
    Contract0 Try.prog 15 [(.agg [(.int .i64 (↑rr)), (.int .i64 (↑cw)), (.sl 1 0 0 rr 1), (.int .i64 ro), (.int .i64 co), (.bool hi)]), (.agg [(.int .i64 pr), (.int .i64 pc), (.int .i64 po), (.int .i64 pq), (.bool hi2), (.sl 3 0 0 m 3)])] [(1, (.one ⟨false, false, (.gen rr (fun j_ => (.sl 2 j_ 0 cw 4)))⟩)), (2, (.many (fun j_ => some ⟨false, false, (.ig (W.rl rr (cw * 4) j_) W.ck (X j_))⟩))), (3, (.one ⟨false, false, (.row (N * 3) 3 (fun j_ => [(.int .i64 (A j_)), (.int .i64 (B j_)), (.sl 4 j_ 0 (nn j_) 4)]))⟩)), (4, (.many (fun j_ => some ⟨false, false, (.ig (MM j_ * 4) W.ck (G j_))⟩)))] 5 (.tup [(.agg [(.int .i64 0), (.int .i64 0), .nils, (.int .i64 0), (.int .i64 0), (.bool (false))]), (.c (.int .i64 1))]) [] [] := by
  by_cases hs : 1 ≤ pr ∧ pr ≤ 60 ∧ 1 ≤ pc ∧ pc ≤ 120 ∧ 0 ≤ po ∧ po < pr ∧ 0 ≤ pq ∧ pq < pc
  · have hE' : ¬ ∀ i, i < m → W.okRun pr.toNat pc.toNat (A i) (B i) (nn i) (G i) := fun h => hE ⟨hs, h⟩
    clear hE
    obtain ⟨s1, s2, s3, s4, s5, s6, s7, s8⟩ := hs
    obtain ⟨rr2, rfl⟩ : ∃ n : Nat, pr = n := ⟨pr.toNat, by omega⟩
    obtain ⟨cw2, rfl⟩ : ∃ n : Nat, pc = n := ⟨pc.toNat, by omega⟩
    simp only [Int.toNat_natCast] at hE'
    exact apg_b rr cw X ro co hi rr2 cw2 po pq hi2 A B nn MM G N m hrr hcw hro hco hX (by omega) (by omega) (by omega) (by omega) hm hms hnM hMs hA hB hE'
  · exact apz rr cw X ro co hi pr pc po pq hi2 A B nn MM G N m hrr hcw hro hco hX hm hms hnM hMs hA hB (decide_eq_false (by omega))
theorem rapp_i_ok (rr cw : Nat) (X : Nat → Nat → Int) (ro co : Int) (hi : Bool) (pr pc po pq : Int) (hi2 : Bool) (A B : Nat → Int) (nn MM : Nat → Nat) (G : Nat → Nat → Int) (N m : Nat)
    (hrr : 1 ≤ rr ∧ rr ≤ 60)
    (hcw : 1 ≤ cw ∧ cw ≤ 120)
    (hro : 0 ≤ ro ∧ ro < rr)
    (hco : 0 ≤ co ∧ co < cw)
    (hX : ∀ j, j < rr → W.okRow (X j) cw)
    (hm : m ≤ N)
    (hms : m ≤ 1048576)
    (hnM : ∀ j, nn j ≤ MM j)
    (hMs : ∀ j, MM j ≤ 1048576)
    (hA : ∀ j, -9223372036854775808 ≤ A j ∧ A j < 9223372036854775808)
    (hB : ∀ j, -9223372036854775808 ≤ B j ∧ B j < 9223372036854775808)
    (hE : W.okPat pr pc po pq A B nn G m) :
    Contract0 Try.prog 16 [(.agg [(.int .i64 (↑rr)), (.int .i64 (↑cw)), (.sl 1 0 0 rr 1), (.int .i64 ro), (.int .i64 co), (.bool hi)]), (.agg [(.int .i64 pr), (.int .i64 pc), (.int .i64 po), (.int .i64 pq), (.bool hi2), (.sl 3 0 0 m 3)])] [(1, (.one ⟨false, false, (.gen rr (fun j_ => (.sl 2 j_ 0 cw 4)))⟩)), (2, (.many (fun j_ => some ⟨false, false, (.ig (W.rl rr (cw * 4) j_) W.ck (X j_))⟩))), (3, (.one ⟨false, false, (.row (N * 3) 3 (fun j_ => [(.int .i64 (A j_)), (.int .i64 (B j_)), (.sl 4 j_ 0 (nn j_) 4)]))⟩)), (4, (.many (fun j_ => some ⟨false, false, (.ig (MM j_ * 4) W.ck (G j_))⟩)))] 5 (.tup [(.agg [(.int .i64 ((pr.toNat : Nat) : Int)), (.int .i64 ((pc.toNat : Nat) : Int)), (.sl 5 0 0 pr.toNat 1), (.int .i64 po), (.int .i64 pq), (.bool hi2)]), (.c (.int .i64 0))]) [] [(5, (.one ⟨true, false, (.gen pr.toNat (fun j_ => (.sl 6 j_ 0 pc.toNat 4)))⟩)), (6, (.many (fun j_ => some ⟨true, false, (.ig (W.rl pr.toNat (pc.toNat * 4) j_) W.ck (W.apG A B nn G (W.frX rr cw X pr.toNat pc.toNat) m j_))⟩)))] := by
  obtain ⟨⟨s1, s2, s3, s4, s5, s6, s7, s8⟩, hE⟩ := hE
  obtain ⟨rr2, rfl⟩ : ∃ n : Nat, pr = n := ⟨pr.toNat, by omega⟩
  obtain ⟨cw2, rfl⟩ : ∃ n : Nat, pc = n := ⟨pc.toNat, by omega⟩
  simp only [Int.toNat_natCast] at hE ⊢
  by_cases hd : rr2 = rr ∧ cw2 = cw
  · obtain ⟨rfl, rfl⟩ := hd
    rw [frX_self]
    exact (ras_g rr2 cw2 X ro co hi po pq hi2 A B nn MM G N m hrr hcw hro hco hX (by omega) (by omega) hm hms hnM hMs hA hB hE).same_up rfl ⟨SameB.refl rfl, fun j k e => by injection e with e; subst e; exact SameB.ig rfl (fun h => by cases h) (fun _ _ => rfl) (fun _ _ => rfl), trivial⟩
  · have e : W.frX rr cw X rr2 cw2 = fun _ => W.blank := by unfold W.frX; rw [if_neg hd]
    rw [e]
    by_cases h0 : (rr : Int) = (rr2 : Int)
    · exact (rad_g_t rr cw X ro co hi rr2 cw2 po pq hi2 A B nn MM G N m hrr hcw hro hco hX (by omega) (by omega) (by omega) (by omega) hm hms hnM hMs hA hB hd hE h0).same_up rfl ⟨SameB.refl rfl, fun j k e => by injection e with e; subst e; exact SameB.ig rfl (fun h => by cases h) (fun _ _ => rfl) (fun _ _ => rfl), trivial⟩
    · exact (rad_g_f rr cw X ro co hi rr2 cw2 po pq hi2 A B nn MM G N m hrr hcw hro hco hX (by omega) (by omega) (by omega) (by omega) hm hms hnM hMs hA hB hd hE h0).same_up rfl ⟨SameB.refl rfl, fun j k e => by injection e with e; subst e; exact SameB.ig rfl (fun h => by cases h) (fun _ _ => rfl) (fun _ _ => rfl), trivial⟩
theorem rapp_i_err (rr cw : Nat) (X : Nat → Nat → Int) (ro co : Int) (hi : Bool) (pr pc po pq : Int) (hi2 : Bool) (A B : Nat → Int) (nn MM : Nat → Nat) (G : Nat → Nat → Int) (N m : Nat)
    (hrr : 1 ≤ rr ∧ rr ≤ 60)
    (hcw : 1 ≤ cw ∧ cw ≤ 120)
    (hro : 0 ≤ ro ∧ ro < rr)
    (hco : 0 ≤ co ∧ co < cw)
    (hX : ∀ j, j < rr → W.okRow (X j) cw)
    (hm : m ≤ N)
    (hms : m ≤ 1048576)
    (hnM : ∀ j, nn j ≤ MM j)
    (hMs : ∀ j, MM j ≤ 1048576)
    (hA : ∀ j, -9223372036854775808 ≤ A j ∧ A j < 9223372036854775808)
    (hB : ∀ j, -9223372036854775808 ≤ B j ∧ B j < 9223372036854775808)
    (hE : ¬ W.okPat pr pc po pq A B nn G m) :
    Contract0 Try.prog 16 [(.agg [(.int .i64 (↑rr)), (.int .i64 (↑cw)), (.sl 1 0 0 rr 1), (.int .i64 ro), (.int .i64 co), (.bool hi)]), (.agg [(.int .i64 pr), (.int .i64 pc), (.int .i64 po), (.int .i64 pq), (.bool hi2), (.sl 3 0 0 m 3)])] [(1, (.one ⟨false, false, (.gen rr (fun j_ => (.sl 2 j_ 0 cw 4)))⟩)), (2, (.many (fun j_ => some ⟨false, false, (.ig (W.rl rr (cw * 4) j_) W.ck (X j_))⟩))), (3, (.one ⟨false, false, (.row (N * 3) 3 (fun j_ => [(.int .i64 (A j_)), (.int .i64 (B j_)), (.sl 4 j_ 0 (nn j_) 4)]))⟩)), (4, (.many (fun j_ => some ⟨false, false, (.ig (MM j_ * 4) W.ck (G j_))⟩)))] 5 (.tup [(.agg [(.int .i64 0), (.int .i64 0), .nils, (.int .i64 0), (.int .i64 0), (.bool (false))]), (.c (.int .i64 1))]) [] [] := by
  by_cases hs : 1 ≤ pr ∧ pr ≤ 60 ∧ 1 ≤ pc ∧ pc ≤ 120 ∧ 0 ≤ po ∧ po < pr ∧ 0 ≤ pq ∧ pq < pc
  · have hE' : ¬ ∀ i, i < m → W.okRun pr.toNat pc.toNat (A i) (B i) (nn i) (G i) := fun h => hE ⟨hs, h⟩
    clear hE
    obtain ⟨s1, s2, s3, s4, s5, s6, s7, s8⟩ := hs
    obtain ⟨rr2, rfl⟩ : ∃ n : Nat, pr = n := ⟨pr.toNat, by omega⟩
    obtain ⟨cw2, rfl⟩ : ∃ n : Nat, pc = n := ⟨pc.toNat, by omega⟩
    simp only [Int.toNat_natCast] at hE'
    by_cases hd : rr2 = rr ∧ cw2 = cw
    · obtain ⟨rfl, rfl⟩ := hd
      exact ras_b rr2 cw2 X ro co hi po pq hi2 A B nn MM G N m hrr hcw hro hco hX (by omega) (by omega) hm hms hnM hMs hA hB hE'
    · by_cases h0 : (rr : Int) = (rr2 : Int)
      · exact rad_b_t rr cw X ro co hi rr2 cw2 po pq hi2 A B nn MM G N m hrr hcw hro hco hX (by omega) (by omega) (by omega) (by omega) hm hms hnM hMs hA hB hd hE' h0
      · exact rad_b_f rr cw X ro co hi rr2 cw2 po pq hi2 A B nn MM G N m hrr hcw hro hco hX (by omega) (by omega) (by omega) (by omega) hm hms hnM hMs hA hB hd hE' h0
  · by_cases c0 : 1 ≤ pr ∧ pr ≤ 60 ∧ 1 ≤ pc ∧ pc ≤ 120
    · by_cases h1 : po < 0
      · exact raz_c0t rr cw X ro co hi pr pc po pq hi2 A B nn MM G N m hrr hcw hro hco hX hm hms hnM hMs hA hB hs c0 h1
      · by_cases h2 : po ≥ pr
        · exact raz_c0ft rr cw X ro co hi pr pc po pq hi2 A B nn MM G N m hrr hcw hro hco hX hm hms hnM hMs hA hB hs c0 h1 h2
        · by_cases h3 : pq < 0
          · exact raz_c0fft rr cw X ro co hi pr pc po pq hi2 A B nn MM G N m hrr hcw hro hco hX hm hms hnM hMs hA hB hs c0 h1 h2 h3
          · exact raz_c0fff rr cw X ro co hi pr pc po pq hi2 A B nn MM G N m hrr hcw hro hco hX hm hms hnM hMs hA hB hs c0 h1 h2 h3
    · exact raz_c1 rr cw X ro co hi pr pc po pq hi2 A B nn MM G N m hrr hcw hro hco hX hm hms hnM hMs hA hB hs c0
end Go.Proofs.Ytohleiikedpmkaa.Vm
