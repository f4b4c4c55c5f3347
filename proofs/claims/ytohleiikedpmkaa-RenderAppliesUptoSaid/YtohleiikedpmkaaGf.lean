/- What functions of the program come to: parts of the walk (Gf). -/
import Derived.Test.YtohleiikedpmkaaGe
import Derived.Test.YtohleiikedpmkaaGb
import Derived.KernelRfl
import Derived.Test.YtohleiikedpmkaaProg
import Derived.Test.YtohleiikedpmkaaVmc
set_option linter.unusedSimpArgs false
set_option linter.unusedVariables false
namespace Go.Proofs.Ytohleiikedpmkaa.Vm
open Go Go.Proofs Go.Proofs.Ytohleiikedpmkaa
set_option maxRecDepth 100000
noncomputable def LGzI (rr cw : Nat) (X : Nat → Nat → Int) (rr2 cw2 : Nat) (ro2 co2 : Int) (hi2 : Bool) (A B : Nat → Int) (nn MM : Nat → Nat) (G : Nat → Nat → Int) (N m i : Nat) (Z : Nat → Nat → Int) : S0 :=
  ⟨[(3, (.c (.ptr 21 0 0))), (4, (.c (.ptr 37 0 0))), (6, (.c (.ptr 581 0 0))), (44, (.c (.sl 3 0 0 m 3))), (45, (.c (.int .i64 (↑m)))), (5, (.c (.int .i64 0))), (46, (.c (.int .i64 (i : Int))))], [(1, (.one ⟨false, false, (.gen rr (fun j_ => (.sl 2 j_ 0 cw 4)))⟩)), (2, (.many (fun j_ => some ⟨false, false, (.ig (W.rl rr (cw * 4) j_) W.ck (fun p_ => (X j_ p_)))⟩))), (3, (.one ⟨false, false, (.row (N * 3) 3 (fun j_ => [(.int .i64 (A j_)), (.int .i64 (B j_)), (.sl 4 j_ 0 (nn j_) 4)]))⟩)), (4, (.many (fun j_ => some ⟨false, false, (.ig (MM j_ * 4) W.ck (fun p_ => (G j_ p_)))⟩))), (21, (.one ⟨true, true, (.cells [(.int .i64 (↑rr2)), (.int .i64 (↑cw2)), (.int .i64 ro2), (.int .i64 co2), (.bool hi2), (.sl 3 0 0 m 3)])⟩)), (37, (.one ⟨true, true, (.cells [(.int .i64 0), (.int .i64 0), .nils, (.int .i64 0), (.int .i64 0), (.bool (false))])⟩)), (453, (.one ⟨true, false, (.gen rr2 (fun j_ => (.sl 454 j_ 0 cw2 4)))⟩)), (454, (.many (fun j_ => some ⟨true, false, .ig (W.rl rr2 (cw2 * 4) j_) W.ck (Z j_)⟩))), (581, (.one ⟨true, true, (.cells [(.int .i64 (↑rr2)), (.int .i64 (↑cw2)), (.sl 453 0 0 rr2 1), (.int .i64 ro2), (.int .i64 co2), (.bool hi2)])⟩))], 693⟩
theorem LGz_by {α : Type} (I : α → S0) (Inv : α → Prop) (μ : α → Nat) {ex : Ex} {s' : S0} (hex : ex ≠ .normal)
    (step : ∀ x, Inv x → (∃ y, Inv y ∧ μ y < μ x ∧ CodeOk Try.prog 108 677 (kAt (kOf Try.prog Try.f15) [true, true, true, false, true, false, false]) (I x) .normal (I y)) ∨ CodeOk Try.prog 108 677 (kAt (kOf Try.prog Try.f15) [true, true, true, false, true, false, false]) (I x) ex s') (x : α) (hx : Inv x) :
    CodeOk Try.prog 108 677 (kAt (kOf Try.prog Try.f15) [true, true, true, false, true, false]) (I x) ex s' := by
  have hk : (kAt (kOf Try.prog Try.f15) [true, true, true, false, true, false]) = .loop (kAt (kOf Try.prog Try.f15) [true, true, true, false, true, false, false]) := by kernel_rfl
  rw [hk]
  exact CodeOk.loop I Inv μ hex step x hx
noncomputable def LGz0 (rr cw : Nat) (X : Nat → Nat → Int) (rr2 cw2 : Nat) (ro2 co2 : Int) (hi2 : Bool) (A B : Nat → Int) (nn MM : Nat → Nat) (G : Nat → Nat → Int) (N m : Nat) : S0 :=
  ⟨[(3, (.c (.ptr 21 0 0))), (4, (.c (.ptr 37 0 0))), (6, (.c (.ptr 581 0 0))), (44, (.c (.sl 3 0 0 m 3))), (45, (.c (.int .i64 (↑m)))), (5, (.c (.int .i64 0))), (46, (.c (.int .i64 0)))], [(1, (.one ⟨false, false, (.gen rr (fun j_ => (.sl 2 j_ 0 cw 4)))⟩)), (2, (.many (fun j_ => some ⟨false, false, (.ig (W.rl rr (cw * 4) j_) W.ck (fun p_ => (X j_ p_)))⟩))), (3, (.one ⟨false, false, (.row (N * 3) 3 (fun j_ => [(.int .i64 (A j_)), (.int .i64 (B j_)), (.sl 4 j_ 0 (nn j_) 4)]))⟩)), (4, (.many (fun j_ => some ⟨false, false, (.ig (MM j_ * 4) W.ck (fun p_ => (G j_ p_)))⟩))), (21, (.one ⟨true, true, (.cells [(.int .i64 (↑rr2)), (.int .i64 (↑cw2)), (.int .i64 ro2), (.int .i64 co2), (.bool hi2), (.sl 3 0 0 m 3)])⟩)), (37, (.one ⟨true, true, (.cells [(.int .i64 0), (.int .i64 0), .nils, (.int .i64 0), (.int .i64 0), (.bool (false))])⟩)), (453, (.one ⟨true, false, (.gen rr2 (fun j_ => (.sl 454 j_ 0 cw2 4)))⟩)), (454, (.many (fun j_ => some ⟨true, false, (.ig (W.rl rr2 (cw2 * 4) j_) W.ck (fun p_ => (W.frX rr cw (fun j_ p_ => X j_ p_) rr2 cw2 j_ p_)))⟩))), (581, (.one ⟨true, true, (.cells [(.int .i64 (↑rr2)), (.int .i64 (↑cw2)), (.sl 453 0 0 rr2 1), (.int .i64 ro2), (.int .i64 co2), (.bool hi2)])⟩))], 677⟩
theorem LGz_xtt (rr cw : Nat) (X : Nat → Nat → Int) (ro co : Int) (rr2 cw2 : Nat) (ro2 co2 : Int) (hi2 : Bool) (A B : Nat → Int) (nn MM : Nat → Nat) (G : Nat → Nat → Int) (N m i : Nat) (Z : Nat → Nat → Int)
    (hrr : 1 ≤ rr ∧ rr ≤ 60)
    (hcw : 1 ≤ cw ∧ cw ≤ 120)
    (hro : 0 ≤ ro ∧ ro < rr)
    (hco : 0 ≤ co ∧ co < cw)
    (hX : ∀ j, j < rr → W.okRow (X j) cw)
    (hrr2 : 1 ≤ rr2 ∧ rr2 ≤ 60)
    (hcw2 : 1 ≤ cw2 ∧ cw2 ≤ 120)
    (hro2 : 0 ≤ ro2 ∧ ro2 < rr2)
    (hco2 : 0 ≤ co2 ∧ co2 < cw2)
    (hm : m ≤ N)
    (hms : m ≤ 1048576)
    (hnM : ∀ j, nn j ≤ MM j)
    (hMs : ∀ j, MM j ≤ 1048576)
    (hA : ∀ j, -9223372036854775808 ≤ A j ∧ A j < 9223372036854775808)
    (hB : ∀ j, -9223372036854775808 ≤ B j ∧ B j < 9223372036854775808)
    (hil : i ≤ m)
    (h0 : ((↑i : Int) < (↑m : Int)))
    (h1 : ((↑(nn i) : Int) = (0 : Int))) :
    CodeOk Try.prog 108 677 (kAt (kOf Try.prog Try.f15) [true, true, true, false, true, false, false]) (LGzI rr cw X rr2 cw2 ro2 co2 hi2 A B nn MM G N m i Z) .ret ⟨[(3, (.c (.ptr 21 0 0))), (4, (.c (.ptr 37 0 0))), (6, (.c (.ptr 581 0 0))), (44, (.c (.sl 3 0 0 m 3))), (45, (.c (.int .i64 (↑m)))), (5, (.c (.int .i64 1))), (46, (.c (.int .i64 (↑i))))], [(1, (.one ⟨false, false, (.gen rr (fun j_ => (.sl 2 j_ 0 cw 4)))⟩)), (2, (.many (fun j_ => some ⟨false, false, (.ig (W.rl rr (cw * 4) j_) W.ck (fun p_ => (X j_ p_)))⟩))), (3, (.one ⟨false, false, (.row (N * 3) 3 (fun j_ => [(.int .i64 (A j_)), (.int .i64 (B j_)), (.sl 4 j_ 0 (nn j_) 4)]))⟩)), (4, (.many (fun j_ => some ⟨false, false, (.ig (MM j_ * 4) W.ck (fun p_ => (G j_ p_)))⟩))), (21, (.one ⟨true, true, (.cells [(.int .i64 (↑rr2)), (.int .i64 (↑cw2)), (.int .i64 ro2), (.int .i64 co2), (.bool hi2), (.sl 3 0 0 m 3)])⟩)), (37, (.one ⟨true, true, (.cells [(.int .i64 0), (.int .i64 0), .nils, (.int .i64 0), (.int .i64 0), (.bool (false))])⟩)), (453, (.one ⟨true, false, (.gen rr2 (fun j_ => (.sl 454 j_ 0 cw2 4)))⟩)), (454, (.many (fun j_ => some ⟨true, false, (.ig (W.rl rr2 (cw2 * 4) j_) W.ck (fun p_ => (Z j_ p_)))⟩))), (581, (.one ⟨true, true, (.cells [(.int .i64 (↑rr2)), (.int .i64 (↑cw2)), (.sl 453 0 0 rr2 1), (.int .i64 ro2), (.int .i64 co2), (.bool hi2)])⟩))], 693⟩ :=
  CodeOk.of_runs (fuel := 300) (v := ⟨[3, 4, 6, 44, 45, 5, 46], [1, 2, 3, 4, 21, 37, 453, 454, 581], [], 693⟩) (hs := [(0, ⟨.auto, some (.c (.bool (true)))⟩), (2, ⟨.ask, none⟩), (3, ⟨.ask, some (.agg [(.int .i64 (A i)), (.int .i64 (B i)), (.sl 4 i 0 (nn i) 4)])⟩), (12, ⟨.auto, some (.c (.bool (true)))⟩)])
    (cs := [EB ((↑(nn i) : Int) == 0) true,
      ((.agg ((List.range 3).map (fun j_ => recGet 3 (fun j_ => [(.int .i64 (A j_)), (.int .i64 (B j_)), (.sl 4 j_ 0 (nn j_) 4)]) (i * 3 + j_)))) : V) = (.agg [(.int .i64 (A i)), (.int .i64 (B i)), (.sl 4 i 0 (nn i) 4)]),
      (i * (3 : Nat) + (3 : Nat) ≤ N * (3 : Nat)),
      ((0 : Int) ≤ (↑i : Int) ∧ (↑i : Int) < (↑m : Int)),
      EB (decide ((↑i : Int) < (↑m : Int))) true])
    mixed (by kernel_rfl) ⟨.mk (beq_t h1), EV.recs rfl, (by omega), (by omega), .mk (decide_eq_true h0), trivial⟩
theorem LGz_xtft (rr cw : Nat) (X : Nat → Nat → Int) (ro co : Int) (rr2 cw2 : Nat) (ro2 co2 : Int) (hi2 : Bool) (A B : Nat → Int) (nn MM : Nat → Nat) (G : Nat → Nat → Int) (N m i : Nat) (Z : Nat → Nat → Int)
    (hrr : 1 ≤ rr ∧ rr ≤ 60)
    (hcw : 1 ≤ cw ∧ cw ≤ 120)
    (hro : 0 ≤ ro ∧ ro < rr)
    (hco : 0 ≤ co ∧ co < cw)
    (hX : ∀ j, j < rr → W.okRow (X j) cw)
    (hrr2 : 1 ≤ rr2 ∧ rr2 ≤ 60)
    (hcw2 : 1 ≤ cw2 ∧ cw2 ≤ 120)
    (hro2 : 0 ≤ ro2 ∧ ro2 < rr2)
    (hco2 : 0 ≤ co2 ∧ co2 < cw2)
    (hm : m ≤ N)
    (hms : m ≤ 1048576)
    (hnM : ∀ j, nn j ≤ MM j)
    (hMs : ∀ j, MM j ≤ 1048576)
    (hA : ∀ j, -9223372036854775808 ≤ A j ∧ A j < 9223372036854775808)
    (hB : ∀ j, -9223372036854775808 ≤ B j ∧ B j < 9223372036854775808)
    (hil : i ≤ m)
    (h0 : ((↑i : Int) < (↑m : Int)))
    (h1 : (¬(↑(nn i) : Int) = (0 : Int)))
    (h2 : (A i < (0 : Int))) :
    CodeOk Try.prog 108 677 (kAt (kOf Try.prog Try.f15) [true, true, true, false, true, false, false]) (LGzI rr cw X rr2 cw2 ro2 co2 hi2 A B nn MM G N m i Z) .ret ⟨[(3, (.c (.ptr 21 0 0))), (4, (.c (.ptr 37 0 0))), (6, (.c (.ptr 581 0 0))), (44, (.c (.sl 3 0 0 m 3))), (45, (.c (.int .i64 (↑m)))), (5, (.c (.int .i64 1))), (46, (.c (.int .i64 (↑i))))], [(1, (.one ⟨false, false, (.gen rr (fun j_ => (.sl 2 j_ 0 cw 4)))⟩)), (2, (.many (fun j_ => some ⟨false, false, (.ig (W.rl rr (cw * 4) j_) W.ck (fun p_ => (X j_ p_)))⟩))), (3, (.one ⟨false, false, (.row (N * 3) 3 (fun j_ => [(.int .i64 (A j_)), (.int .i64 (B j_)), (.sl 4 j_ 0 (nn j_) 4)]))⟩)), (4, (.many (fun j_ => some ⟨false, false, (.ig (MM j_ * 4) W.ck (fun p_ => (G j_ p_)))⟩))), (21, (.one ⟨true, true, (.cells [(.int .i64 (↑rr2)), (.int .i64 (↑cw2)), (.int .i64 ro2), (.int .i64 co2), (.bool hi2), (.sl 3 0 0 m 3)])⟩)), (37, (.one ⟨true, true, (.cells [(.int .i64 0), (.int .i64 0), .nils, (.int .i64 0), (.int .i64 0), (.bool (false))])⟩)), (453, (.one ⟨true, false, (.gen rr2 (fun j_ => (.sl 454 j_ 0 cw2 4)))⟩)), (454, (.many (fun j_ => some ⟨true, false, (.ig (W.rl rr2 (cw2 * 4) j_) W.ck (fun p_ => (Z j_ p_)))⟩))), (581, (.one ⟨true, true, (.cells [(.int .i64 (↑rr2)), (.int .i64 (↑cw2)), (.sl 453 0 0 rr2 1), (.int .i64 ro2), (.int .i64 co2), (.bool hi2)])⟩))], 693⟩ :=
  CodeOk.of_runs (fuel := 300) (v := ⟨[3, 4, 6, 44, 45, 5, 46], [1, 2, 3, 4, 21, 37, 453, 454, 581], [], 693⟩) (hs := [(0, ⟨.auto, some (.c (.bool (true)))⟩), (2, ⟨.ask, none⟩), (3, ⟨.ask, some (.agg [(.int .i64 (A i)), (.int .i64 (B i)), (.sl 4 i 0 (nn i) 4)])⟩), (12, ⟨.auto, some (.c (.bool (false)))⟩), (17, ⟨.auto, some (.c (.bool (true)))⟩)])
    (cs := [EB (decide (A i < 0)) true,
      EB ((↑(nn i) : Int) == 0) false,
      ((.agg ((List.range 3).map (fun j_ => recGet 3 (fun j_ => [(.int .i64 (A j_)), (.int .i64 (B j_)), (.sl 4 j_ 0 (nn j_) 4)]) (i * 3 + j_)))) : V) = (.agg [(.int .i64 (A i)), (.int .i64 (B i)), (.sl 4 i 0 (nn i) 4)]),
      (i * (3 : Nat) + (3 : Nat) ≤ N * (3 : Nat)),
      ((0 : Int) ≤ (↑i : Int) ∧ (↑i : Int) < (↑m : Int)),
      EB (decide ((↑i : Int) < (↑m : Int))) true])
    mixed (by kernel_rfl) ⟨.mk (decide_eq_true h2), .mk (beq_f h1), EV.recs rfl, (by omega), (by omega), .mk (decide_eq_true h0), trivial⟩
theorem LGz_xtfft (rr cw : Nat) (X : Nat → Nat → Int) (ro co : Int) (rr2 cw2 : Nat) (ro2 co2 : Int) (hi2 : Bool) (A B : Nat → Int) (nn MM : Nat → Nat) (G : Nat → Nat → Int) (N m i : Nat) (Z : Nat → Nat → Int)
    (hrr : 1 ≤ rr ∧ rr ≤ 60)
    (hcw : 1 ≤ cw ∧ cw ≤ 120)
    (hro : 0 ≤ ro ∧ ro < rr)
    (hco : 0 ≤ co ∧ co < cw)
    (hX : ∀ j, j < rr → W.okRow (X j) cw)
    (hrr2 : 1 ≤ rr2 ∧ rr2 ≤ 60)
    (hcw2 : 1 ≤ cw2 ∧ cw2 ≤ 120)
    (hro2 : 0 ≤ ro2 ∧ ro2 < rr2)
    (hco2 : 0 ≤ co2 ∧ co2 < cw2)
    (hm : m ≤ N)
    (hms : m ≤ 1048576)
    (hnM : ∀ j, nn j ≤ MM j)
    (hMs : ∀ j, MM j ≤ 1048576)
    (hA : ∀ j, -9223372036854775808 ≤ A j ∧ A j < 9223372036854775808)
    (hB : ∀ j, -9223372036854775808 ≤ B j ∧ B j < 9223372036854775808)
    (hil : i ≤ m)
    (h0 : ((↑i : Int) < (↑m : Int)))
    (h1 : (¬(↑(nn i) : Int) = (0 : Int)))
    (h2 : (¬A i < (0 : Int)))
    (h3 : (A i ≥ (↑rr2 : Int))) :
    CodeOk Try.prog 108 677 (kAt (kOf Try.prog Try.f15) [true, true, true, false, true, false, false]) (LGzI rr cw X rr2 cw2 ro2 co2 hi2 A B nn MM G N m i Z) .ret ⟨[(3, (.c (.ptr 21 0 0))), (4, (.c (.ptr 37 0 0))), (6, (.c (.ptr 581 0 0))), (44, (.c (.sl 3 0 0 m 3))), (45, (.c (.int .i64 (↑m)))), (5, (.c (.int .i64 1))), (46, (.c (.int .i64 (↑i))))], [(1, (.one ⟨false, false, (.gen rr (fun j_ => (.sl 2 j_ 0 cw 4)))⟩)), (2, (.many (fun j_ => some ⟨false, false, (.ig (W.rl rr (cw * 4) j_) W.ck (fun p_ => (X j_ p_)))⟩))), (3, (.one ⟨false, false, (.row (N * 3) 3 (fun j_ => [(.int .i64 (A j_)), (.int .i64 (B j_)), (.sl 4 j_ 0 (nn j_) 4)]))⟩)), (4, (.many (fun j_ => some ⟨false, false, (.ig (MM j_ * 4) W.ck (fun p_ => (G j_ p_)))⟩))), (21, (.one ⟨true, true, (.cells [(.int .i64 (↑rr2)), (.int .i64 (↑cw2)), (.int .i64 ro2), (.int .i64 co2), (.bool hi2), (.sl 3 0 0 m 3)])⟩)), (37, (.one ⟨true, true, (.cells [(.int .i64 0), (.int .i64 0), .nils, (.int .i64 0), (.int .i64 0), (.bool (false))])⟩)), (453, (.one ⟨true, false, (.gen rr2 (fun j_ => (.sl 454 j_ 0 cw2 4)))⟩)), (454, (.many (fun j_ => some ⟨true, false, (.ig (W.rl rr2 (cw2 * 4) j_) W.ck (fun p_ => (Z j_ p_)))⟩))), (581, (.one ⟨true, true, (.cells [(.int .i64 (↑rr2)), (.int .i64 (↑cw2)), (.sl 453 0 0 rr2 1), (.int .i64 ro2), (.int .i64 co2), (.bool hi2)])⟩))], 693⟩ :=
  CodeOk.of_runs (fuel := 300) (v := ⟨[3, 4, 6, 44, 45, 5, 46], [1, 2, 3, 4, 21, 37, 453, 454, 581], [], 693⟩) (hs := [(0, ⟨.auto, some (.c (.bool (true)))⟩), (2, ⟨.ask, none⟩), (3, ⟨.ask, some (.agg [(.int .i64 (A i)), (.int .i64 (B i)), (.sl 4 i 0 (nn i) 4)])⟩), (12, ⟨.auto, some (.c (.bool (false)))⟩), (17, ⟨.auto, some (.c (.bool (false)))⟩), (24, ⟨.auto, some (.c (.bool (true)))⟩)])
    (cs := [EB (decide (A i ≥ (↑rr2 : Int))) true,
      EB (decide (A i < 0)) false,
      EB ((↑(nn i) : Int) == 0) false,
      ((.agg ((List.range 3).map (fun j_ => recGet 3 (fun j_ => [(.int .i64 (A j_)), (.int .i64 (B j_)), (.sl 4 j_ 0 (nn j_) 4)]) (i * 3 + j_)))) : V) = (.agg [(.int .i64 (A i)), (.int .i64 (B i)), (.sl 4 i 0 (nn i) 4)]),
      (i * (3 : Nat) + (3 : Nat) ≤ N * (3 : Nat)),
      ((0 : Int) ≤ (↑i : Int) ∧ (↑i : Int) < (↑m : Int)),
      EB (decide ((↑i : Int) < (↑m : Int))) true])
    mixed (by kernel_rfl) ⟨.mk (decide_eq_true h3), .mk (decide_eq_false h2), .mk (beq_f h1), EV.recs rfl, (by omega), (by omega), .mk (decide_eq_true h0), trivial⟩
theorem LGz_xtffft (rr cw : Nat) (X : Nat → Nat → Int) (ro co : Int) (rr2 cw2 : Nat) (ro2 co2 : Int) (hi2 : Bool) (A B : Nat → Int) (nn MM : Nat → Nat) (G : Nat → Nat → Int) (N m i : Nat) (Z : Nat → Nat → Int)
    (hrr : 1 ≤ rr ∧ rr ≤ 60)
    (hcw : 1 ≤ cw ∧ cw ≤ 120)
    (hro : 0 ≤ ro ∧ ro < rr)
    (hco : 0 ≤ co ∧ co < cw)
    (hX : ∀ j, j < rr → W.okRow (X j) cw)
    (hrr2 : 1 ≤ rr2 ∧ rr2 ≤ 60)
    (hcw2 : 1 ≤ cw2 ∧ cw2 ≤ 120)
    (hro2 : 0 ≤ ro2 ∧ ro2 < rr2)
    (hco2 : 0 ≤ co2 ∧ co2 < cw2)
    (hm : m ≤ N)
    (hms : m ≤ 1048576)
    (hnM : ∀ j, nn j ≤ MM j)
    (hMs : ∀ j, MM j ≤ 1048576)
    (hA : ∀ j, -9223372036854775808 ≤ A j ∧ A j < 9223372036854775808)
    (hB : ∀ j, -9223372036854775808 ≤ B j ∧ B j < 9223372036854775808)
    (hil : i ≤ m)
    (h0 : ((↑i : Int) < (↑m : Int)))
    (h1 : (¬(↑(nn i) : Int) = (0 : Int)))
    (h2 : (¬A i < (0 : Int)))
    (h3 : (¬A i ≥ (↑rr2 : Int)))
    (h4 : (B i < (0 : Int))) :
    CodeOk Try.prog 108 677 (kAt (kOf Try.prog Try.f15) [true, true, true, false, true, false, false]) (LGzI rr cw X rr2 cw2 ro2 co2 hi2 A B nn MM G N m i Z) .ret ⟨[(3, (.c (.ptr 21 0 0))), (4, (.c (.ptr 37 0 0))), (6, (.c (.ptr 581 0 0))), (44, (.c (.sl 3 0 0 m 3))), (45, (.c (.int .i64 (↑m)))), (5, (.c (.int .i64 1))), (46, (.c (.int .i64 (↑i))))], [(1, (.one ⟨false, false, (.gen rr (fun j_ => (.sl 2 j_ 0 cw 4)))⟩)), (2, (.many (fun j_ => some ⟨false, false, (.ig (W.rl rr (cw * 4) j_) W.ck (fun p_ => (X j_ p_)))⟩))), (3, (.one ⟨false, false, (.row (N * 3) 3 (fun j_ => [(.int .i64 (A j_)), (.int .i64 (B j_)), (.sl 4 j_ 0 (nn j_) 4)]))⟩)), (4, (.many (fun j_ => some ⟨false, false, (.ig (MM j_ * 4) W.ck (fun p_ => (G j_ p_)))⟩))), (21, (.one ⟨true, true, (.cells [(.int .i64 (↑rr2)), (.int .i64 (↑cw2)), (.int .i64 ro2), (.int .i64 co2), (.bool hi2), (.sl 3 0 0 m 3)])⟩)), (37, (.one ⟨true, true, (.cells [(.int .i64 0), (.int .i64 0), .nils, (.int .i64 0), (.int .i64 0), (.bool (false))])⟩)), (453, (.one ⟨true, false, (.gen rr2 (fun j_ => (.sl 454 j_ 0 cw2 4)))⟩)), (454, (.many (fun j_ => some ⟨true, false, (.ig (W.rl rr2 (cw2 * 4) j_) W.ck (fun p_ => (Z j_ p_)))⟩))), (581, (.one ⟨true, true, (.cells [(.int .i64 (↑rr2)), (.int .i64 (↑cw2)), (.sl 453 0 0 rr2 1), (.int .i64 ro2), (.int .i64 co2), (.bool hi2)])⟩))], 693⟩ :=
  CodeOk.of_runs (fuel := 300) (v := ⟨[3, 4, 6, 44, 45, 5, 46], [1, 2, 3, 4, 21, 37, 453, 454, 581], [], 693⟩) (hs := [(0, ⟨.auto, some (.c (.bool (true)))⟩), (2, ⟨.ask, none⟩), (3, ⟨.ask, some (.agg [(.int .i64 (A i)), (.int .i64 (B i)), (.sl 4 i 0 (nn i) 4)])⟩), (12, ⟨.auto, some (.c (.bool (false)))⟩), (17, ⟨.auto, some (.c (.bool (false)))⟩), (24, ⟨.auto, some (.c (.bool (false)))⟩), (29, ⟨.auto, some (.c (.bool (true)))⟩)])
    (cs := [EB (decide (B i < 0)) true,
      EB (decide (A i ≥ (↑rr2 : Int))) false,
      EB (decide (A i < 0)) false,
      EB ((↑(nn i) : Int) == 0) false,
      ((.agg ((List.range 3).map (fun j_ => recGet 3 (fun j_ => [(.int .i64 (A j_)), (.int .i64 (B j_)), (.sl 4 j_ 0 (nn j_) 4)]) (i * 3 + j_)))) : V) = (.agg [(.int .i64 (A i)), (.int .i64 (B i)), (.sl 4 i 0 (nn i) 4)]),
      (i * (3 : Nat) + (3 : Nat) ≤ N * (3 : Nat)),
      ((0 : Int) ≤ (↑i : Int) ∧ (↑i : Int) < (↑m : Int)),
      EB (decide ((↑i : Int) < (↑m : Int))) true])
    mixed (by kernel_rfl) ⟨.mk (decide_eq_true h4), .mk (decide_eq_false h3), .mk (decide_eq_false h2), .mk (beq_f h1), EV.recs rfl, (by omega), (by omega), .mk (decide_eq_true h0), trivial⟩
theorem LGz_xtfffft (rr cw : Nat) (X : Nat → Nat → Int) (ro co : Int) (rr2 cw2 : Nat) (ro2 co2 : Int) (hi2 : Bool) (A B : Nat → Int) (nn MM : Nat → Nat) (G : Nat → Nat → Int) (N m i : Nat) (Z : Nat → Nat → Int)
    (hrr : 1 ≤ rr ∧ rr ≤ 60)
    (hcw : 1 ≤ cw ∧ cw ≤ 120)
    (hro : 0 ≤ ro ∧ ro < rr)
    (hco : 0 ≤ co ∧ co < cw)
    (hX : ∀ j, j < rr → W.okRow (X j) cw)
    (hrr2 : 1 ≤ rr2 ∧ rr2 ≤ 60)
    (hcw2 : 1 ≤ cw2 ∧ cw2 ≤ 120)
    (hro2 : 0 ≤ ro2 ∧ ro2 < rr2)
    (hco2 : 0 ≤ co2 ∧ co2 < cw2)
    (hm : m ≤ N)
    (hms : m ≤ 1048576)
    (hnM : ∀ j, nn j ≤ MM j)
    (hMs : ∀ j, MM j ≤ 1048576)
    (hA : ∀ j, -9223372036854775808 ≤ A j ∧ A j < 9223372036854775808)
    (hB : ∀ j, -9223372036854775808 ≤ B j ∧ B j < 9223372036854775808)
    (hil : i ≤ m)
    (h0 : ((↑i : Int) < (↑m : Int)))
    (h1 : (¬(↑(nn i) : Int) = (0 : Int)))
    (h2 : (¬A i < (0 : Int)))
    (h3 : (¬A i ≥ (↑rr2 : Int)))
    (h4 : (¬B i < (0 : Int)))
    (h5 : ((↑(nn i) : Int) > (↑cw2 : Int))) :
    CodeOk Try.prog 108 677 (kAt (kOf Try.prog Try.f15) [true, true, true, false, true, false, false]) (LGzI rr cw X rr2 cw2 ro2 co2 hi2 A B nn MM G N m i Z) .ret ⟨[(3, (.c (.ptr 21 0 0))), (4, (.c (.ptr 37 0 0))), (6, (.c (.ptr 581 0 0))), (44, (.c (.sl 3 0 0 m 3))), (45, (.c (.int .i64 (↑m)))), (5, (.c (.int .i64 1))), (46, (.c (.int .i64 (↑i))))], [(1, (.one ⟨false, false, (.gen rr (fun j_ => (.sl 2 j_ 0 cw 4)))⟩)), (2, (.many (fun j_ => some ⟨false, false, (.ig (W.rl rr (cw * 4) j_) W.ck (fun p_ => (X j_ p_)))⟩))), (3, (.one ⟨false, false, (.row (N * 3) 3 (fun j_ => [(.int .i64 (A j_)), (.int .i64 (B j_)), (.sl 4 j_ 0 (nn j_) 4)]))⟩)), (4, (.many (fun j_ => some ⟨false, false, (.ig (MM j_ * 4) W.ck (fun p_ => (G j_ p_)))⟩))), (21, (.one ⟨true, true, (.cells [(.int .i64 (↑rr2)), (.int .i64 (↑cw2)), (.int .i64 ro2), (.int .i64 co2), (.bool hi2), (.sl 3 0 0 m 3)])⟩)), (37, (.one ⟨true, true, (.cells [(.int .i64 0), (.int .i64 0), .nils, (.int .i64 0), (.int .i64 0), (.bool (false))])⟩)), (453, (.one ⟨true, false, (.gen rr2 (fun j_ => (.sl 454 j_ 0 cw2 4)))⟩)), (454, (.many (fun j_ => some ⟨true, false, (.ig (W.rl rr2 (cw2 * 4) j_) W.ck (fun p_ => (Z j_ p_)))⟩))), (581, (.one ⟨true, true, (.cells [(.int .i64 (↑rr2)), (.int .i64 (↑cw2)), (.sl 453 0 0 rr2 1), (.int .i64 ro2), (.int .i64 co2), (.bool hi2)])⟩))], 693⟩ :=
  CodeOk.of_runs (fuel := 300) (v := ⟨[3, 4, 6, 44, 45, 5, 46], [1, 2, 3, 4, 21, 37, 453, 454, 581], [], 693⟩) (hs := [(0, ⟨.auto, some (.c (.bool (true)))⟩), (2, ⟨.ask, none⟩), (3, ⟨.ask, some (.agg [(.int .i64 (A i)), (.int .i64 (B i)), (.sl 4 i 0 (nn i) 4)])⟩), (12, ⟨.auto, some (.c (.bool (false)))⟩), (17, ⟨.auto, some (.c (.bool (false)))⟩), (24, ⟨.auto, some (.c (.bool (false)))⟩), (29, ⟨.auto, some (.c (.bool (false)))⟩), (35, ⟨.auto, some (.c (.bool (true)))⟩)])
    (cs := [EB (decide ((↑(nn i) : Int) > (↑cw2 : Int))) true,
      EB (decide (B i < 0)) false,
      EB (decide (A i ≥ (↑rr2 : Int))) false,
      EB (decide (A i < 0)) false,
      EB ((↑(nn i) : Int) == 0) false,
      ((.agg ((List.range 3).map (fun j_ => recGet 3 (fun j_ => [(.int .i64 (A j_)), (.int .i64 (B j_)), (.sl 4 j_ 0 (nn j_) 4)]) (i * 3 + j_)))) : V) = (.agg [(.int .i64 (A i)), (.int .i64 (B i)), (.sl 4 i 0 (nn i) 4)]),
      (i * (3 : Nat) + (3 : Nat) ≤ N * (3 : Nat)),
      ((0 : Int) ≤ (↑i : Int) ∧ (↑i : Int) < (↑m : Int)),
      EB (decide ((↑i : Int) < (↑m : Int))) true])
    mixed (by kernel_rfl) ⟨.mk (decide_eq_true h5), .mk (decide_eq_false h4), .mk (decide_eq_false h3), .mk (decide_eq_false h2), .mk (beq_f h1), EV.recs rfl, (by omega), (by omega), .mk (decide_eq_true h0), trivial⟩
theorem LGz_xtffffft (rr cw : Nat) (X : Nat → Nat → Int) (ro co : Int) (rr2 cw2 : Nat) (ro2 co2 : Int) (hi2 : Bool) (A B : Nat → Int) (nn MM : Nat → Nat) (G : Nat → Nat → Int) (N m i : Nat) (Z : Nat → Nat → Int)
    (hrr : 1 ≤ rr ∧ rr ≤ 60)
    (hcw : 1 ≤ cw ∧ cw ≤ 120)
    (hro : 0 ≤ ro ∧ ro < rr)
    (hco : 0 ≤ co ∧ co < cw)
    (hX : ∀ j, j < rr → W.okRow (X j) cw)
    (hrr2 : 1 ≤ rr2 ∧ rr2 ≤ 60)
    (hcw2 : 1 ≤ cw2 ∧ cw2 ≤ 120)
    (hro2 : 0 ≤ ro2 ∧ ro2 < rr2)
    (hco2 : 0 ≤ co2 ∧ co2 < cw2)
    (hm : m ≤ N)
    (hms : m ≤ 1048576)
    (hnM : ∀ j, nn j ≤ MM j)
    (hMs : ∀ j, MM j ≤ 1048576)
    (hA : ∀ j, -9223372036854775808 ≤ A j ∧ A j < 9223372036854775808)
    (hB : ∀ j, -9223372036854775808 ≤ B j ∧ B j < 9223372036854775808)
    (hil : i ≤ m)
    (h0 : ((↑i : Int) < (↑m : Int)))
    (h1 : (¬(↑(nn i) : Int) = (0 : Int)))
    (h2 : (¬A i < (0 : Int)))
    (h3 : (¬A i ≥ (↑rr2 : Int)))
    (h4 : (¬B i < (0 : Int)))
    (h5 : (¬(↑(nn i) : Int) > (↑cw2 : Int)))
    (h6 : (B i > (↑(cw2 - nn i) : Int))) :
    CodeOk Try.prog 108 677 (kAt (kOf Try.prog Try.f15) [true, true, true, false, true, false, false]) (LGzI rr cw X rr2 cw2 ro2 co2 hi2 A B nn MM G N m i Z) .ret ⟨[(3, (.c (.ptr 21 0 0))), (4, (.c (.ptr 37 0 0))), (6, (.c (.ptr 581 0 0))), (44, (.c (.sl 3 0 0 m 3))), (45, (.c (.int .i64 (↑m)))), (5, (.c (.int .i64 1))), (46, (.c (.int .i64 (↑i))))], [(1, (.one ⟨false, false, (.gen rr (fun j_ => (.sl 2 j_ 0 cw 4)))⟩)), (2, (.many (fun j_ => some ⟨false, false, (.ig (W.rl rr (cw * 4) j_) W.ck (fun p_ => (X j_ p_)))⟩))), (3, (.one ⟨false, false, (.row (N * 3) 3 (fun j_ => [(.int .i64 (A j_)), (.int .i64 (B j_)), (.sl 4 j_ 0 (nn j_) 4)]))⟩)), (4, (.many (fun j_ => some ⟨false, false, (.ig (MM j_ * 4) W.ck (fun p_ => (G j_ p_)))⟩))), (21, (.one ⟨true, true, (.cells [(.int .i64 (↑rr2)), (.int .i64 (↑cw2)), (.int .i64 ro2), (.int .i64 co2), (.bool hi2), (.sl 3 0 0 m 3)])⟩)), (37, (.one ⟨true, true, (.cells [(.int .i64 0), (.int .i64 0), .nils, (.int .i64 0), (.int .i64 0), (.bool (false))])⟩)), (453, (.one ⟨true, false, (.gen rr2 (fun j_ => (.sl 454 j_ 0 cw2 4)))⟩)), (454, (.many (fun j_ => some ⟨true, false, (.ig (W.rl rr2 (cw2 * 4) j_) W.ck (fun p_ => (Z j_ p_)))⟩))), (581, (.one ⟨true, true, (.cells [(.int .i64 (↑rr2)), (.int .i64 (↑cw2)), (.sl 453 0 0 rr2 1), (.int .i64 ro2), (.int .i64 co2), (.bool hi2)])⟩))], 693⟩ :=
  CodeOk.of_runs (fuel := 300) (v := ⟨[3, 4, 6, 44, 45, 5, 46], [1, 2, 3, 4, 21, 37, 453, 454, 581], [], 693⟩) (hs := [(0, ⟨.auto, some (.c (.bool (true)))⟩), (2, ⟨.ask, none⟩), (3, ⟨.ask, some (.agg [(.int .i64 (A i)), (.int .i64 (B i)), (.sl 4 i 0 (nn i) 4)])⟩), (12, ⟨.auto, some (.c (.bool (false)))⟩), (17, ⟨.auto, some (.c (.bool (false)))⟩), (24, ⟨.auto, some (.c (.bool (false)))⟩), (29, ⟨.auto, some (.c (.bool (false)))⟩), (35, ⟨.auto, some (.c (.bool (false)))⟩), (41, ⟨.auto, some (.c (.int .i64 (↑(cw2 - nn i))))⟩), (44, ⟨.auto, some (.c (.bool (true)))⟩)])
    (cs := [EB (decide (B i > (↑(cw2 - nn i) : Int))) true,
      EI .i64 (IntKind.wrap IntKind.i64 ((↑cw2 : Int) - (↑(nn i) : Int))) ((↑(cw2 - nn i) : Int)),
      EB (decide ((↑(nn i) : Int) > (↑cw2 : Int))) false,
      EB (decide (B i < 0)) false,
      EB (decide (A i ≥ (↑rr2 : Int))) false,
      EB (decide (A i < 0)) false,
      EB ((↑(nn i) : Int) == 0) false,
      ((.agg ((List.range 3).map (fun j_ => recGet 3 (fun j_ => [(.int .i64 (A j_)), (.int .i64 (B j_)), (.sl 4 j_ 0 (nn j_) 4)]) (i * 3 + j_)))) : V) = (.agg [(.int .i64 (A i)), (.int .i64 (B i)), (.sl 4 i 0 (nn i) 4)]),
      (i * (3 : Nat) + (3 : Nat) ≤ N * (3 : Nat)),
      ((0 : Int) ≤ (↑i : Int) ∧ (↑i : Int) < (↑m : Int)),
      EB (decide ((↑i : Int) < (↑m : Int))) true])
    mixed (by kernel_rfl) ⟨.mk (decide_eq_true h6), .mk (by simp only [addO_eq, mulE_eq, mulE_one, Int.toNat_natCast, IntKind.wrap_i64, mmin, mmax]; omega), .mk (decide_eq_false h5), .mk (decide_eq_false h4), .mk (decide_eq_false h3), .mk (decide_eq_false h2), .mk (beq_f h1), EV.recs rfl, (by omega), (by omega), .mk (decide_eq_true h0), trivial⟩
theorem LGz_rtfffffft (rr cw : Nat) (X : Nat → Nat → Int) (ro co : Int) (rr2 cw2 : Nat) (ro2 co2 : Int) (hi2 : Bool) (A B : Nat → Int) (nn MM : Nat → Nat) (G : Nat → Nat → Int) (N m i : Nat) (Z : Nat → Nat → Int)
    (hrr : 1 ≤ rr ∧ rr ≤ 60)
    (hcw : 1 ≤ cw ∧ cw ≤ 120)
    (hro : 0 ≤ ro ∧ ro < rr)
    (hco : 0 ≤ co ∧ co < cw)
    (hX : ∀ j, j < rr → W.okRow (X j) cw)
    (hrr2 : 1 ≤ rr2 ∧ rr2 ≤ 60)
    (hcw2 : 1 ≤ cw2 ∧ cw2 ≤ 120)
    (hro2 : 0 ≤ ro2 ∧ ro2 < rr2)
    (hco2 : 0 ≤ co2 ∧ co2 < cw2)
    (hm : m ≤ N)
    (hms : m ≤ 1048576)
    (hnM : ∀ j, nn j ≤ MM j)
    (hMs : ∀ j, MM j ≤ 1048576)
    (hA : ∀ j, -9223372036854775808 ≤ A j ∧ A j < 9223372036854775808)
    (hB : ∀ j, -9223372036854775808 ≤ B j ∧ B j < 9223372036854775808)
    (hil : i ≤ m)
    (h0 : ((↑i : Int) < (↑m : Int)))
    (h1 : (¬(↑(nn i) : Int) = (0 : Int)))
    (h2 : (¬A i < (0 : Int)))
    (h3 : (¬A i ≥ (↑rr2 : Int)))
    (h4 : (¬B i < (0 : Int)))
    (h5 : (¬(↑(nn i) : Int) > (↑cw2 : Int)))
    (h6 : (¬B i > (↑(cw2 - nn i) : Int)))
    (h7 : (W.okRB (fun p_ => G i p_) (nn i) = true))
    (c8 : ((0 : Nat) + nn i * (4 : Nat) ≤ MM i * (4 : Nat) ∧ Int.toNat (B i) * (4 : Nat) + Int.toNat ((↑cw2 : Int) - B i) * (4 : Nat) ≤ W.rl rr2 (cw2 * (4 : Nat)) (Int.toNat (A i)))) :
    CodeOk Try.prog 108 677 (kAt (kOf Try.prog Try.f15) [true, true, true, false, true, false, false]) (LGzI rr cw X rr2 cw2 ro2 co2 hi2 A B nn MM G N m i Z) .normal ⟨[(3, (.c (.ptr 21 0 0))), (4, (.c (.ptr 37 0 0))), (6, (.c (.ptr 581 0 0))), (44, (.c (.sl 3 0 0 m 3))), (45, (.c (.int .i64 (↑m)))), (5, (.c (.int .i64 0))), (46, (.c (.int .i64 (↑(i + 1)))))], [(1, (.one ⟨false, false, (.gen rr (fun j_ => (.sl 2 j_ 0 cw 4)))⟩)), (2, (.many (fun j_ => some ⟨false, false, (.ig (W.rl rr (cw * 4) j_) W.ck (fun p_ => (X j_ p_)))⟩))), (3, (.one ⟨false, false, (.row (N * 3) 3 (fun j_ => [(.int .i64 (A j_)), (.int .i64 (B j_)), (.sl 4 j_ 0 (nn j_) 4)]))⟩)), (4, (.many (fun j_ => some ⟨false, false, (.ig (MM j_ * 4) W.ck (fun p_ => (G j_ p_)))⟩))), (21, (.one ⟨true, true, (.cells [(.int .i64 (↑rr2)), (.int .i64 (↑cw2)), (.int .i64 ro2), (.int .i64 co2), (.bool hi2), (.sl 3 0 0 m 3)])⟩)), (37, (.one ⟨true, true, (.cells [(.int .i64 0), (.int .i64 0), .nils, (.int .i64 0), (.int .i64 0), (.bool (false))])⟩)), (453, (.one ⟨true, false, (.gen rr2 (fun j_ => (.sl 454 j_ 0 cw2 4)))⟩)), (454, (.many (renF [] 677 (updF (fun j_ => some ⟨true, false, (.ig (W.rl rr2 (cw2 * 4) j_) W.ck (fun p_ => (Z j_ p_)))⟩) (Int.toNat (A i)) ⟨true, false, (.ig (W.rl rr2 (cw2 * 4) (Int.toNat (A i))) (fun p_ => (bif inR (Int.toNat (B i) * 4) (min (nn i) (Int.toNat ((↑cw2 : Int) - B i)) * 4) p_ then W.ck (p_ - Int.toNat (B i) * 4 + 0 + 0) else W.ck p_)) (fun p_ => (bif inR (Int.toNat (B i) * 4) (min (nn i) (Int.toNat ((↑cw2 : Int) - B i)) * 4) p_ then G i (p_ - Int.toNat (B i) * 4 + 0 + 0) else Z (Int.toNat (A i)) p_)))⟩)))), (581, (.one ⟨true, true, (.cells [(.int .i64 (↑rr2)), (.int .i64 (↑cw2)), (.sl 453 0 0 rr2 1), (.int .i64 ro2), (.int .i64 co2), (.bool hi2)])⟩))], 693⟩ :=
  CodeOk.of_runs (fuel := 300) (v := ⟨[3, 4, 6, 44, 45, 5, 46], [1, 2, 3, 4, 21, 37, 453, 454, 581], [], 693⟩) (hs := [(0, ⟨.auto, some (.c (.bool (true)))⟩), (2, ⟨.ask, none⟩), (3, ⟨.ask, some (.agg [(.int .i64 (A i)), (.int .i64 (B i)), (.sl 4 i 0 (nn i) 4)])⟩), (12, ⟨.auto, some (.c (.bool (false)))⟩), (17, ⟨.auto, some (.c (.bool (false)))⟩), (24, ⟨.auto, some (.c (.bool (false)))⟩), (29, ⟨.auto, some (.c (.bool (false)))⟩), (35, ⟨.auto, some (.c (.bool (false)))⟩), (41, ⟨.auto, some (.c (.int .i64 (↑(cw2 - nn i))))⟩), (44, ⟨.auto, some (.c (.bool (false)))⟩), (47, ⟨.call [4] (.c (.bool (W.okRB (fun p_ => G i p_) (nn i)))) [] [], none⟩), (49, ⟨.auto, some (.c (.bool (false)))⟩), (55, ⟨.ask, none⟩), (56, ⟨.ask, none⟩), (59, ⟨.ask, none⟩), (62, ⟨.ask, some (.c (.int .i64 (↑(nn i))))⟩), (63, ⟨.auto, some (.c (.int .i64 (↑(i + 1))))⟩)])
    (cs := [EI .i64 (IntKind.wrap IntKind.i64 ((↑i : Int) + 1)) ((↑(i + 1) : Int)),
      EI .i64 ((↑(min (nn i) (Int.toNat ((↑cw2 : Int) - B i))) : Int)) ((↑(nn i) : Int)),
      ((0 : Nat) + nn i * (4 : Nat) ≤ MM i * (4 : Nat) ∧ Int.toNat (B i) * (4 : Nat) + Int.toNat ((↑cw2 : Int) - B i) * (4 : Nat) ≤ W.rl rr2 (cw2 * (4 : Nat)) (Int.toNat (A i))),
      ((0 : Int) ≤ B i ∧ B i ≤ (↑cw2 : Int) ∧ (↑cw2 : Int) ≤ (↑cw2 : Int)),
      (Int.toNat (A i) + (1 : Nat) ≤ rr2),
      ((0 : Int) ≤ A i ∧ A i < (↑rr2 : Int)),
      EB (!W.okRB (fun p_ => G i p_) (nn i)) false,
      Contract Try.prog 33 [(.c (.sl 4 i 0 (nn i) 4))] [(4, (.many (fun j_ => some ⟨false, false, (.ig (MM j_ * 4) W.ck (fun p_ => (G j_ p_)))⟩)))] 1429 (.c (.bool (W.okRB (fun p_ => G i p_) (nn i)))) [] [],
      EB (decide (B i > (↑(cw2 - nn i) : Int))) false,
      EI .i64 (IntKind.wrap IntKind.i64 ((↑cw2 : Int) - (↑(nn i) : Int))) ((↑(cw2 - nn i) : Int)),
      EB (decide ((↑(nn i) : Int) > (↑cw2 : Int))) false,
      EB (decide (B i < 0)) false,
      EB (decide (A i ≥ (↑rr2 : Int))) false,
      EB (decide (A i < 0)) false,
      EB ((↑(nn i) : Int) == 0) false,
      ((.agg ((List.range 3).map (fun j_ => recGet 3 (fun j_ => [(.int .i64 (A j_)), (.int .i64 (B j_)), (.sl 4 j_ 0 (nn j_) 4)]) (i * 3 + j_)))) : V) = (.agg [(.int .i64 (A i)), (.int .i64 (B i)), (.sl 4 i 0 (nn i) 4)]),
      (i * (3 : Nat) + (3 : Nat) ≤ N * (3 : Nat)),
      ((0 : Int) ≤ (↑i : Int) ∧ (↑i : Int) < (↑m : Int)),
      EB (decide ((↑i : Int) < (↑m : Int))) true])
    mixed (by kernel_rfl) ⟨.mk (by simp only [addO_eq, mulE_eq, mulE_one, Int.toNat_natCast, IntKind.wrap_i64, mmin, mmax]; omega), .mk (by omega), c8, (by omega), (by omega), (by omega), .mk (not_f h7), ContractN.fin (ContractN.famB (bd := (.ig (MM i * 4) W.ck (fun p_ => (G i p_)))) (ex := false) (args1 := [(.c (.sl 1444 0 0 (nn i) 4))]) 1444 4 i (Contract0.instN (cells_any (fun p_ => G i p_) (nn i) (MM i * 4) (by exact Nat.mul_le_mul_right 4 (hnM _)) (by omega)) [.b 1444 1 true []] [none] [] [] (by kernel_rfl) (by kernel_rfl) (by kernel_rfl) (by kernel_rfl) (by kernel_rfl)) (by kernel_rfl) (by kernel_rfl) (by kernel_rfl) (by kernel_rfl) (by kernel_rfl) (by kernel_rfl)) (by kernel_rfl), .mk (decide_eq_false h6), .mk (by simp only [addO_eq, mulE_eq, mulE_one, Int.toNat_natCast, IntKind.wrap_i64, mmin, mmax]; omega), .mk (decide_eq_false h5), .mk (decide_eq_false h4), .mk (decide_eq_false h3), .mk (decide_eq_false h2), .mk (beq_f h1), EV.recs rfl, (by omega), (by omega), .mk (decide_eq_true h0), trivial⟩
theorem LGz_xtfffffff (rr cw : Nat) (X : Nat → Nat → Int) (ro co : Int) (rr2 cw2 : Nat) (ro2 co2 : Int) (hi2 : Bool) (A B : Nat → Int) (nn MM : Nat → Nat) (G : Nat → Nat → Int) (N m i : Nat) (Z : Nat → Nat → Int)
    (hrr : 1 ≤ rr ∧ rr ≤ 60)
    (hcw : 1 ≤ cw ∧ cw ≤ 120)
    (hro : 0 ≤ ro ∧ ro < rr)
    (hco : 0 ≤ co ∧ co < cw)
    (hX : ∀ j, j < rr → W.okRow (X j) cw)
    (hrr2 : 1 ≤ rr2 ∧ rr2 ≤ 60)
    (hcw2 : 1 ≤ cw2 ∧ cw2 ≤ 120)
    (hro2 : 0 ≤ ro2 ∧ ro2 < rr2)
    (hco2 : 0 ≤ co2 ∧ co2 < cw2)
    (hm : m ≤ N)
    (hms : m ≤ 1048576)
    (hnM : ∀ j, nn j ≤ MM j)
    (hMs : ∀ j, MM j ≤ 1048576)
    (hA : ∀ j, -9223372036854775808 ≤ A j ∧ A j < 9223372036854775808)
    (hB : ∀ j, -9223372036854775808 ≤ B j ∧ B j < 9223372036854775808)
    (hil : i ≤ m)
    (h0 : ((↑i : Int) < (↑m : Int)))
    (h1 : (¬(↑(nn i) : Int) = (0 : Int)))
    (h2 : (¬A i < (0 : Int)))
    (h3 : (¬A i ≥ (↑rr2 : Int)))
    (h4 : (¬B i < (0 : Int)))
    (h5 : (¬(↑(nn i) : Int) > (↑cw2 : Int)))
    (h6 : (¬B i > (↑(cw2 - nn i) : Int)))
    (h7 : (¬W.okRB (fun p_ => G i p_) (nn i) = true)) :
    CodeOk Try.prog 108 677 (kAt (kOf Try.prog Try.f15) [true, true, true, false, true, false, false]) (LGzI rr cw X rr2 cw2 ro2 co2 hi2 A B nn MM G N m i Z) .ret ⟨[(3, (.c (.ptr 21 0 0))), (4, (.c (.ptr 37 0 0))), (6, (.c (.ptr 581 0 0))), (44, (.c (.sl 3 0 0 m 3))), (45, (.c (.int .i64 (↑m)))), (5, (.c (.int .i64 1))), (46, (.c (.int .i64 (↑i))))], [(1, (.one ⟨false, false, (.gen rr (fun j_ => (.sl 2 j_ 0 cw 4)))⟩)), (2, (.many (fun j_ => some ⟨false, false, (.ig (W.rl rr (cw * 4) j_) W.ck (fun p_ => (X j_ p_)))⟩))), (3, (.one ⟨false, false, (.row (N * 3) 3 (fun j_ => [(.int .i64 (A j_)), (.int .i64 (B j_)), (.sl 4 j_ 0 (nn j_) 4)]))⟩)), (4, (.many (fun j_ => some ⟨false, false, (.ig (MM j_ * 4) W.ck (fun p_ => (G j_ p_)))⟩))), (21, (.one ⟨true, true, (.cells [(.int .i64 (↑rr2)), (.int .i64 (↑cw2)), (.int .i64 ro2), (.int .i64 co2), (.bool hi2), (.sl 3 0 0 m 3)])⟩)), (37, (.one ⟨true, true, (.cells [(.int .i64 0), (.int .i64 0), .nils, (.int .i64 0), (.int .i64 0), (.bool (false))])⟩)), (453, (.one ⟨true, false, (.gen rr2 (fun j_ => (.sl 454 j_ 0 cw2 4)))⟩)), (454, (.many (fun j_ => some ⟨true, false, (.ig (W.rl rr2 (cw2 * 4) j_) W.ck (fun p_ => (Z j_ p_)))⟩))), (581, (.one ⟨true, true, (.cells [(.int .i64 (↑rr2)), (.int .i64 (↑cw2)), (.sl 453 0 0 rr2 1), (.int .i64 ro2), (.int .i64 co2), (.bool hi2)])⟩))], 693⟩ :=
  CodeOk.of_runs (fuel := 300) (v := ⟨[3, 4, 6, 44, 45, 5, 46], [1, 2, 3, 4, 21, 37, 453, 454, 581], [], 693⟩) (hs := [(0, ⟨.auto, some (.c (.bool (true)))⟩), (2, ⟨.ask, none⟩), (3, ⟨.ask, some (.agg [(.int .i64 (A i)), (.int .i64 (B i)), (.sl 4 i 0 (nn i) 4)])⟩), (12, ⟨.auto, some (.c (.bool (false)))⟩), (17, ⟨.auto, some (.c (.bool (false)))⟩), (24, ⟨.auto, some (.c (.bool (false)))⟩), (29, ⟨.auto, some (.c (.bool (false)))⟩), (35, ⟨.auto, some (.c (.bool (false)))⟩), (41, ⟨.auto, some (.c (.int .i64 (↑(cw2 - nn i))))⟩), (44, ⟨.auto, some (.c (.bool (false)))⟩), (47, ⟨.call [4] (.c (.bool (W.okRB (fun p_ => G i p_) (nn i)))) [] [], none⟩), (49, ⟨.auto, some (.c (.bool (true)))⟩)])
    (cs := [EB (!W.okRB (fun p_ => G i p_) (nn i)) true,
      Contract Try.prog 33 [(.c (.sl 4 i 0 (nn i) 4))] [(4, (.many (fun j_ => some ⟨false, false, (.ig (MM j_ * 4) W.ck (fun p_ => (G j_ p_)))⟩)))] 1429 (.c (.bool (W.okRB (fun p_ => G i p_) (nn i)))) [] [],
      EB (decide (B i > (↑(cw2 - nn i) : Int))) false,
      EI .i64 (IntKind.wrap IntKind.i64 ((↑cw2 : Int) - (↑(nn i) : Int))) ((↑(cw2 - nn i) : Int)),
      EB (decide ((↑(nn i) : Int) > (↑cw2 : Int))) false,
      EB (decide (B i < 0)) false,
      EB (decide (A i ≥ (↑rr2 : Int))) false,
      EB (decide (A i < 0)) false,
      EB ((↑(nn i) : Int) == 0) false,
      ((.agg ((List.range 3).map (fun j_ => recGet 3 (fun j_ => [(.int .i64 (A j_)), (.int .i64 (B j_)), (.sl 4 j_ 0 (nn j_) 4)]) (i * 3 + j_)))) : V) = (.agg [(.int .i64 (A i)), (.int .i64 (B i)), (.sl 4 i 0 (nn i) 4)]),
      (i * (3 : Nat) + (3 : Nat) ≤ N * (3 : Nat)),
      ((0 : Int) ≤ (↑i : Int) ∧ (↑i : Int) < (↑m : Int)),
      EB (decide ((↑i : Int) < (↑m : Int))) true])
    mixed (by kernel_rfl) ⟨.mk (not_t (Bool.eq_false_iff.2 h7)), ContractN.fin (ContractN.famB (bd := (.ig (MM i * 4) W.ck (fun p_ => (G i p_)))) (ex := false) (args1 := [(.c (.sl 1444 0 0 (nn i) 4))]) 1444 4 i (Contract0.instN (cells_any (fun p_ => G i p_) (nn i) (MM i * 4) (by exact Nat.mul_le_mul_right 4 (hnM _)) (by omega)) [.b 1444 1 true []] [none] [] [] (by kernel_rfl) (by kernel_rfl) (by kernel_rfl) (by kernel_rfl) (by kernel_rfl)) (by kernel_rfl) (by kernel_rfl) (by kernel_rfl) (by kernel_rfl) (by kernel_rfl) (by kernel_rfl)) (by kernel_rfl), .mk (decide_eq_false h6), .mk (by simp only [addO_eq, mulE_eq, mulE_one, Int.toNat_natCast, IntKind.wrap_i64, mmin, mmax]; omega), .mk (decide_eq_false h5), .mk (decide_eq_false h4), .mk (decide_eq_false h3), .mk (decide_eq_false h2), .mk (beq_f h1), EV.recs rfl, (by omega), (by omega), .mk (decide_eq_true h0), trivial⟩
theorem LGz_xf (rr cw : Nat) (X : Nat → Nat → Int) (ro co : Int) (rr2 cw2 : Nat) (ro2 co2 : Int) (hi2 : Bool) (A B : Nat → Int) (nn MM : Nat → Nat) (G : Nat → Nat → Int) (N m i : Nat) (Z : Nat → Nat → Int)
    (hrr : 1 ≤ rr ∧ rr ≤ 60)
    (hcw : 1 ≤ cw ∧ cw ≤ 120)
    (hro : 0 ≤ ro ∧ ro < rr)
    (hco : 0 ≤ co ∧ co < cw)
    (hX : ∀ j, j < rr → W.okRow (X j) cw)
    (hrr2 : 1 ≤ rr2 ∧ rr2 ≤ 60)
    (hcw2 : 1 ≤ cw2 ∧ cw2 ≤ 120)
    (hro2 : 0 ≤ ro2 ∧ ro2 < rr2)
    (hco2 : 0 ≤ co2 ∧ co2 < cw2)
    (hm : m ≤ N)
    (hms : m ≤ 1048576)
    (hnM : ∀ j, nn j ≤ MM j)
    (hMs : ∀ j, MM j ≤ 1048576)
    (hA : ∀ j, -9223372036854775808 ≤ A j ∧ A j < 9223372036854775808)
    (hB : ∀ j, -9223372036854775808 ≤ B j ∧ B j < 9223372036854775808)
    (hil : i ≤ m)
    (h0 : (¬(↑i : Int) < (↑m : Int))) :
    CodeOk Try.prog 108 677 (kAt (kOf Try.prog Try.f15) [true, true, true, false, true, false, false]) (LGzI rr cw X rr2 cw2 ro2 co2 hi2 A B nn MM G N m i Z) (.exit 0) (LGzI rr cw X rr2 cw2 ro2 co2 hi2 A B nn MM G N m i (fun j_ p_ => Z j_ p_)) :=
  CodeOk.of_runs (fuel := 300) (v := ⟨[3, 4, 6, 44, 45, 5, 46], [1, 2, 3, 4, 21, 37, 453, 454, 581], [], 693⟩) (hs := [(0, ⟨.auto, some (.c (.bool (false)))⟩)])
    (cs := [EB (decide ((↑i : Int) < (↑m : Int))) false])
    mixed (by kernel_rfl) ⟨.mk (decide_eq_false h0), trivial⟩
end Go.Proofs.Ytohleiikedpmkaa.Vm

namespace Go.Proofs.Ytohleiikedpmkaa.W
open Go Go.Proofs.Ytohleiikedpmkaa.Vm
def okRun (rr2 cw2 : Nat) (a b : Int) (n : Nat) (g : Nat → Int) : Prop := 1 ≤ n ∧ 0 ≤ a ∧ a < (rr2 : Int) ∧ 0 ≤ b ∧ (n : Int) ≤ (cw2 : Int) ∧ b + (n : Int) ≤ (cw2 : Int) ∧ okRB g n = true
def apG (A B : Nat → Int) (nn : Nat → Nat) (G Z : Nat → Nat → Int) : Nat → Nat → Nat → Int
  | 0 => Z
  | i + 1 => fun j p => bif Nat.beq j (A i).toNat && inR ((B i).toNat * 4) (nn i * 4) p then G i (p - (B i).toNat * 4) else apG A B nn G Z i j p
end Go.Proofs.Ytohleiikedpmkaa.W
namespace Go.Proofs.Ytohleiikedpmkaa.Vm
open Go Go.Proofs Go.Proofs.Ytohleiikedpmkaa
theorem apg_step (rr cw : Nat) (X : Nat → Nat → Int) (rr2 cw2 : Nat) (ro2 co2 : Int) (hi2 : Bool) (A B : Nat → Int) (nn MM : Nat → Nat) (G : Nat → Nat → Int) (N m : Nat) (i : Nat) (Z : Nat → Nat → Int)
    (hrr : 1 ≤ rr ∧ rr ≤ 60)
    (hcw : 1 ≤ cw ∧ cw ≤ 120)
    (hX : ∀ j, j < rr → W.okRow (X j) cw)
    (hrr2 : 1 ≤ rr2 ∧ rr2 ≤ 60)
    (hcw2 : 1 ≤ cw2 ∧ cw2 ≤ 120)
    (hro2 : 0 ≤ ro2 ∧ ro2 < rr2)
    (hco2 : 0 ≤ co2 ∧ co2 < cw2)
    (hm : m ≤ N)
    (hms : m ≤ 1048576)
    (hnM : ∀ j, nn j ≤ MM j)
    (hMs : ∀ j, MM j ≤ 1048576)
    (hA : ∀ j, -9223372036854775808 ≤ A j ∧ A j < 9223372036854775808)
    (hB : ∀ j, -9223372036854775808 ≤ B j ∧ B j < 9223372036854775808)
    (h0 : (i : Int) < (m : Int)) (hq : W.okRun rr2 cw2 (A i) (B i) (nn i) (G i)) :
    CodeOk Try.prog 108 677 (kAt (kOf Try.prog Try.f15) [true, true, true, false, true, false, false]) (LGzI rr cw X rr2 cw2 ro2 co2 hi2 A B nn MM G N m i (W.apG A B nn G Z i)) .normal (LGzI rr cw X rr2 cw2 ro2 co2 hi2 A B nn MM G N m (i + 1) (W.apG A B nn G Z (i + 1))) := by
  have hro : (0 : Int) ≤ 0 ∧ (0 : Int) < rr := by omega
  have hco : (0 : Int) ≤ 0 ∧ (0 : Int) < cw := by omega
  obtain ⟨q1, q2, q3, q4, q5, q6, q7⟩ := hq
  have hr : W.rl rr2 (cw2 * 4) (A i).toNat = cw2 * 4 := rl_lt (by omega)
  refine (LGz_rtfffffft rr cw X 0 0 rr2 cw2 ro2 co2 hi2 A B nn MM G N m i (W.apG A B nn G Z i) hrr hcw hro hco hX hrr2 hcw2 hro2 hco2 hm hms hnM hMs hA hB (by omega) h0 (by omega) (by omega) (by omega) (by omega) (by omega) (by omega) q7 (by rw [hr]; have := hnM i; constructor <;> omega)).move (Move.same (by decide) (by decide) (by decide) rfl ?_)
  refine ⟨SameB.refl rfl, fun j k e => SameB.refl e, SameB.refl rfl, fun j k e => SameB.refl e, SameB.refl rfl, SameB.refl rfl, SameB.refl rfl, ?_, SameB.refl rfl, trivial⟩
  intro j k e
  injection e with e
  subst e
  have hmin : min (nn i) (Int.toNat ((cw2 : Int) - B i)) = nn i := Nat.min_eq_left (by omega)
  by_cases hj : j = (A i).toNat
  · subst hj
    refine SameB.ig (((renF_upd _).trans (by rw [Nat.beq_refl]; rfl))) (fun h => h) (fun p _ => ?_) (fun p _ => ?_)
    · rw [hmin]
      cases hR : inR ((B i).toNat * 4) (nn i * 4) p with
      | false => rfl
      | true =>
        have h1 := inR_iff.1 hR
        show W.ck (p - (B i).toNat * 4 + 0 + 0) = W.ck p
        unfold W.ck
        rw [show (p - (B i).toNat * 4 + 0 + 0) % 4 = p % 4 by omega]
    · show _ = (bif Nat.beq (A i).toNat (A i).toNat && inR ((B i).toNat * 4) (nn i * 4) p then G i (p - (B i).toNat * 4) else W.apG A B nn G Z i (A i).toNat p)
      rw [hmin, Nat.beq_refl, Bool.true_and]
      rfl
  · refine SameB.ig (((renF_upd _).trans (by rw [beqF hj]; rfl))) (fun h => h) (fun p _ => rfl) (fun p _ => ?_)
    show _ = (bif Nat.beq j (A i).toNat && inR ((B i).toNat * 4) (nn i * 4) p then G i (p - (B i).toNat * 4) else W.apG A B nn G Z i j p)
    rw [beqF hj, Bool.false_and]
    rfl
theorem apg_ok (rr cw : Nat) (X : Nat → Nat → Int) (rr2 cw2 : Nat) (ro2 co2 : Int) (hi2 : Bool) (A B : Nat → Int) (nn MM : Nat → Nat) (G : Nat → Nat → Int) (N m : Nat)
    (hrr : 1 ≤ rr ∧ rr ≤ 60)
    (hcw : 1 ≤ cw ∧ cw ≤ 120)
    (hX : ∀ j, j < rr → W.okRow (X j) cw)
    (hrr2 : 1 ≤ rr2 ∧ rr2 ≤ 60)
    (hcw2 : 1 ≤ cw2 ∧ cw2 ≤ 120)
    (hro2 : 0 ≤ ro2 ∧ ro2 < rr2)
    (hco2 : 0 ≤ co2 ∧ co2 < cw2)
    (hm : m ≤ N)
    (hms : m ≤ 1048576)
    (hnM : ∀ j, nn j ≤ MM j)
    (hMs : ∀ j, MM j ≤ 1048576)
    (hA : ∀ j, -9223372036854775808 ≤ A j ∧ A j < 9223372036854775808)
    (hB : ∀ j, -9223372036854775808 ≤ B j ∧ B j < 9223372036854775808)
    (hE : ∀ i, i < m → W.okRun rr2 cw2 (A i) (B i) (nn i) (G i)) :
    CodeOk Try.prog 108 677 (kAt (kOf Try.prog Try.f15) [true, true, true, false, true, false]) (LGz0 rr cw X rr2 cw2 ro2 co2 hi2 A B nn MM G N m) (.exit 0) (LGzI rr cw X rr2 cw2 ro2 co2 hi2 A B nn MM G N m m (W.apG A B nn G (W.frX rr cw X rr2 cw2) m)) := by
  have hro : (0 : Int) ≤ 0 ∧ (0 : Int) < rr := by omega
  have hco : (0 : Int) ≤ 0 ∧ (0 : Int) < cw := by omega
  have h : CodeOk Try.prog 108 677 (kAt (kOf Try.prog Try.f15) [true, true, true, false, true, false]) (LGzI rr cw X rr2 cw2 ro2 co2 hi2 A B nn MM G N m 0 (W.apG A B nn G (W.frX rr cw X rr2 cw2) 0)) (.exit 0) (LGzI rr cw X rr2 cw2 ro2 co2 hi2 A B nn MM G N m m (W.apG A B nn G (W.frX rr cw X rr2 cw2) m)) := by
    generalize W.frX rr cw X rr2 cw2 = Z
    refine LGz_by (fun i => LGzI rr cw X rr2 cw2 ro2 co2 hi2 A B nn MM G N m i (W.apG A B nn G Z i)) (fun i => i ≤ m) (fun i => m - i) (by simp) ?_ 0 (Nat.zero_le _)
    intro i hi
    by_cases h0 : (i : Int) < (m : Int)
    · exact .inl ⟨i + 1, by omega, by omega, apg_step rr cw X rr2 cw2 ro2 co2 hi2 A B nn MM G N m i Z hrr hcw hX hrr2 hcw2 hro2 hco2 hm hms hnM hMs hA hB h0 (hE i (by omega))⟩
    · have e : i = m := by omega
      have x := LGz_xf rr cw X 0 0 rr2 cw2 ro2 co2 hi2 A B nn MM G N m i (W.apG A B nn G Z i) hrr hcw hro hco hX hrr2 hcw2 hro2 hco2 hm hms hnM hMs hA hB hi h0
      refine .inr ?_
      rw [e] at x ⊢
      exact x
  refine CodeOk.enter (Move.same (by decide) (by decide) (by decide) rfl ?_) h
  exact ⟨SameB.refl rfl, fun j k e => SameB.refl e, SameB.refl rfl, fun j k e => SameB.refl e, SameB.refl rfl, SameB.refl rfl, SameB.refl rfl, fun j k e => SameB.refl e, SameB.refl rfl, trivial⟩
theorem apg_bad (rr cw : Nat) (X : Nat → Nat → Int) (rr2 cw2 : Nat) (ro2 co2 : Int) (hi2 : Bool) (A B : Nat → Int) (nn MM : Nat → Nat) (G : Nat → Nat → Int) (N m : Nat)
    (hrr : 1 ≤ rr ∧ rr ≤ 60)
    (hcw : 1 ≤ cw ∧ cw ≤ 120)
    (hX : ∀ j, j < rr → W.okRow (X j) cw)
    (hrr2 : 1 ≤ rr2 ∧ rr2 ≤ 60)
    (hcw2 : 1 ≤ cw2 ∧ cw2 ≤ 120)
    (hro2 : 0 ≤ ro2 ∧ ro2 < rr2)
    (hco2 : 0 ≤ co2 ∧ co2 < cw2)
    (hm : m ≤ N)
    (hms : m ≤ 1048576)
    (hnM : ∀ j, nn j ≤ MM j)
    (hMs : ∀ j, MM j ≤ 1048576)
    (hA : ∀ j, -9223372036854775808 ≤ A j ∧ A j < 9223372036854775808)
    (hB : ∀ j, -9223372036854775808 ≤ B j ∧ B j < 9223372036854775808)
    (hD : ¬ ∀ i, i < m → W.okRun rr2 cw2 (A i) (B i) (nn i) (G i)) :
    CodeOk Try.prog 108 677 (kAt (kOf Try.prog Try.f15) [true, true, true, false, true, false]) (LGz0 rr cw X rr2 cw2 ro2 co2 hi2 A B nn MM G N m) .ret ⟨[(4, (.c (.ptr 37 0 0))), (5, (.c (.int .i64 1)))], [(37, (.one ⟨true, true, (.cells [(.int .i64 0), (.int .i64 0), .nils, (.int .i64 0), (.int .i64 0), (.bool (false))])⟩))], 693⟩ := by
  have hro : (0 : Int) ≤ 0 ∧ (0 : Int) < rr := by omega
  have hco : (0 : Int) ≤ 0 ∧ (0 : Int) < cw := by omega
  have h : CodeOk Try.prog 108 677 (kAt (kOf Try.prog Try.f15) [true, true, true, false, true, false]) (LGzI rr cw X rr2 cw2 ro2 co2 hi2 A B nn MM G N m 0 (W.apG A B nn G (W.frX rr cw X rr2 cw2) 0)) .ret ⟨[(4, (.c (.ptr 37 0 0))), (5, (.c (.int .i64 1)))], [(37, (.one ⟨true, true, (.cells [(.int .i64 0), (.int .i64 0), .nils, (.int .i64 0), (.int .i64 0), (.bool (false))])⟩))], 693⟩ := by
    generalize W.frX rr cw X rr2 cw2 = Z
    refine LGz_by (fun i => LGzI rr cw X rr2 cw2 ro2 co2 hi2 A B nn MM G N m i (W.apG A B nn G Z i)) (fun i => i ≤ m ∧ ∀ k, k < i → W.okRun rr2 cw2 (A k) (B k) (nn k) (G k)) (fun i => m - i) (by simp) ?_ 0 ⟨Nat.zero_le _, fun k hk => by omega⟩
    intro i ⟨hi, he⟩
    by_cases h0 : (i : Int) < (m : Int)
    · skip
      by_cases g0 : (nn i : Int) = 0
      · exact .inr ((LGz_xtt rr cw X 0 0 rr2 cw2 ro2 co2 hi2 A B nn MM G N m i (W.apG A B nn G Z i) hrr hcw hro hco hX hrr2 hcw2 hro2 hco2 hm hms hnM hMs hA hB hi h0 g0).move (Move.less (by decide) (by decide) (by decide) rfl ⟨rfl, rfl, trivial⟩ ⟨SameB.refl rfl, trivial⟩))
      by_cases g1 : A i < 0
      · exact .inr ((LGz_xtft rr cw X 0 0 rr2 cw2 ro2 co2 hi2 A B nn MM G N m i (W.apG A B nn G Z i) hrr hcw hro hco hX hrr2 hcw2 hro2 hco2 hm hms hnM hMs hA hB hi h0 g0 g1).move (Move.less (by decide) (by decide) (by decide) rfl ⟨rfl, rfl, trivial⟩ ⟨SameB.refl rfl, trivial⟩))
      by_cases g2 : A i ≥ (rr2 : Int)
      · exact .inr ((LGz_xtfft rr cw X 0 0 rr2 cw2 ro2 co2 hi2 A B nn MM G N m i (W.apG A B nn G Z i) hrr hcw hro hco hX hrr2 hcw2 hro2 hco2 hm hms hnM hMs hA hB hi h0 g0 g1 g2).move (Move.less (by decide) (by decide) (by decide) rfl ⟨rfl, rfl, trivial⟩ ⟨SameB.refl rfl, trivial⟩))
      by_cases g3 : B i < 0
      · exact .inr ((LGz_xtffft rr cw X 0 0 rr2 cw2 ro2 co2 hi2 A B nn MM G N m i (W.apG A B nn G Z i) hrr hcw hro hco hX hrr2 hcw2 hro2 hco2 hm hms hnM hMs hA hB hi h0 g0 g1 g2 g3).move (Move.less (by decide) (by decide) (by decide) rfl ⟨rfl, rfl, trivial⟩ ⟨SameB.refl rfl, trivial⟩))
      by_cases g4 : (nn i : Int) > (cw2 : Int)
      · exact .inr ((LGz_xtfffft rr cw X 0 0 rr2 cw2 ro2 co2 hi2 A B nn MM G N m i (W.apG A B nn G Z i) hrr hcw hro hco hX hrr2 hcw2 hro2 hco2 hm hms hnM hMs hA hB hi h0 g0 g1 g2 g3 g4).move (Move.less (by decide) (by decide) (by decide) rfl ⟨rfl, rfl, trivial⟩ ⟨SameB.refl rfl, trivial⟩))
      by_cases g5 : B i > ((cw2 - nn i : Nat) : Int)
      · exact .inr ((LGz_xtffffft rr cw X 0 0 rr2 cw2 ro2 co2 hi2 A B nn MM G N m i (W.apG A B nn G Z i) hrr hcw hro hco hX hrr2 hcw2 hro2 hco2 hm hms hnM hMs hA hB hi h0 g0 g1 g2 g3 g4 g5).move (Move.less (by decide) (by decide) (by decide) rfl ⟨rfl, rfl, trivial⟩ ⟨SameB.refl rfl, trivial⟩))
      by_cases g7 : W.okRB (G i) (nn i) = true
      · exact .inl ⟨i + 1, ⟨by omega, fun k hk => by
          by_cases e : k = i
          · rw [e]; exact ⟨by omega, by omega, by omega, by omega, by omega, by omega, g7⟩
          · exact he k (by omega)⟩, by omega, apg_step rr cw X rr2 cw2 ro2 co2 hi2 A B nn MM G N m i Z hrr hcw hX hrr2 hcw2 hro2 hco2 hm hms hnM hMs hA hB h0 ⟨by omega, by omega, by omega, by omega, by omega, by omega, g7⟩⟩
      · exact .inr ((LGz_xtfffffff rr cw X 0 0 rr2 cw2 ro2 co2 hi2 A B nn MM G N m i (W.apG A B nn G Z i) hrr hcw hro hco hX hrr2 hcw2 hro2 hco2 hm hms hnM hMs hA hB hi h0 g0 g1 g2 g3 g4 g5 g7).move (Move.less (by decide) (by decide) (by decide) rfl ⟨rfl, rfl, trivial⟩ ⟨SameB.refl rfl, trivial⟩))
    · have e : i = m := by omega
      rw [e] at he
      exact absurd he hD
  refine CodeOk.enter (Move.same (by decide) (by decide) (by decide) rfl ?_) h
  exact ⟨SameB.refl rfl, fun j k e => SameB.refl e, SameB.refl rfl, fun j k e => SameB.refl e, SameB.refl rfl, SameB.refl rfl, SameB.refl rfl, fun j k e => SameB.refl e, SameB.refl rfl, trivial⟩
end Go.Proofs.Ytohleiikedpmkaa.Vm

namespace Go.Proofs.Ytohleiikedpmkaa.Vm
open Go Go.Proofs Go.Proofs.Ytohleiikedpmkaa
set_option maxRecDepth 100000
noncomputable def LVgI (rr cw : Nat) (X X2 : Nat → Nat → Int) (i : Nat) : S0 :=
  ⟨[(0, (.c (.sl 1 0 0 rr 1))), (1, (.c (.sl 3 0 0 rr 1))), (4, (.c (.bool (false)))), (5, (.c (.int .i64 (i : Int))))], [(1, (.one ⟨false, false, (.gen rr (fun j_ => (.sl 2 j_ 0 cw 4)))⟩)), (2, (.many (fun j_ => some ⟨false, false, (.ig (W.rl rr (cw * 4) j_) W.ck (fun p_ => (X j_ p_)))⟩))), (3, (.one ⟨false, false, (.gen rr (fun j_ => (.sl 4 j_ 0 cw 4)))⟩)), (4, (.many (fun j_ => some ⟨false, false, (.ig (W.rl rr (cw * 4) j_) W.ck (fun p_ => (X2 j_ p_)))⟩)))], 133⟩
theorem LVg_by {α : Type} (I : α → S0) (Inv : α → Prop) (μ : α → Nat) {ex : Ex} {s' : S0} (hex : ex ≠ .normal)
    (step : ∀ x, Inv x → (∃ y, Inv y ∧ μ y < μ x ∧ CodeOk Try.prog 53 117 (kAt (kOf Try.prog Try.f36) [true, true, false, true, false, false]) (I x) .normal (I y)) ∨ CodeOk Try.prog 53 117 (kAt (kOf Try.prog Try.f36) [true, true, false, true, false, false]) (I x) ex s') (x : α) (hx : Inv x) :
    CodeOk Try.prog 53 117 (kAt (kOf Try.prog Try.f36) [true, true, false, true, false]) (I x) ex s' := by
  have hk : (kAt (kOf Try.prog Try.f36) [true, true, false, true, false]) = .loop (kAt (kOf Try.prog Try.f36) [true, true, false, true, false, false]) := by kernel_rfl
  rw [hk]
  exact CodeOk.loop I Inv μ hex step x hx
noncomputable def LVg0 (rr cw : Nat) (X X2 : Nat → Nat → Int) : S0 :=
  ⟨[(0, (.c (.sl 1 0 0 rr 1))), (1, (.c (.sl 3 0 0 rr 1))), (4, (.c (.bool (false)))), (5, (.c (.int .i64 0)))], [(1, (.one ⟨false, false, (.gen rr (fun j_ => (.sl 2 j_ 0 cw 4)))⟩)), (2, (.many (fun j_ => some ⟨false, false, (.ig (W.rl rr (cw * 4) j_) W.ck (fun p_ => (X j_ p_)))⟩))), (3, (.one ⟨false, false, (.gen rr (fun j_ => (.sl 4 j_ 0 cw 4)))⟩)), (4, (.many (fun j_ => some ⟨false, false, (.ig (W.rl rr (cw * 4) j_) W.ck (fun p_ => (X2 j_ p_)))⟩)))], 117⟩
theorem LVg_rt (rr cw : Nat) (X X2 : Nat → Nat → Int) (i : Nat)
    (hrr : 1 ≤ rr ∧ rr ≤ 60)
    (hcw : 1 ≤ cw ∧ cw ≤ 120)
    (hil : i ≤ rr)
    (hE : i < rr → ∀ p, p < cw * 4 → X i p = X2 i p)
    (h0 : ((↑i : Int) < (↑rr : Int))) :
    CodeOk Try.prog 53 117 (kAt (kOf Try.prog Try.f36) [true, true, false, true, false, false]) (LVgI rr cw X X2 i) .normal (LVgI rr cw X X2 (i + 1)) :=
  CodeOk.of_runs (fuel := 300) (v := ⟨[0, 1, 4, 5], [1, 2, 3, 4], [], 133⟩) (hs := [(3, ⟨.auto, some (.c (.bool (true)))⟩), (7, ⟨.ask, none⟩), (8, ⟨.ask, none⟩), (12, ⟨.ask, none⟩), (13, ⟨.ask, none⟩), (15, ⟨.auto, some (.c (.bool (false)))⟩), (18, ⟨.sum ⟨[0, 1, 5, 4, 6], [1, 2, 3, 4], [], 100016⟩ (.exit 2) (LVfI rr cw X X2 i cw), none⟩), (20, ⟨.auto, some (.c (.int .i64 (↑(i + 1))))⟩)])
    (cs := [EI .i64 (IntKind.wrap IntKind.i64 ((↑i : Int) + 1)) ((↑(i + 1) : Int)),
      CodeOk Try.prog 53 389 (kAt (kOf Try.prog Try.f36) [true, true, false, true, false, false, true, false, false, true, true, false]) (LVfI rr cw X X2 i 0) (.exit 2) (LVfI rr cw X X2 i cw),
      EB ((↑cw : Int) != (↑cw : Int)) false,
      (i + (1 : Nat) ≤ rr),
      ((0 : Int) ≤ (↑i : Int) ∧ (↑i : Int) < (↑rr : Int)),
      (i + (1 : Nat) ≤ rr),
      ((0 : Int) ≤ (↑i : Int) ∧ (↑i : Int) < (↑rr : Int)),
      EB (decide ((↑i : Int) < (↑rr : Int))) true])
    mixed (by kernel_rfl) ⟨.mk (by simp only [addO_eq, mulE_eq, mulE_one, Int.toNat_natCast, IntKind.wrap_i64, mmin, mmax]; omega), (CodeOk.mono (sla_eq rr cw X X2 i (by omega) (by omega) (by omega) (by exact hE (by omega))) (by decide)), .mk (bne_f (Decidable.of_not_not (by omega))), (by omega), (by omega), (by omega), (by omega), .mk (decide_eq_true h0), trivial⟩
theorem LVg_xf (rr cw : Nat) (X X2 : Nat → Nat → Int) (i : Nat)
    (hrr : 1 ≤ rr ∧ rr ≤ 60)
    (hcw : 1 ≤ cw ∧ cw ≤ 120)
    (hil : i ≤ rr)
    (hE : i < rr → ∀ p, p < cw * 4 → X i p = X2 i p)
    (h0 : (¬(↑i : Int) < (↑rr : Int))) :
    CodeOk Try.prog 53 117 (kAt (kOf Try.prog Try.f36) [true, true, false, true, false, false]) (LVgI rr cw X X2 i) (.exit 0) (LVgI rr cw X X2 i) :=
  CodeOk.of_runs (fuel := 300) (v := ⟨[0, 1, 4, 5], [1, 2, 3, 4], [], 133⟩) (hs := [(3, ⟨.auto, some (.c (.bool (false)))⟩)])
    (cs := [EB (decide ((↑i : Int) < (↑rr : Int))) false])
    mixed (by kernel_rfl) ⟨.mk (decide_eq_false h0), trivial⟩
noncomputable def LVhI (rr cw : Nat) (X X2 : Nat → Nat → Int) (i : Nat) : S0 :=
  ⟨[(0, (.c (.sl 1 0 0 rr 1))), (1, (.c (.sl 3 0 0 rr 1))), (4, (.c (.bool (false)))), (5, (.c (.int .i64 (i : Int))))], [(1, (.one ⟨false, false, (.gen rr (fun j_ => (.sl 2 j_ 0 cw 4)))⟩)), (2, (.many (fun j_ => some ⟨false, false, (.ig (W.rl rr (cw * 4) j_) W.ck (fun p_ => (X j_ p_)))⟩))), (3, (.one ⟨false, false, (.gen rr (fun j_ => (.sl 4 j_ 0 cw 4)))⟩)), (4, (.many (fun j_ => some ⟨false, false, (.ig (W.rl rr (cw * 4) j_) W.ck (fun p_ => (X2 j_ p_)))⟩)))], 133⟩
theorem LVh_xt (rr cw : Nat) (X X2 : Nat → Nat → Int) (i : Nat)
    (hrr : 1 ≤ rr ∧ rr ≤ 60)
    (hcw : 1 ≤ cw ∧ cw ≤ 120)
    (hil : i ≤ rr)
    (hD : i < rr → ¬ ∀ p, p < cw * 4 → X i p = X2 i p)
    (h0 : ((↑i : Int) < (↑rr : Int))) :
    CodeOk Try.prog 53 117 (kAt (kOf Try.prog Try.f36) [true, true, false, true, false, false]) (LVhI rr cw X X2 i) .ret ⟨[(4, (.c (.bool (false))))], [], 133⟩ :=
  CodeOk.of_runs (fuel := 300) (v := ⟨[4], [1, 2, 3, 4], [], 133⟩) (hs := [(3, ⟨.auto, some (.c (.bool (true)))⟩), (7, ⟨.ask, none⟩), (8, ⟨.ask, none⟩), (12, ⟨.ask, none⟩), (13, ⟨.ask, none⟩), (15, ⟨.auto, some (.c (.bool (false)))⟩), (18, ⟨.sum ⟨[0, 1, 5, 4, 6], [1, 2, 3, 4], [], 100016⟩ (.ret) ({ tm := [(4, V.c (C.bool false))], me := [], nx := 100016 }), none⟩)])
    (cs := [CodeOk Try.prog 53 389 (kAt (kOf Try.prog Try.f36) [true, true, false, true, false, false, true, false, false, true, true, false]) (LVfI rr cw X X2 i 0) (.ret) ({ tm := [(4, V.c (C.bool false))], me := [], nx := 100016 }),
      EB ((↑cw : Int) != (↑cw : Int)) false,
      (i + (1 : Nat) ≤ rr),
      ((0 : Int) ≤ (↑i : Int) ∧ (↑i : Int) < (↑rr : Int)),
      (i + (1 : Nat) ≤ rr),
      ((0 : Int) ≤ (↑i : Int) ∧ (↑i : Int) < (↑rr : Int)),
      EB (decide ((↑i : Int) < (↑rr : Int))) true])
    mixed (by kernel_rfl) ⟨(CodeOk.mono (sla_ne rr cw X X2 i (by omega) (by omega) (by omega) (by exact hD (by omega))) (by decide)), .mk (bne_f (Decidable.of_not_not (by omega))), (by omega), (by omega), (by omega), (by omega), .mk (decide_eq_true h0), trivial⟩
end Go.Proofs.Ytohleiikedpmkaa.Vm

namespace Go.Proofs.Ytohleiikedpmkaa.Vm
open Go Go.Proofs Go.Proofs.Ytohleiikedpmkaa
theorem slo_eq (rr cw : Nat) (X X2 : Nat → Nat → Int) (hrr : 1 ≤ rr ∧ rr ≤ 60) (hcw : 1 ≤ cw ∧ cw ≤ 120) (hE : ∀ j, j < rr → ∀ p, p < cw * 4 → X j p = X2 j p) :
    CodeOk Try.prog 53 117 (kAt (kOf Try.prog Try.f36) [true, true, false, true, false]) (LVg0 rr cw X X2) (.exit 0) (LVgI rr cw X X2 rr) := by
  have h : CodeOk Try.prog 53 117 (kAt (kOf Try.prog Try.f36) [true, true, false, true, false]) (LVgI rr cw X X2 0) (.exit 0) (LVgI rr cw X X2 rr) := by
    refine LVg_by (fun i => LVgI rr cw X X2 i) (fun i => i ≤ rr) (fun i => rr - i) (by simp) ?_ 0 (Nat.zero_le _)
    intro i hi
    by_cases h0 : (i : Int) < (rr : Int)
    · exact .inl ⟨i + 1, by omega, by omega, LVg_rt rr cw X X2 i hrr hcw hi (fun h => hE i h) h0⟩
    · have e : i = rr := by omega
      have x := LVg_xf rr cw X X2 i hrr hcw hi (fun h => hE i h) h0
      refine .inr ?_
      rw [e] at x ⊢
      exact x
  refine CodeOk.enter (Move.same (by decide) (by decide) (by decide) rfl ?_) h
  exact ⟨SameB.refl rfl, fun j k e => SameB.refl e, SameB.refl rfl, fun j k e => SameB.refl e, trivial⟩
theorem slo_ne (rr cw : Nat) (X X2 : Nat → Nat → Int) (hrr : 1 ≤ rr ∧ rr ≤ 60) (hcw : 1 ≤ cw ∧ cw ≤ 120) (hD : ¬ ∀ j, j < rr → ∀ p, p < cw * 4 → X j p = X2 j p) :
    CodeOk Try.prog 53 117 (kAt (kOf Try.prog Try.f36) [true, true, false, true, false]) (LVg0 rr cw X X2) .ret ⟨[(4, (.c (.bool (false))))], [], 133⟩ := by
  have h : CodeOk Try.prog 53 117 (kAt (kOf Try.prog Try.f36) [true, true, false, true, false]) (LVgI rr cw X X2 0) .ret ⟨[(4, (.c (.bool (false))))], [], 133⟩ := by
    refine LVg_by (fun i => LVgI rr cw X X2 i) (fun i => i ≤ rr ∧ ∀ j, j < i → ∀ p, p < cw * 4 → X j p = X2 j p) (fun i => rr - i) (by simp) ?_ 0 ⟨Nat.zero_le _, fun j hj => by omega⟩
    intro i ⟨hi, he⟩
    by_cases h0 : (i : Int) < (rr : Int)
    · by_cases h1 : ∀ p, p < cw * 4 → X i p = X2 i p
      · exact .inl ⟨i + 1, ⟨by omega, fun j hj => by
          by_cases e : j = i
          · rw [e]; exact h1
          · exact he j (by omega)⟩, by omega, LVg_rt rr cw X X2 i hrr hcw hi (fun _ => h1) h0⟩
      · exact .inr (LVh_xt rr cw X X2 i hrr hcw hi (fun _ => h1) h0)
    · have e : i = rr := by omega
      rw [e] at he
      exact absurd he hD
  refine CodeOk.enter (Move.same (by decide) (by decide) (by decide) rfl ?_) h
  exact ⟨SameB.refl rfl, fun j k e => SameB.refl e, SameB.refl rfl, fun j k e => SameB.refl e, trivial⟩
end Go.Proofs.Ytohleiikedpmkaa.Vm

namespace Go.Proofs.Ytohleiikedpmkaa.Vm
open Go Go.Proofs Go.Proofs.Ytohleiikedpmkaa
set_option maxRecDepth 100000
theorem sl_t (rr cw : Nat) (X X2 : Nat → Nat → Int)
    (hrr : 1 ≤ rr ∧ rr ≤ 60)
    (hcw : 1 ≤ cw ∧ cw ≤ 120)
    (hE : ∀ j, j < rr → ∀ p, p < cw * 4 → X j p = X2 j p) :
    Contract0 Try.prog 36 [(.c (.sl 1 0 0 rr 1)), (.c (.sl 3 0 0 rr 1))] [(1, (.one ⟨false, false, (.gen rr (fun j_ => (.sl 2 j_ 0 cw 4)))⟩)), (2, (.many (fun j_ => some ⟨false, false, (.ig (W.rl rr (cw * 4) j_) W.ck (fun p_ => (X j_ p_)))⟩))), (3, (.one ⟨false, false, (.gen rr (fun j_ => (.sl 4 j_ 0 cw 4)))⟩)), (4, (.many (fun j_ => some ⟨false, false, (.ig (W.rl rr (cw * 4) j_) W.ck (fun p_ => (X2 j_ p_)))⟩)))] 5 (.c (.bool (true))) [] [] :=
  Contract0.of_frunF (res := (.c (.bool (true)))) (up := []) (kill := []) (n0 := 5) (m := [(1, (.one ⟨false, false, (.gen rr (fun j_ => (.sl 2 j_ 0 cw 4)))⟩)), (2, (.many (fun j_ => some ⟨false, false, (.ig (W.rl rr (cw * 4) j_) W.ck (fun p_ => (X j_ p_)))⟩))), (3, (.one ⟨false, false, (.gen rr (fun j_ => (.sl 4 j_ 0 cw 4)))⟩)), (4, (.many (fun j_ => some ⟨false, false, (.ig (W.rl rr (cw * 4) j_) W.ck (fun p_ => (X2 j_ p_)))⟩)))]) (args := [(.c (.sl 1 0 0 rr 1)), (.c (.sl 3 0 0 rr 1))]) (fn := Try.f36) (c := bodyOf Try.f36) (fuel := 300) (k := kOf Try.prog Try.f36) (outs := []) (hs := [(5, ⟨.auto, some (.c (.bool (false)))⟩), (8, ⟨.sum ⟨[0, 1, 4, 5], [1, 2, 3, 4], [], 117⟩ (.exit 0) (LVgI rr cw X X2 rr), none⟩)])
    (cs := [CodeOk Try.prog 53 117 (kAt (kOf Try.prog Try.f36) [true, true, false, true, false]) (LVg0 rr cw X X2) (.exit 0) (LVgI rr cw X X2 rr),
      EB ((↑rr : Int) != (↑rr : Int)) false])
    mixed Try.func36 (by kernel_rfl) (by kernel_rfl) (by kernel_rfl) ⟨rfl, (.inr (RoF.of (fun _ => rfl))), rfl, (.inr (RoF.of (fun _ => rfl))), trivial⟩ (by kernel_rfl) ⟨(slo_eq rr cw X X2 (by omega) (by omega) (by omega)), .mk (bne_f (Decidable.of_not_not (by omega))), trivial⟩
theorem sl_n (rr cw : Nat) (X X2 : Nat → Nat → Int)
    (hrr : 1 ≤ rr ∧ rr ≤ 60)
    (hcw : 1 ≤ cw ∧ cw ≤ 120)
    (hE : ¬ ∀ j, j < rr → ∀ p, p < cw * 4 → X j p = X2 j p) :
    Contract0 Try.prog 36 [(.c (.sl 1 0 0 rr 1)), (.c (.sl 3 0 0 rr 1))] [(1, (.one ⟨false, false, (.gen rr (fun j_ => (.sl 2 j_ 0 cw 4)))⟩)), (2, (.many (fun j_ => some ⟨false, false, (.ig (W.rl rr (cw * 4) j_) W.ck (fun p_ => (X j_ p_)))⟩))), (3, (.one ⟨false, false, (.gen rr (fun j_ => (.sl 4 j_ 0 cw 4)))⟩)), (4, (.many (fun j_ => some ⟨false, false, (.ig (W.rl rr (cw * 4) j_) W.ck (fun p_ => (X2 j_ p_)))⟩)))] 5 (.c (.bool (false))) [] [] :=
  Contract0.of_frunF (res := (.c (.bool (false)))) (up := []) (kill := []) (n0 := 5) (m := [(1, (.one ⟨false, false, (.gen rr (fun j_ => (.sl 2 j_ 0 cw 4)))⟩)), (2, (.many (fun j_ => some ⟨false, false, (.ig (W.rl rr (cw * 4) j_) W.ck (fun p_ => (X j_ p_)))⟩))), (3, (.one ⟨false, false, (.gen rr (fun j_ => (.sl 4 j_ 0 cw 4)))⟩)), (4, (.many (fun j_ => some ⟨false, false, (.ig (W.rl rr (cw * 4) j_) W.ck (fun p_ => (X2 j_ p_)))⟩)))]) (args := [(.c (.sl 1 0 0 rr 1)), (.c (.sl 3 0 0 rr 1))]) (fn := Try.f36) (c := bodyOf Try.f36) (fuel := 300) (k := kOf Try.prog Try.f36) (outs := []) (hs := [(5, ⟨.auto, some (.c (.bool (false)))⟩), (8, ⟨.sum ⟨[0, 1, 4, 5], [1, 2, 3, 4], [], 117⟩ (.ret) ({ tm := [(4, V.c (C.bool false))], me := [], nx := 133 }), none⟩)])
    (cs := [CodeOk Try.prog 53 117 (kAt (kOf Try.prog Try.f36) [true, true, false, true, false]) (LVg0 rr cw X X2) (.ret) ({ tm := [(4, V.c (C.bool false))], me := [], nx := 133 }),
      EB ((↑rr : Int) != (↑rr : Int)) false])
    mixed Try.func36 (by kernel_rfl) (by kernel_rfl) (by kernel_rfl) ⟨rfl, (.inr (RoF.of (fun _ => rfl))), rfl, (.inr (RoF.of (fun _ => rfl))), trivial⟩ (by kernel_rfl) ⟨(slo_ne rr cw X X2 (by omega) (by omega) (by omega)), .mk (bne_f (Decidable.of_not_not (by omega))), trivial⟩
end Go.Proofs.Ytohleiikedpmkaa.Vm

namespace Go.Proofs.Ytohleiikedpmkaa.Vm
open Go Go.Proofs Go.Proofs.Ytohleiikedpmkaa
theorem sl_any (rr cw rr2 cw2 : Nat) (X X2 : Nat → Nat → Int) (hrr : 1 ≤ rr ∧ rr ≤ 60) (hcw : 1 ≤ cw ∧ cw ≤ 120) (hr : rr2 = rr) (hc : cw2 = cw) :
    Contract0 Try.prog 36 [(.c (.sl 1 0 0 rr 1)), (.c (.sl 3 0 0 rr2 1))] [(1, (.one ⟨false, false, (.gen rr (fun j_ => (.sl 2 j_ 0 cw 4)))⟩)), (2, (.many (fun j_ => some ⟨false, false, (.ig (W.rl rr (cw * 4) j_) W.ck (X j_))⟩))), (3, (.one ⟨false, false, (.gen rr2 (fun j_ => (.sl 4 j_ 0 cw2 4)))⟩)), (4, (.many (fun j_ => some ⟨false, false, (.ig (W.rl rr2 (cw2 * 4) j_) W.ck (X2 j_))⟩)))] 5 (.c (.bool (W.eqS rr cw X X2))) [] [] := by
  subst hr; subst hc
  unfold W.eqS
  by_cases h : ∀ j, j < rr2 → ∀ p, p < cw2 * 4 → X j p = X2 j p
  · rw [decide_eq_true h]; exact sl_t rr2 cw2 X X2 hrr hcw h
  · rw [decide_eq_false h]; exact sl_n rr2 cw2 X X2 hrr hcw h
end Go.Proofs.Ytohleiikedpmkaa.Vm

namespace Go.Proofs.Ytohleiikedpmkaa.Vm
open Go Go.Proofs Go.Proofs.Ytohleiikedpmkaa
set_option maxRecDepth 100000
theorem rsm_ttttt (rr cw : Nat) (X : Nat → Nat → Int) (ro co : Int) (hi : Bool) (rr2 cw2 : Nat) (X2 : Nat → Nat → Int) (ro2 co2 : Int) (hi2 : Bool)
    (hrr : 1 ≤ rr ∧ rr ≤ 60)
    (hcw : 1 ≤ cw ∧ cw ≤ 120)
    (h0 : ((↑rr : Int) = (↑rr2 : Int)))
    (h1 : ((↑cw : Int) = (↑cw2 : Int)))
    (h2 : (ro = ro2))
    (h3 : (co = co2))
    (h4 : ((hi == hi2) = true)) :
    Contract0 Try.prog 17 [(.agg [(.int .i64 (↑rr)), (.int .i64 (↑cw)), (.sl 1 0 0 rr 1), (.int .i64 ro), (.int .i64 co), (.bool hi)]), (.agg [(.int .i64 (↑rr2)), (.int .i64 (↑cw2)), (.sl 3 0 0 rr2 1), (.int .i64 ro2), (.int .i64 co2), (.bool hi2)])] [(1, (.one ⟨false, false, (.gen rr (fun j_ => (.sl 2 j_ 0 cw 4)))⟩)), (2, (.many (fun j_ => some ⟨false, false, (.ig (W.rl rr (cw * 4) j_) W.ck (fun p_ => (X j_ p_)))⟩))), (3, (.one ⟨false, false, (.gen rr2 (fun j_ => (.sl 4 j_ 0 cw2 4)))⟩)), (4, (.many (fun j_ => some ⟨false, false, (.ig (W.rl rr2 (cw2 * 4) j_) W.ck (fun p_ => (X2 j_ p_)))⟩)))] 5 (.c (.bool (W.eqS rr cw (fun j_ p_ => X j_ p_) fun j_ p_ => X2 j_ p_))) [] [] :=
  Contract0.of_frunF (res := (.c (.bool (W.eqS rr cw (fun j_ p_ => X j_ p_) fun j_ p_ => X2 j_ p_)))) (up := []) (kill := []) (n0 := 5) (m := [(1, (.one ⟨false, false, (.gen rr (fun j_ => (.sl 2 j_ 0 cw 4)))⟩)), (2, (.many (fun j_ => some ⟨false, false, (.ig (W.rl rr (cw * 4) j_) W.ck (fun p_ => (X j_ p_)))⟩))), (3, (.one ⟨false, false, (.gen rr2 (fun j_ => (.sl 4 j_ 0 cw2 4)))⟩)), (4, (.many (fun j_ => some ⟨false, false, (.ig (W.rl rr2 (cw2 * 4) j_) W.ck (fun p_ => (X2 j_ p_)))⟩)))]) (args := [(.agg [(.int .i64 (↑rr)), (.int .i64 (↑cw)), (.sl 1 0 0 rr 1), (.int .i64 ro), (.int .i64 co), (.bool hi)]), (.agg [(.int .i64 (↑rr2)), (.int .i64 (↑cw2)), (.sl 3 0 0 rr2 1), (.int .i64 ro2), (.int .i64 co2), (.bool hi2)])]) (fn := Try.f17) (c := bodyOf Try.f17) (fuel := 300) (k := kOf Try.prog Try.f17) (outs := []) (hs := [(8, ⟨.auto, some (.c (.bool (true)))⟩), (15, ⟨.auto, some (.c (.bool (true)))⟩), (22, ⟨.auto, some (.c (.bool (true)))⟩), (29, ⟨.auto, some (.c (.bool (true)))⟩), (36, ⟨.auto, some (.c (.bool (true)))⟩), (41, ⟨.call [1, 3, 2, 4] (.c (.bool (W.eqS rr cw (fun j_ p_ => X j_ p_) fun j_ p_ => X2 j_ p_))) [] [], none⟩)])
    (cs := [Contract Try.prog 36 [(.c (.sl 1 0 0 rr 1)), (.c (.sl 3 0 0 rr2 1))] [(1, (.one ⟨false, false, (.gen rr (fun j_ => (.sl 2 j_ 0 cw 4)))⟩)), (3, (.one ⟨false, false, (.gen rr2 (fun j_ => (.sl 4 j_ 0 cw2 4)))⟩)), (2, (.many (fun j_ => some ⟨false, false, (.ig (W.rl rr (cw * 4) j_) W.ck (fun p_ => (X j_ p_)))⟩))), (4, (.many (fun j_ => some ⟨false, false, (.ig (W.rl rr2 (cw2 * 4) j_) W.ck (fun p_ => (X2 j_ p_)))⟩)))] 661 (.c (.bool (W.eqS rr cw (fun j_ p_ => X j_ p_) fun j_ p_ => X2 j_ p_))) [] [],
      EB (hi == hi2) true,
      EB (co == co2) true,
      EB (ro == ro2) true,
      EB ((↑cw : Int) == (↑cw2 : Int)) true,
      EB ((↑rr : Int) == (↑rr2 : Int)) true])
    mixed Try.func17 (by kernel_rfl) (by kernel_rfl) (by kernel_rfl) ⟨rfl, (.inr (RoF.of (fun _ => rfl))), rfl, (.inr (RoF.of (fun _ => rfl))), trivial⟩ (by kernel_rfl) ⟨Contract0.in1 (sl_any rr cw rr2 cw2 (fun j_ p_ => X j_ p_) (fun j_ p_ => X2 j_ p_) (by omega) (by omega) (by omega) (by omega)) [.b 1 1 true [], .b 2 2 true [], .b 3 3 true [], .b 4 4 true []] [none, none] [] [] (by kernel_rfl), .mk h4, .mk (beq_t h3), .mk (beq_t h2), .mk (beq_t h1), .mk (beq_t h0), trivial⟩
theorem rsm_ttttf (rr cw : Nat) (X : Nat → Nat → Int) (ro co : Int) (hi : Bool) (rr2 cw2 : Nat) (X2 : Nat → Nat → Int) (ro2 co2 : Int) (hi2 : Bool)
    (hrr : 1 ≤ rr ∧ rr ≤ 60)
    (hcw : 1 ≤ cw ∧ cw ≤ 120)
    (h0 : ((↑rr : Int) = (↑rr2 : Int)))
    (h1 : ((↑cw : Int) = (↑cw2 : Int)))
    (h2 : (ro = ro2))
    (h3 : (co = co2))
    (h4 : (¬(hi == hi2) = true)) :
    Contract0 Try.prog 17 [(.agg [(.int .i64 (↑rr)), (.int .i64 (↑cw)), (.sl 1 0 0 rr 1), (.int .i64 ro), (.int .i64 co), (.bool hi)]), (.agg [(.int .i64 (↑rr2)), (.int .i64 (↑cw2)), (.sl 3 0 0 rr2 1), (.int .i64 ro2), (.int .i64 co2), (.bool hi2)])] [(1, (.one ⟨false, false, (.gen rr (fun j_ => (.sl 2 j_ 0 cw 4)))⟩)), (2, (.many (fun j_ => some ⟨false, false, (.ig (W.rl rr (cw * 4) j_) W.ck (fun p_ => (X j_ p_)))⟩))), (3, (.one ⟨false, false, (.gen rr2 (fun j_ => (.sl 4 j_ 0 cw2 4)))⟩)), (4, (.many (fun j_ => some ⟨false, false, (.ig (W.rl rr2 (cw2 * 4) j_) W.ck (fun p_ => (X2 j_ p_)))⟩)))] 5 (.c (.bool (false))) [] [] :=
  Contract0.of_frunF (res := (.c (.bool (false)))) (up := []) (kill := []) (n0 := 5) (m := [(1, (.one ⟨false, false, (.gen rr (fun j_ => (.sl 2 j_ 0 cw 4)))⟩)), (2, (.many (fun j_ => some ⟨false, false, (.ig (W.rl rr (cw * 4) j_) W.ck (fun p_ => (X j_ p_)))⟩))), (3, (.one ⟨false, false, (.gen rr2 (fun j_ => (.sl 4 j_ 0 cw2 4)))⟩)), (4, (.many (fun j_ => some ⟨false, false, (.ig (W.rl rr2 (cw2 * 4) j_) W.ck (fun p_ => (X2 j_ p_)))⟩)))]) (args := [(.agg [(.int .i64 (↑rr)), (.int .i64 (↑cw)), (.sl 1 0 0 rr 1), (.int .i64 ro), (.int .i64 co), (.bool hi)]), (.agg [(.int .i64 (↑rr2)), (.int .i64 (↑cw2)), (.sl 3 0 0 rr2 1), (.int .i64 ro2), (.int .i64 co2), (.bool hi2)])]) (fn := Try.f17) (c := bodyOf Try.f17) (fuel := 300) (k := kOf Try.prog Try.f17) (outs := []) (hs := [(8, ⟨.auto, some (.c (.bool (true)))⟩), (15, ⟨.auto, some (.c (.bool (true)))⟩), (22, ⟨.auto, some (.c (.bool (true)))⟩), (29, ⟨.auto, some (.c (.bool (true)))⟩), (36, ⟨.auto, some (.c (.bool (false)))⟩)])
    (cs := [EB (hi == hi2) false,
      EB (co == co2) true,
      EB (ro == ro2) true,
      EB ((↑cw : Int) == (↑cw2 : Int)) true,
      EB ((↑rr : Int) == (↑rr2 : Int)) true])
    mixed Try.func17 (by kernel_rfl) (by kernel_rfl) (by kernel_rfl) ⟨rfl, (.inr (RoF.of (fun _ => rfl))), rfl, (.inr (RoF.of (fun _ => rfl))), trivial⟩ (by kernel_rfl) ⟨.mk (Bool.eq_false_iff.2 h4), .mk (beq_t h3), .mk (beq_t h2), .mk (beq_t h1), .mk (beq_t h0), trivial⟩
theorem rsm_tttf (rr cw : Nat) (X : Nat → Nat → Int) (ro co : Int) (hi : Bool) (rr2 cw2 : Nat) (X2 : Nat → Nat → Int) (ro2 co2 : Int) (hi2 : Bool)
    (hrr : 1 ≤ rr ∧ rr ≤ 60)
    (hcw : 1 ≤ cw ∧ cw ≤ 120)
    (h0 : ((↑rr : Int) = (↑rr2 : Int)))
    (h1 : ((↑cw : Int) = (↑cw2 : Int)))
    (h2 : (ro = ro2))
    (h3 : (¬co = co2)) :
    Contract0 Try.prog 17 [(.agg [(.int .i64 (↑rr)), (.int .i64 (↑cw)), (.sl 1 0 0 rr 1), (.int .i64 ro), (.int .i64 co), (.bool hi)]), (.agg [(.int .i64 (↑rr2)), (.int .i64 (↑cw2)), (.sl 3 0 0 rr2 1), (.int .i64 ro2), (.int .i64 co2), (.bool hi2)])] [(1, (.one ⟨false, false, (.gen rr (fun j_ => (.sl 2 j_ 0 cw 4)))⟩)), (2, (.many (fun j_ => some ⟨false, false, (.ig (W.rl rr (cw * 4) j_) W.ck (fun p_ => (X j_ p_)))⟩))), (3, (.one ⟨false, false, (.gen rr2 (fun j_ => (.sl 4 j_ 0 cw2 4)))⟩)), (4, (.many (fun j_ => some ⟨false, false, (.ig (W.rl rr2 (cw2 * 4) j_) W.ck (fun p_ => (X2 j_ p_)))⟩)))] 5 (.c (.bool (false))) [] [] :=
  Contract0.of_frunF (res := (.c (.bool (false)))) (up := []) (kill := []) (n0 := 5) (m := [(1, (.one ⟨false, false, (.gen rr (fun j_ => (.sl 2 j_ 0 cw 4)))⟩)), (2, (.many (fun j_ => some ⟨false, false, (.ig (W.rl rr (cw * 4) j_) W.ck (fun p_ => (X j_ p_)))⟩))), (3, (.one ⟨false, false, (.gen rr2 (fun j_ => (.sl 4 j_ 0 cw2 4)))⟩)), (4, (.many (fun j_ => some ⟨false, false, (.ig (W.rl rr2 (cw2 * 4) j_) W.ck (fun p_ => (X2 j_ p_)))⟩)))]) (args := [(.agg [(.int .i64 (↑rr)), (.int .i64 (↑cw)), (.sl 1 0 0 rr 1), (.int .i64 ro), (.int .i64 co), (.bool hi)]), (.agg [(.int .i64 (↑rr2)), (.int .i64 (↑cw2)), (.sl 3 0 0 rr2 1), (.int .i64 ro2), (.int .i64 co2), (.bool hi2)])]) (fn := Try.f17) (c := bodyOf Try.f17) (fuel := 300) (k := kOf Try.prog Try.f17) (outs := []) (hs := [(8, ⟨.auto, some (.c (.bool (true)))⟩), (15, ⟨.auto, some (.c (.bool (true)))⟩), (22, ⟨.auto, some (.c (.bool (true)))⟩), (29, ⟨.auto, some (.c (.bool (false)))⟩)])
    (cs := [EB (co == co2) false,
      EB (ro == ro2) true,
      EB ((↑cw : Int) == (↑cw2 : Int)) true,
      EB ((↑rr : Int) == (↑rr2 : Int)) true])
    mixed Try.func17 (by kernel_rfl) (by kernel_rfl) (by kernel_rfl) ⟨rfl, (.inr (RoF.of (fun _ => rfl))), rfl, (.inr (RoF.of (fun _ => rfl))), trivial⟩ (by kernel_rfl) ⟨.mk (beq_f h3), .mk (beq_t h2), .mk (beq_t h1), .mk (beq_t h0), trivial⟩
theorem rsm_ttf (rr cw : Nat) (X : Nat → Nat → Int) (ro co : Int) (hi : Bool) (rr2 cw2 : Nat) (X2 : Nat → Nat → Int) (ro2 co2 : Int) (hi2 : Bool)
    (hrr : 1 ≤ rr ∧ rr ≤ 60)
    (hcw : 1 ≤ cw ∧ cw ≤ 120)
    (h0 : ((↑rr : Int) = (↑rr2 : Int)))
    (h1 : ((↑cw : Int) = (↑cw2 : Int)))
    (h2 : (¬ro = ro2)) :
    Contract0 Try.prog 17 [(.agg [(.int .i64 (↑rr)), (.int .i64 (↑cw)), (.sl 1 0 0 rr 1), (.int .i64 ro), (.int .i64 co), (.bool hi)]), (.agg [(.int .i64 (↑rr2)), (.int .i64 (↑cw2)), (.sl 3 0 0 rr2 1), (.int .i64 ro2), (.int .i64 co2), (.bool hi2)])] [(1, (.one ⟨false, false, (.gen rr (fun j_ => (.sl 2 j_ 0 cw 4)))⟩)), (2, (.many (fun j_ => some ⟨false, false, (.ig (W.rl rr (cw * 4) j_) W.ck (fun p_ => (X j_ p_)))⟩))), (3, (.one ⟨false, false, (.gen rr2 (fun j_ => (.sl 4 j_ 0 cw2 4)))⟩)), (4, (.many (fun j_ => some ⟨false, false, (.ig (W.rl rr2 (cw2 * 4) j_) W.ck (fun p_ => (X2 j_ p_)))⟩)))] 5 (.c (.bool (false))) [] [] :=
  Contract0.of_frunF (res := (.c (.bool (false)))) (up := []) (kill := []) (n0 := 5) (m := [(1, (.one ⟨false, false, (.gen rr (fun j_ => (.sl 2 j_ 0 cw 4)))⟩)), (2, (.many (fun j_ => some ⟨false, false, (.ig (W.rl rr (cw * 4) j_) W.ck (fun p_ => (X j_ p_)))⟩))), (3, (.one ⟨false, false, (.gen rr2 (fun j_ => (.sl 4 j_ 0 cw2 4)))⟩)), (4, (.many (fun j_ => some ⟨false, false, (.ig (W.rl rr2 (cw2 * 4) j_) W.ck (fun p_ => (X2 j_ p_)))⟩)))]) (args := [(.agg [(.int .i64 (↑rr)), (.int .i64 (↑cw)), (.sl 1 0 0 rr 1), (.int .i64 ro), (.int .i64 co), (.bool hi)]), (.agg [(.int .i64 (↑rr2)), (.int .i64 (↑cw2)), (.sl 3 0 0 rr2 1), (.int .i64 ro2), (.int .i64 co2), (.bool hi2)])]) (fn := Try.f17) (c := bodyOf Try.f17) (fuel := 300) (k := kOf Try.prog Try.f17) (outs := []) (hs := [(8, ⟨.auto, some (.c (.bool (true)))⟩), (15, ⟨.auto, some (.c (.bool (true)))⟩), (22, ⟨.auto, some (.c (.bool (false)))⟩)])
    (cs := [EB (ro == ro2) false,
      EB ((↑cw : Int) == (↑cw2 : Int)) true,
      EB ((↑rr : Int) == (↑rr2 : Int)) true])
    mixed Try.func17 (by kernel_rfl) (by kernel_rfl) (by kernel_rfl) ⟨rfl, (.inr (RoF.of (fun _ => rfl))), rfl, (.inr (RoF.of (fun _ => rfl))), trivial⟩ (by kernel_rfl) ⟨.mk (beq_f h2), .mk (beq_t h1), .mk (beq_t h0), trivial⟩
theorem rsm_tf (rr cw : Nat) (X : Nat → Nat → Int) (ro co : Int) (hi : Bool) (rr2 cw2 : Nat) (X2 : Nat → Nat → Int) (ro2 co2 : Int) (hi2 : Bool)
    (hrr : 1 ≤ rr ∧ rr ≤ 60)
    (hcw : 1 ≤ cw ∧ cw ≤ 120)
    (h0 : ((↑rr : Int) = (↑rr2 : Int)))
    (h1 : (¬(↑cw : Int) = (↑cw2 : Int))) :
    Contract0 Try.prog 17 [(.agg [(.int .i64 (↑rr)), (.int .i64 (↑cw)), (.sl 1 0 0 rr 1), (.int .i64 ro), (.int .i64 co), (.bool hi)]), (.agg [(.int .i64 (↑rr2)), (.int .i64 (↑cw2)), (.sl 3 0 0 rr2 1), (.int .i64 ro2), (.int .i64 co2), (.bool hi2)])] [(1, (.one ⟨false, false, (.gen rr (fun j_ => (.sl 2 j_ 0 cw 4)))⟩)), (2, (.many (fun j_ => some ⟨false, false, (.ig (W.rl rr (cw * 4) j_) W.ck (fun p_ => (X j_ p_)))⟩))), (3, (.one ⟨false, false, (.gen rr2 (fun j_ => (.sl 4 j_ 0 cw2 4)))⟩)), (4, (.many (fun j_ => some ⟨false, false, (.ig (W.rl rr2 (cw2 * 4) j_) W.ck (fun p_ => (X2 j_ p_)))⟩)))] 5 (.c (.bool (false))) [] [] :=
  Contract0.of_frunF (res := (.c (.bool (false)))) (up := []) (kill := []) (n0 := 5) (m := [(1, (.one ⟨false, false, (.gen rr (fun j_ => (.sl 2 j_ 0 cw 4)))⟩)), (2, (.many (fun j_ => some ⟨false, false, (.ig (W.rl rr (cw * 4) j_) W.ck (fun p_ => (X j_ p_)))⟩))), (3, (.one ⟨false, false, (.gen rr2 (fun j_ => (.sl 4 j_ 0 cw2 4)))⟩)), (4, (.many (fun j_ => some ⟨false, false, (.ig (W.rl rr2 (cw2 * 4) j_) W.ck (fun p_ => (X2 j_ p_)))⟩)))]) (args := [(.agg [(.int .i64 (↑rr)), (.int .i64 (↑cw)), (.sl 1 0 0 rr 1), (.int .i64 ro), (.int .i64 co), (.bool hi)]), (.agg [(.int .i64 (↑rr2)), (.int .i64 (↑cw2)), (.sl 3 0 0 rr2 1), (.int .i64 ro2), (.int .i64 co2), (.bool hi2)])]) (fn := Try.f17) (c := bodyOf Try.f17) (fuel := 300) (k := kOf Try.prog Try.f17) (outs := []) (hs := [(8, ⟨.auto, some (.c (.bool (true)))⟩), (15, ⟨.auto, some (.c (.bool (false)))⟩)])
    (cs := [EB ((↑cw : Int) == (↑cw2 : Int)) false,
      EB ((↑rr : Int) == (↑rr2 : Int)) true])
    mixed Try.func17 (by kernel_rfl) (by kernel_rfl) (by kernel_rfl) ⟨rfl, (.inr (RoF.of (fun _ => rfl))), rfl, (.inr (RoF.of (fun _ => rfl))), trivial⟩ (by kernel_rfl) ⟨.mk (beq_f h1), .mk (beq_t h0), trivial⟩
theorem rsm_f (rr cw : Nat) (X : Nat → Nat → Int) (ro co : Int) (hi : Bool) (rr2 cw2 : Nat) (X2 : Nat → Nat → Int) (ro2 co2 : Int) (hi2 : Bool)
    (hrr : 1 ≤ rr ∧ rr ≤ 60)
    (hcw : 1 ≤ cw ∧ cw ≤ 120)
    (h0 : (¬(↑rr : Int) = (↑rr2 : Int))) :
    Contract0 Try.prog 17 [(.agg [(.int .i64 (↑rr)), (.int .i64 (↑cw)), (.sl 1 0 0 rr 1), (.int .i64 ro), (.int .i64 co), (.bool hi)]), (.agg [(.int .i64 (↑rr2)), (.int .i64 (↑cw2)), (.sl 3 0 0 rr2 1), (.int .i64 ro2), (.int .i64 co2), (.bool hi2)])] [(1, (.one ⟨false, false, (.gen rr (fun j_ => (.sl 2 j_ 0 cw 4)))⟩)), (2, (.many (fun j_ => some ⟨false, false, (.ig (W.rl rr (cw * 4) j_) W.ck (fun p_ => (X j_ p_)))⟩))), (3, (.one ⟨false, false, (.gen rr2 (fun j_ => (.sl 4 j_ 0 cw2 4)))⟩)), (4, (.many (fun j_ => some ⟨false, false, (.ig (W.rl rr2 (cw2 * 4) j_) W.ck (fun p_ => (X2 j_ p_)))⟩)))] 5 (.c (.bool (false))) [] [] :=
  Contract0.of_frunF (res := (.c (.bool (false)))) (up := []) (kill := []) (n0 := 5) (m := [(1, (.one ⟨false, false, (.gen rr (fun j_ => (.sl 2 j_ 0 cw 4)))⟩)), (2, (.many (fun j_ => some ⟨false, false, (.ig (W.rl rr (cw * 4) j_) W.ck (fun p_ => (X j_ p_)))⟩))), (3, (.one ⟨false, false, (.gen rr2 (fun j_ => (.sl 4 j_ 0 cw2 4)))⟩)), (4, (.many (fun j_ => some ⟨false, false, (.ig (W.rl rr2 (cw2 * 4) j_) W.ck (fun p_ => (X2 j_ p_)))⟩)))]) (args := [(.agg [(.int .i64 (↑rr)), (.int .i64 (↑cw)), (.sl 1 0 0 rr 1), (.int .i64 ro), (.int .i64 co), (.bool hi)]), (.agg [(.int .i64 (↑rr2)), (.int .i64 (↑cw2)), (.sl 3 0 0 rr2 1), (.int .i64 ro2), (.int .i64 co2), (.bool hi2)])]) (fn := Try.f17) (c := bodyOf Try.f17) (fuel := 300) (k := kOf Try.prog Try.f17) (outs := []) (hs := [(8, ⟨.auto, some (.c (.bool (false)))⟩)])
    (cs := [EB ((↑rr : Int) == (↑rr2 : Int)) false])
    mixed Try.func17 (by kernel_rfl) (by kernel_rfl) (by kernel_rfl) ⟨rfl, (.inr (RoF.of (fun _ => rfl))), rfl, (.inr (RoF.of (fun _ => rfl))), trivial⟩ (by kernel_rfl) ⟨.mk (beq_f h0), trivial⟩
end Go.Proofs.Ytohleiikedpmkaa.Vm

namespace Go.Proofs.Ytohleiikedpmkaa.Vm
open Go Go.Proofs Go.Proofs.Ytohleiikedpmkaa
end Go.Proofs.Ytohleiikedpmkaa.Vm

namespace Go.Proofs.Ytohleiikedpmkaa.Vm
open Go Go.Proofs Go.Proofs.Ytohleiikedpmkaa
set_option maxRecDepth 100000
end Go.Proofs.Ytohleiikedpmkaa.Vm

namespace Go.Proofs.Ytohleiikedpmkaa.Vm
open Go Go.Proofs Go.Proofs.Ytohleiikedpmkaa
set_option maxRecDepth 100000
end Go.Proofs.Ytohleiikedpmkaa.Vm

namespace Go.Proofs.Ytohleiikedpmkaa.Vm
open Go Go.Proofs Go.Proofs.Ytohleiikedpmkaa
set_option maxRecDepth 100000
end Go.Proofs.Ytohleiikedpmkaa.Vm

namespace Go.Proofs.Ytohleiikedpmkaa.W
end Go.Proofs.Ytohleiikedpmkaa.W
namespace Go.Proofs.Ytohleiikedpmkaa.Vm
open Go Go.Proofs Go.Proofs.Ytohleiikedpmkaa
end Go.Proofs.Ytohleiikedpmkaa.Vm

namespace Go.Proofs.Ytohleiikedpmkaa.Vm
open Go Go.Proofs Go.Proofs.Ytohleiikedpmkaa
set_option maxRecDepth 100000
end Go.Proofs.Ytohleiikedpmkaa.Vm

namespace Go.Proofs.Ytohleiikedpmkaa.Vm
open Go Go.Proofs Go.Proofs.Ytohleiikedpmkaa
set_option maxRecDepth 100000
noncomputable def LXScI (rr cw : Nat) (X X2 : Nat → Nat → Int) (ro co ro2 co2 : Int) (hi hi2 : Bool) (i e : Nat) (L : W.Rn) (k m : Nat) (f : Nat → Int) : S0 :=
  ⟨[(2, (.c (.ptr 5 0 0))), (3, (.c (.ptr 21 0 0))), (4, (.c (.ptr 37 0 0))), (5, (.c (.ptr 229 0 0))), (6, (.c (.int .i64 (i : Int)))), (8, (.c (.ptr 190690 0 0))), (7, (.c (.int .i64 (e : Int))))], [(1, (.one ⟨false, false, (.gen rr (fun j_ => (.sl 2 j_ 0 cw 4)))⟩)), (2, (.many (fun j_ => some ⟨false, false, (.ig (W.rl rr (cw * 4) j_) W.ck (fun p_ => (X j_ p_)))⟩))), (3, (.one ⟨false, false, (.gen rr (fun j_ => (.sl 4 j_ 0 cw 4)))⟩)), (4, (.many (fun j_ => some ⟨false, false, (.ig (W.rl rr (cw * 4) j_) W.ck (fun p_ => (X2 j_ p_)))⟩))), (5, (.one ⟨true, true, (.cells [(.int .i64 (↑rr)), (.int .i64 (↑cw)), (.sl 1 0 0 rr 1), (.int .i64 ro), (.int .i64 co), (.bool hi)])⟩)), (21, (.one ⟨true, true, (.cells [(.int .i64 (↑rr)), (.int .i64 (↑cw)), (.sl 3 0 0 rr 1), (.int .i64 ro2), (.int .i64 co2), (.bool hi2)])⟩)), (37, (.one ⟨true, true, (.cells [(.int .i64 0), (.int .i64 0), (.int .i64 0), (.int .i64 0), (.bool (false)), .nils])⟩)), (229, (.one ⟨true, true, .cells [.int .i64 (rr : Int), .int .i64 (cw : Int), .int .i64 ro2, .int .i64 co2, .bool hi2, .sl 100008 0 0 L.length 3]⟩)), (100008, (.one ⟨true, false, .row (L.length * 3) 3 (fun k_ => [.int .i64 (W.ra L k_ : Int), .int .i64 (W.rb L k_ : Int), .sl 100009 k_ 0 (W.rn L k_) 4])⟩)), (100009, (.many (fun j_ => some ⟨true, false, .ig (W.rn L j_ * 4) W.ck (fun p_ => X2 (W.ra L j_) (p_ + W.rb L j_ * 4))⟩))), (190690, (.one ⟨true, true, .cells [.int .i64 (i : Int), .int .i64 (k : Int), .sl 200008 0 0 m 4]⟩)), (200008, (.one ⟨true, false, .ig (m * 4) W.ck f⟩))], 200016⟩
theorem LXSc_by {α : Type} (I : α → S0) (Inv : α → Prop) (μ : α → Nat) {ex : Ex} {s' : S0} (hex : ex ≠ .normal)
    (step : ∀ x, Inv x → (∃ y, Inv y ∧ μ y < μ x ∧ CodeOk Try.prog 114 200000 (kAt (kOf Try.prog Try.f13) [true, true, true, false, true, false, false, true, false, false, true, false, false, true, false, true, true, false, false, false]) (I x) .normal (I y)) ∨ CodeOk Try.prog 114 200000 (kAt (kOf Try.prog Try.f13) [true, true, true, false, true, false, false, true, false, false, true, false, false, true, false, true, true, false, false, false]) (I x) ex s') (x : α) (hx : Inv x) :
    CodeOk Try.prog 114 200000 (kAt (kOf Try.prog Try.f13) [true, true, true, false, true, false, false, true, false, false, true, false, false, true, false, true, true, false, false]) (I x) ex s' := by
  have hk : (kAt (kOf Try.prog Try.f13) [true, true, true, false, true, false, false, true, false, false, true, false, false, true, false, true, true, false, false]) = .loop (kAt (kOf Try.prog Try.f13) [true, true, true, false, true, false, false, true, false, false, true, false, false, true, false, true, true, false, false, false]) := by kernel_rfl
  rw [hk]
  exact CodeOk.loop I Inv μ hex step x hx
theorem LXSc_xtt (rr cw : Nat) (X X2 : Nat → Nat → Int) (ro co ro2 co2 : Int) (hi hi2 : Bool) (i e : Nat) (L : W.Rn) (k m : Nat) (f : Nat → Int)
    (hrr : 1 ≤ rr ∧ rr ≤ 60)
    (hcw : 1 ≤ cw ∧ cw ≤ 120)
    (hil : i < rr)
    (hel : e ≤ cw)
    (hm : m ≤ 120)
    (hL : L.length ≤ 10000)
    (h0 : ((↑e : Int) < (↑cw : Int)))
    (h1 : ((X i (e * (4 : Nat)) == X2 i (e * (4 : Nat)) && (X i (e * (4 : Nat) + (1 : Nat)) == X2 i (e * (4 : Nat) + (1 : Nat)) && (X i (e * (4 : Nat) + (2 : Nat)) == X2 i (e * (4 : Nat) + (2 : Nat)) && (X i (e * (4 : Nat) + (3 : Nat)) == X2 i (e * (4 : Nat) + (3 : Nat)) && true)))) = true)) :
    CodeOk Try.prog 114 200000 (kAt (kOf Try.prog Try.f13) [true, true, true, false, true, false, false, true, false, false, true, false, false, true, false, true, true, false, false, false]) (LXScI rr cw X X2 ro co ro2 co2 hi hi2 i e L k m f) (.exit 4) (LXScI rr cw X X2 ro co ro2 co2 hi hi2 i e L k m f) :=
  CodeOk.of_runs (fuel := 2) (v := ⟨[2, 3, 4, 5, 6, 8, 7], [1, 2, 3, 4, 5, 21, 37, 229, 100008, 100009, 190690, 200008], [(200008, 200008)], 200016⟩) (hs := [(4, ⟨.auto, some (.c (.bool (true)))⟩), (8, ⟨.ask, none⟩), (9, ⟨.ask, none⟩), (11, ⟨.ask, none⟩), (12, ⟨.ask, some (.agg [(.int .i32 (X i (e * 4))), (.int .i64 (X i (e * 4 + 1))), (.int .i64 (X i (e * 4 + 2))), (.int .i64 (X i (e * 4 + 3)))])⟩), (16, ⟨.ask, none⟩), (17, ⟨.ask, none⟩), (19, ⟨.ask, none⟩), (20, ⟨.ask, some (.agg [(.int .i32 (X2 i (e * 4))), (.int .i64 (X2 i (e * 4 + 1))), (.int .i64 (X2 i (e * 4 + 2))), (.int .i64 (X2 i (e * 4 + 3)))])⟩), (22, ⟨.auto, some (.c (.bool (false)))⟩)])
    (cs := [EB (!(X i (e * 4) == X2 i (e * 4) && (X i (e * 4 + 1) == X2 i (e * 4 + 1) && (X i (e * 4 + 2) == X2 i (e * 4 + 2) && (X i (e * 4 + 3) == X2 i (e * 4 + 3) && true))))) false,
      ((.agg ((List.range 4).map (fun p_ => .int (W.ck (p_ + e * 4)) (X2 i (p_ + e * 4))))) : V) = (.agg [(.int .i32 (X2 i (e * 4))), (.int .i64 (X2 i (e * 4 + 1))), (.int .i64 (X2 i (e * 4 + 2))), (.int .i64 (X2 i (e * 4 + 3)))]),
      (e * (4 : Nat) + (4 : Nat) ≤ W.rl rr (cw * (4 : Nat)) i),
      ((0 : Int) ≤ (↑e : Int) ∧ (↑e : Int) < (↑cw : Int)),
      (i + (1 : Nat) ≤ rr),
      ((0 : Int) ≤ (↑i : Int) ∧ (↑i : Int) < (↑rr : Int)),
      ((.agg ((List.range 4).map (fun p_ => .int (W.ck (p_ + e * 4)) (X i (p_ + e * 4))))) : V) = (.agg [(.int .i32 (X i (e * 4))), (.int .i64 (X i (e * 4 + 1))), (.int .i64 (X i (e * 4 + 2))), (.int .i64 (X i (e * 4 + 3)))]),
      (e * (4 : Nat) + (4 : Nat) ≤ W.rl rr (cw * (4 : Nat)) i),
      ((0 : Int) ≤ (↑e : Int) ∧ (↑e : Int) < (↑cw : Int)),
      (i + (1 : Nat) ≤ rr),
      ((0 : Int) ≤ (↑i : Int) ∧ (↑i : Int) < (↑rr : Int)),
      EB (decide ((↑e : Int) < (↑cw : Int))) true])
    mixed (by kernel_rfl) ⟨.mk (not_f h1), EV.ck4 (g := (fun p_ => (X2 i p_))) (o := (e * 4)) (by omega) (by omega), (by rw [rl_lt (by omega)]; omega), (by omega), (by omega), (by omega), EV.ck4 (g := (fun p_ => (X i p_))) (o := (e * 4)) (by omega) (by omega), (by rw [rl_lt (by omega)]; omega), (by omega), (by omega), (by omega), .mk (decide_eq_true h0), trivial⟩
theorem LXSc_rtf (rr cw : Nat) (X X2 : Nat → Nat → Int) (ro co ro2 co2 : Int) (hi hi2 : Bool) (i e : Nat) (L : W.Rn) (k m : Nat) (f : Nat → Int)
    (hrr : 1 ≤ rr ∧ rr ≤ 60)
    (hcw : 1 ≤ cw ∧ cw ≤ 120)
    (hil : i < rr)
    (hel : e ≤ cw)
    (hm : m ≤ 120)
    (hL : L.length ≤ 10000)
    (h0 : ((↑e : Int) < (↑cw : Int)))
    (h1 : (¬(X i (e * (4 : Nat)) == X2 i (e * (4 : Nat)) && (X i (e * (4 : Nat) + (1 : Nat)) == X2 i (e * (4 : Nat) + (1 : Nat)) && (X i (e * (4 : Nat) + (2 : Nat)) == X2 i (e * (4 : Nat) + (2 : Nat)) && (X i (e * (4 : Nat) + (3 : Nat)) == X2 i (e * (4 : Nat) + (3 : Nat)) && true)))) = true)) :
    CodeOk Try.prog 114 200000 (kAt (kOf Try.prog Try.f13) [true, true, true, false, true, false, false, true, false, false, true, false, false, true, false, true, true, false, false, false]) (LXScI rr cw X X2 ro co ro2 co2 hi hi2 i e L k m f) .normal ⟨[(2, (.c (.ptr 5 0 0))), (3, (.c (.ptr 21 0 0))), (4, (.c (.ptr 37 0 0))), (5, (.c (.ptr 229 0 0))), (6, (.c (.int .i64 (↑i)))), (8, (.c (.ptr 190690 0 0))), (7, (.c (.int .i64 (↑(e + 1)))))], [(1, (.one ⟨false, false, (.gen rr (fun j_ => (.sl 2 j_ 0 cw 4)))⟩)), (2, (.many (fun j_ => some ⟨false, false, (.ig (W.rl rr (cw * 4) j_) W.ck (fun p_ => (X j_ p_)))⟩))), (3, (.one ⟨false, false, (.gen rr (fun j_ => (.sl 4 j_ 0 cw 4)))⟩)), (4, (.many (fun j_ => some ⟨false, false, (.ig (W.rl rr (cw * 4) j_) W.ck (fun p_ => (X2 j_ p_)))⟩))), (5, (.one ⟨true, true, (.cells [(.int .i64 (↑rr)), (.int .i64 (↑cw)), (.sl 1 0 0 rr 1), (.int .i64 ro), (.int .i64 co), (.bool hi)])⟩)), (21, (.one ⟨true, true, (.cells [(.int .i64 (↑rr)), (.int .i64 (↑cw)), (.sl 3 0 0 rr 1), (.int .i64 ro2), (.int .i64 co2), (.bool hi2)])⟩)), (37, (.one ⟨true, true, (.cells [(.int .i64 0), (.int .i64 0), (.int .i64 0), (.int .i64 0), (.bool (false)), .nils])⟩)), (229, (.one ⟨true, true, (.cells [(.int .i64 (↑rr)), (.int .i64 (↑cw)), (.int .i64 ro2), (.int .i64 co2), (.bool hi2), (.sl 100008 0 0 (List.length L) 3)])⟩)), (100008, (.one ⟨true, false, (.row (List.length L * 3) 3 (fun j_ => [(.int .i64 (↑(W.ra L j_))), (.int .i64 (↑(W.rb L j_))), (.sl 100009 j_ 0 (W.rn L j_) 4)]))⟩)), (100009, (.many (fun j_ => some ⟨true, false, (.ig (W.rn L j_ * 4) W.ck (fun p_ => (X2 (W.ra L j_) (p_ + W.rb L j_ * 4))))⟩))), (190690, (.one ⟨true, true, (.cells [(.int .i64 (↑i)), (.int .i64 (↑k)), (.sl 200000 0 0 (m + 1) 4)])⟩)), (200000, (.one ⟨true, false, (.ig (mulE m 4 + 4) (fun p_ => (bif Nat.blt p_ (m * 4) then W.ck (p_ + 0) else igK [(IntKind.i32, X2 i (e * 4)), (IntKind.i64, X2 i (e * 4 + 1)), (IntKind.i64, X2 i (e * 4 + 2)), (IntKind.i64, X2 i (e * 4 + 3))] (p_ - m * 4))) (fun p_ => (bif Nat.blt p_ (m * 4) then f (p_ + 0) else igG [(IntKind.i32, X2 i (e * 4)), (IntKind.i64, X2 i (e * 4 + 1)), (IntKind.i64, X2 i (e * 4 + 2)), (IntKind.i64, X2 i (e * 4 + 3))] (p_ - m * 4))))⟩))], 200016⟩ :=
  CodeOk.of_runs (fuel := 2) (v := ⟨[2, 3, 4, 5, 6, 8, 7], [1, 2, 3, 4, 5, 21, 37, 229, 100008, 100009, 190690, 200008, 200560], [(200008, 200008), (200560, 200000)], 200016⟩) (hs := [(4, ⟨.auto, some (.c (.bool (true)))⟩), (8, ⟨.ask, none⟩), (9, ⟨.ask, none⟩), (11, ⟨.ask, none⟩), (12, ⟨.ask, some (.agg [(.int .i32 (X i (e * 4))), (.int .i64 (X i (e * 4 + 1))), (.int .i64 (X i (e * 4 + 2))), (.int .i64 (X i (e * 4 + 3)))])⟩), (16, ⟨.ask, none⟩), (17, ⟨.ask, none⟩), (19, ⟨.ask, none⟩), (20, ⟨.ask, some (.agg [(.int .i32 (X2 i (e * 4))), (.int .i64 (X2 i (e * 4 + 1))), (.int .i64 (X2 i (e * 4 + 2))), (.int .i64 (X2 i (e * 4 + 3)))])⟩), (22, ⟨.auto, some (.c (.bool (true)))⟩), (29, ⟨.ask, none⟩), (30, ⟨.ask, none⟩), (32, ⟨.ask, none⟩), (33, ⟨.ask, some (.agg [(.int .i32 (X2 i (e * 4))), (.int .i64 (X2 i (e * 4 + 1))), (.int .i64 (X2 i (e * 4 + 2))), (.int .i64 (X2 i (e * 4 + 3)))])⟩), (35, ⟨.ask, some (.c (.sl 200560 0 0 (m + 1) 4))⟩), (39, ⟨.auto, some (.c (.int .i64 (↑(e + 1))))⟩)])
    (cs := [EI .i64 (IntKind.wrap IntKind.i64 ((↑e : Int) + 1)) ((↑(e + 1) : Int)),
      ((.c (.sl 200560 0 0 (addO m 1) 4)) : V) = (.c (.sl 200560 0 0 (m + 1) 4)),
      ((4 : Nat) ≤ (4 : Nat) ∧ (33 : Nat) * (m + (1 : Nat)) ≤ (4398046511104 : Nat) ∧ (0 : Nat) + m * (4 : Nat) ≤ m * (4 : Nat)),
      ((.agg ((List.range 4).map (fun p_ => .int (W.ck (p_ + e * 4)) (X2 i (p_ + e * 4))))) : V) = (.agg [(.int .i32 (X2 i (e * 4))), (.int .i64 (X2 i (e * 4 + 1))), (.int .i64 (X2 i (e * 4 + 2))), (.int .i64 (X2 i (e * 4 + 3)))]),
      (e * (4 : Nat) + (4 : Nat) ≤ W.rl rr (cw * (4 : Nat)) i),
      ((0 : Int) ≤ (↑e : Int) ∧ (↑e : Int) < (↑cw : Int)),
      (i + (1 : Nat) ≤ rr),
      ((0 : Int) ≤ (↑i : Int) ∧ (↑i : Int) < (↑rr : Int)),
      EB (!(X i (e * 4) == X2 i (e * 4) && (X i (e * 4 + 1) == X2 i (e * 4 + 1) && (X i (e * 4 + 2) == X2 i (e * 4 + 2) && (X i (e * 4 + 3) == X2 i (e * 4 + 3) && true))))) true,
      ((.agg ((List.range 4).map (fun p_ => .int (W.ck (p_ + e * 4)) (X2 i (p_ + e * 4))))) : V) = (.agg [(.int .i32 (X2 i (e * 4))), (.int .i64 (X2 i (e * 4 + 1))), (.int .i64 (X2 i (e * 4 + 2))), (.int .i64 (X2 i (e * 4 + 3)))]),
      (e * (4 : Nat) + (4 : Nat) ≤ W.rl rr (cw * (4 : Nat)) i),
      ((0 : Int) ≤ (↑e : Int) ∧ (↑e : Int) < (↑cw : Int)),
      (i + (1 : Nat) ≤ rr),
      ((0 : Int) ≤ (↑i : Int) ∧ (↑i : Int) < (↑rr : Int)),
      ((.agg ((List.range 4).map (fun p_ => .int (W.ck (p_ + e * 4)) (X i (p_ + e * 4))))) : V) = (.agg [(.int .i32 (X i (e * 4))), (.int .i64 (X i (e * 4 + 1))), (.int .i64 (X i (e * 4 + 2))), (.int .i64 (X i (e * 4 + 3)))]),
      (e * (4 : Nat) + (4 : Nat) ≤ W.rl rr (cw * (4 : Nat)) i),
      ((0 : Int) ≤ (↑e : Int) ∧ (↑e : Int) < (↑cw : Int)),
      (i + (1 : Nat) ≤ rr),
      ((0 : Int) ≤ (↑i : Int) ∧ (↑i : Int) < (↑rr : Int)),
      EB (decide ((↑e : Int) < (↑cw : Int))) true])
    mixed (by kernel_rfl) ⟨.mk (by simp only [addO_eq, mulE_eq, mulE_one, Int.toNat_natCast, IntKind.wrap_i64, mmin, mmax]; omega), EV.sl (by rfl) (by simp only [addO_eq, mulE_eq, mulE_one, Int.toNat_natCast, IntKind.wrap_i64, mmin, mmax]), (by omega), EV.ck4 (g := (fun p_ => (X2 i p_))) (o := (e * 4)) (by omega) (by omega), (by rw [rl_lt (by omega)]; omega), (by omega), (by omega), (by omega), .mk (not_t (Bool.eq_false_iff.2 h1)), EV.ck4 (g := (fun p_ => (X2 i p_))) (o := (e * 4)) (by omega) (by omega), (by rw [rl_lt (by omega)]; omega), (by omega), (by omega), (by omega), EV.ck4 (g := (fun p_ => (X i p_))) (o := (e * 4)) (by omega) (by omega), (by rw [rl_lt (by omega)]; omega), (by omega), (by omega), (by omega), .mk (decide_eq_true h0), trivial⟩
theorem LXSc_xf (rr cw : Nat) (X X2 : Nat → Nat → Int) (ro co ro2 co2 : Int) (hi hi2 : Bool) (i e : Nat) (L : W.Rn) (k m : Nat) (f : Nat → Int)
    (hrr : 1 ≤ rr ∧ rr ≤ 60)
    (hcw : 1 ≤ cw ∧ cw ≤ 120)
    (hil : i < rr)
    (hel : e ≤ cw)
    (hm : m ≤ 120)
    (hL : L.length ≤ 10000)
    (h0 : (¬(↑e : Int) < (↑cw : Int))) :
    CodeOk Try.prog 114 200000 (kAt (kOf Try.prog Try.f13) [true, true, true, false, true, false, false, true, false, false, true, false, false, true, false, true, true, false, false, false]) (LXScI rr cw X X2 ro co ro2 co2 hi hi2 i e L k m f) (.exit 4) (LXScI rr cw X X2 ro co ro2 co2 hi hi2 i e L k m f) :=
  CodeOk.of_runs (fuel := 2) (v := ⟨[2, 3, 4, 5, 6, 8, 7], [1, 2, 3, 4, 5, 21, 37, 229, 100008, 100009, 190690, 200008], [(200008, 200008)], 200016⟩) (hs := [(4, ⟨.auto, some (.c (.bool (false)))⟩)])
    (cs := [EB (decide ((↑e : Int) < (↑cw : Int))) false])
    mixed (by kernel_rfl) ⟨.mk (decide_eq_false h0), trivial⟩
end Go.Proofs.Ytohleiikedpmkaa.Vm

namespace Go.Proofs.Ytohleiikedpmkaa.Vm
open Go Go.Proofs Go.Proofs.Ytohleiikedpmkaa
set_option maxRecDepth 100000
noncomputable def LXDcI (rr cw : Nat) (X : Nat → Nat → Int) (rr2 cw2 : Nat) (X2 : Nat → Nat → Int) (ro2 co2 : Int) (hi2 : Bool) (i e : Nat) (L : W.Rn) (k m : Nat) (f : Nat → Int) : S0 :=
  ⟨[(2, (.c (.ptr 5 0 0))), (3, (.c (.ptr 21 0 0))), (4, (.c (.ptr 37 0 0))), (5, (.c (.ptr 229 0 0))), (6, (.c (.int .i64 (i : Int)))), (8, (.c (.ptr 190690 0 0))), (7, (.c (.int .i64 (e : Int))))], [(1, (.one ⟨false, false, (.gen rr (fun j_ => (.sl 2 j_ 0 cw 4)))⟩)), (2, (.many (fun j_ => some ⟨false, false, (.ig (W.rl rr (cw * 4) j_) W.ck (fun p_ => (X j_ p_)))⟩))), (3, (.one ⟨false, false, (.gen rr2 (fun j_ => (.sl 4 j_ 0 cw2 4)))⟩)), (4, (.many (fun j_ => some ⟨false, false, (.ig (W.rl rr2 (cw2 * 4) j_) W.ck (fun p_ => (X2 j_ p_)))⟩))), (5, (.one ⟨true, true, (.cells [(.int .i64 (↑rr2)), (.int .i64 (↑cw2)), (.sl 517 0 0 rr2 1), (.int .i64 0), (.int .i64 0), (.bool (false))])⟩)), (21, (.one ⟨true, true, (.cells [(.int .i64 (↑rr2)), (.int .i64 (↑cw2)), (.sl 3 0 0 rr2 1), (.int .i64 ro2), (.int .i64 co2), (.bool hi2)])⟩)), (37, (.one ⟨true, true, (.cells [(.int .i64 0), (.int .i64 0), (.int .i64 0), (.int .i64 0), (.bool (false)), .nils])⟩)), (229, (.one ⟨true, true, .cells [.int .i64 (rr2 : Int), .int .i64 (cw2 : Int), .int .i64 ro2, .int .i64 co2, .bool hi2, .sl 100008 0 0 L.length 3]⟩)), (517, (.one ⟨true, false, (.gen rr2 (fun j_ => (.sl 518 j_ 0 cw2 4)))⟩)), (518, (.many (fun j_ => some ⟨true, true, (.ig (W.rl rr2 (cw2 * 4) j_) W.ck W.blank)⟩))), (100008, (.one ⟨true, false, .row (L.length * 3) 3 (fun k_ => [.int .i64 (W.ra L k_ : Int), .int .i64 (W.rb L k_ : Int), .sl 100009 k_ 0 (W.rn L k_) 4])⟩)), (100009, (.many (fun j_ => some ⟨true, false, .ig (W.rn L j_ * 4) W.ck (fun p_ => X2 (W.ra L j_) (p_ + W.rb L j_ * 4))⟩))), (190690, (.one ⟨true, true, .cells [.int .i64 (i : Int), .int .i64 (k : Int), .sl 200008 0 0 m 4]⟩)), (200008, (.one ⟨true, false, .ig (m * 4) W.ck f⟩))], 200016⟩
theorem LXDc_by {α : Type} (I : α → S0) (Inv : α → Prop) (μ : α → Nat) {ex : Ex} {s' : S0} (hex : ex ≠ .normal)
    (step : ∀ x, Inv x → (∃ y, Inv y ∧ μ y < μ x ∧ CodeOk Try.prog 114 200000 (kAt (kOf Try.prog Try.f13) [true, true, true, false, true, false, false, true, false, false, true, false, false, true, false, true, true, false, false, false]) (I x) .normal (I y)) ∨ CodeOk Try.prog 114 200000 (kAt (kOf Try.prog Try.f13) [true, true, true, false, true, false, false, true, false, false, true, false, false, true, false, true, true, false, false, false]) (I x) ex s') (x : α) (hx : Inv x) :
    CodeOk Try.prog 114 200000 (kAt (kOf Try.prog Try.f13) [true, true, true, false, true, false, false, true, false, false, true, false, false, true, false, true, true, false, false]) (I x) ex s' := by
  have hk : (kAt (kOf Try.prog Try.f13) [true, true, true, false, true, false, false, true, false, false, true, false, false, true, false, true, true, false, false]) = .loop (kAt (kOf Try.prog Try.f13) [true, true, true, false, true, false, false, true, false, false, true, false, false, true, false, true, true, false, false, false]) := by kernel_rfl
  rw [hk]
  exact CodeOk.loop I Inv μ hex step x hx
theorem LXDc_xtt (rr cw : Nat) (X : Nat → Nat → Int) (rr2 cw2 : Nat) (X2 : Nat → Nat → Int) (ro2 co2 : Int) (hi2 : Bool) (i e : Nat) (L : W.Rn) (k m : Nat) (f : Nat → Int)
    (hrr2 : 1 ≤ rr2 ∧ rr2 ≤ 60)
    (hcw2 : 1 ≤ cw2 ∧ cw2 ≤ 120)
    (hd : ¬ (rr2 = rr ∧ cw2 = cw))
    (hil : i < rr2)
    (hel : e ≤ cw2)
    (hm : m ≤ 120)
    (hL : L.length ≤ 10000)
    (h0 : ((↑e : Int) < (↑cw2 : Int)))
    (h1 : ((W.blank (e * (4 : Nat)) == X2 i (e * (4 : Nat)) && (W.blank (e * (4 : Nat) + (1 : Nat)) == X2 i (e * (4 : Nat) + (1 : Nat)) && (W.blank (e * (4 : Nat) + (2 : Nat)) == X2 i (e * (4 : Nat) + (2 : Nat)) && (W.blank (e * (4 : Nat) + (3 : Nat)) == X2 i (e * (4 : Nat) + (3 : Nat)) && true)))) = true)) :
    CodeOk Try.prog 114 200000 (kAt (kOf Try.prog Try.f13) [true, true, true, false, true, false, false, true, false, false, true, false, false, true, false, true, true, false, false, false]) (LXDcI rr cw X rr2 cw2 X2 ro2 co2 hi2 i e L k m f) (.exit 4) (LXDcI rr cw X rr2 cw2 X2 ro2 co2 hi2 i e L k m f) :=
  CodeOk.of_runs (fuel := 2) (v := ⟨[2, 3, 4, 5, 6, 8, 7], [1, 2, 3, 4, 5, 21, 37, 229, 517, 518, 100008, 100009, 190690, 200008], [(200008, 200008)], 200016⟩) (hs := [(4, ⟨.auto, some (.c (.bool (true)))⟩), (8, ⟨.ask, none⟩), (9, ⟨.ask, none⟩), (11, ⟨.ask, none⟩), (12, ⟨.ask, some (.agg [(.int .i32 (W.blank (e * 4))), (.int .i64 (W.blank (e * 4 + 1))), (.int .i64 (W.blank (e * 4 + 2))), (.int .i64 (W.blank (e * 4 + 3)))])⟩), (16, ⟨.ask, none⟩), (17, ⟨.ask, none⟩), (19, ⟨.ask, none⟩), (20, ⟨.ask, some (.agg [(.int .i32 (X2 i (e * 4))), (.int .i64 (X2 i (e * 4 + 1))), (.int .i64 (X2 i (e * 4 + 2))), (.int .i64 (X2 i (e * 4 + 3)))])⟩), (22, ⟨.auto, some (.c (.bool (false)))⟩)])
    (cs := [EB (!(W.blank (e * 4) == X2 i (e * 4) && (W.blank (e * 4 + 1) == X2 i (e * 4 + 1) && (W.blank (e * 4 + 2) == X2 i (e * 4 + 2) && (W.blank (e * 4 + 3) == X2 i (e * 4 + 3) && true))))) false,
      ((.agg ((List.range 4).map (fun p_ => .int (W.ck (p_ + e * 4)) (X2 i (p_ + e * 4))))) : V) = (.agg [(.int .i32 (X2 i (e * 4))), (.int .i64 (X2 i (e * 4 + 1))), (.int .i64 (X2 i (e * 4 + 2))), (.int .i64 (X2 i (e * 4 + 3)))]),
      (e * (4 : Nat) + (4 : Nat) ≤ W.rl rr2 (cw2 * (4 : Nat)) i),
      ((0 : Int) ≤ (↑e : Int) ∧ (↑e : Int) < (↑cw2 : Int)),
      (i + (1 : Nat) ≤ rr2),
      ((0 : Int) ≤ (↑i : Int) ∧ (↑i : Int) < (↑rr2 : Int)),
      ((.agg ((List.range 4).map (fun p_ => .int (W.ck (p_ + e * 4)) (W.blank (p_ + e * 4))))) : V) = (.agg [(.int .i32 (W.blank (e * 4))), (.int .i64 (W.blank (e * 4 + 1))), (.int .i64 (W.blank (e * 4 + 2))), (.int .i64 (W.blank (e * 4 + 3)))]),
      (e * (4 : Nat) + (4 : Nat) ≤ W.rl rr2 (cw2 * (4 : Nat)) i),
      ((0 : Int) ≤ (↑e : Int) ∧ (↑e : Int) < (↑cw2 : Int)),
      (i + (1 : Nat) ≤ rr2),
      ((0 : Int) ≤ (↑i : Int) ∧ (↑i : Int) < (↑rr2 : Int)),
      EB (decide ((↑e : Int) < (↑cw2 : Int))) true])
    mixed (by kernel_rfl) ⟨.mk (not_f h1), EV.ck4 (g := (fun p_ => (X2 i p_))) (o := (e * 4)) (by omega) (by omega), (by rw [rl_lt (by omega)]; omega), (by omega), (by omega), (by omega), EV.ck4 (g := (fun p_ => (W.blank p_))) (o := (e * 4)) (by omega) (by omega), (by rw [rl_lt (by omega)]; omega), (by omega), (by omega), (by omega), .mk (decide_eq_true h0), trivial⟩
theorem LXDc_rtf (rr cw : Nat) (X : Nat → Nat → Int) (rr2 cw2 : Nat) (X2 : Nat → Nat → Int) (ro2 co2 : Int) (hi2 : Bool) (i e : Nat) (L : W.Rn) (k m : Nat) (f : Nat → Int)
    (hrr2 : 1 ≤ rr2 ∧ rr2 ≤ 60)
    (hcw2 : 1 ≤ cw2 ∧ cw2 ≤ 120)
    (hd : ¬ (rr2 = rr ∧ cw2 = cw))
    (hil : i < rr2)
    (hel : e ≤ cw2)
    (hm : m ≤ 120)
    (hL : L.length ≤ 10000)
    (h0 : ((↑e : Int) < (↑cw2 : Int)))
    (h1 : (¬(W.blank (e * (4 : Nat)) == X2 i (e * (4 : Nat)) && (W.blank (e * (4 : Nat) + (1 : Nat)) == X2 i (e * (4 : Nat) + (1 : Nat)) && (W.blank (e * (4 : Nat) + (2 : Nat)) == X2 i (e * (4 : Nat) + (2 : Nat)) && (W.blank (e * (4 : Nat) + (3 : Nat)) == X2 i (e * (4 : Nat) + (3 : Nat)) && true)))) = true)) :
    CodeOk Try.prog 114 200000 (kAt (kOf Try.prog Try.f13) [true, true, true, false, true, false, false, true, false, false, true, false, false, true, false, true, true, false, false, false]) (LXDcI rr cw X rr2 cw2 X2 ro2 co2 hi2 i e L k m f) .normal ⟨[(2, (.c (.ptr 5 0 0))), (3, (.c (.ptr 21 0 0))), (4, (.c (.ptr 37 0 0))), (5, (.c (.ptr 229 0 0))), (6, (.c (.int .i64 (↑i)))), (8, (.c (.ptr 190690 0 0))), (7, (.c (.int .i64 (↑(e + 1)))))], [(1, (.one ⟨false, false, (.gen rr (fun j_ => (.sl 2 j_ 0 cw 4)))⟩)), (2, (.many (fun j_ => some ⟨false, false, (.ig (W.rl rr (cw * 4) j_) W.ck (fun p_ => (X j_ p_)))⟩))), (3, (.one ⟨false, false, (.gen rr2 (fun j_ => (.sl 4 j_ 0 cw2 4)))⟩)), (4, (.many (fun j_ => some ⟨false, false, (.ig (W.rl rr2 (cw2 * 4) j_) W.ck (fun p_ => (X2 j_ p_)))⟩))), (5, (.one ⟨true, true, (.cells [(.int .i64 (↑rr2)), (.int .i64 (↑cw2)), (.sl 517 0 0 rr2 1), (.int .i64 0), (.int .i64 0), (.bool (false))])⟩)), (21, (.one ⟨true, true, (.cells [(.int .i64 (↑rr2)), (.int .i64 (↑cw2)), (.sl 3 0 0 rr2 1), (.int .i64 ro2), (.int .i64 co2), (.bool hi2)])⟩)), (37, (.one ⟨true, true, (.cells [(.int .i64 0), (.int .i64 0), (.int .i64 0), (.int .i64 0), (.bool (false)), .nils])⟩)), (229, (.one ⟨true, true, (.cells [(.int .i64 (↑rr2)), (.int .i64 (↑cw2)), (.int .i64 ro2), (.int .i64 co2), (.bool hi2), (.sl 100008 0 0 (List.length L) 3)])⟩)), (517, (.one ⟨true, false, (.gen rr2 (fun j_ => (.sl 518 j_ 0 cw2 4)))⟩)), (518, (.many (fun j_ => some ⟨true, true, (.ig (W.rl rr2 (cw2 * 4) j_) W.ck W.blank)⟩))), (100008, (.one ⟨true, false, (.row (List.length L * 3) 3 (fun j_ => [(.int .i64 (↑(W.ra L j_))), (.int .i64 (↑(W.rb L j_))), (.sl 100009 j_ 0 (W.rn L j_) 4)]))⟩)), (100009, (.many (fun j_ => some ⟨true, false, (.ig (W.rn L j_ * 4) W.ck (fun p_ => (X2 (W.ra L j_) (p_ + W.rb L j_ * 4))))⟩))), (190690, (.one ⟨true, true, (.cells [(.int .i64 (↑i)), (.int .i64 (↑k)), (.sl 200000 0 0 (m + 1) 4)])⟩)), (200000, (.one ⟨true, false, (.ig (mulE m 4 + 4) (fun p_ => (bif Nat.blt p_ (m * 4) then W.ck (p_ + 0) else igK [(IntKind.i32, X2 i (e * 4)), (IntKind.i64, X2 i (e * 4 + 1)), (IntKind.i64, X2 i (e * 4 + 2)), (IntKind.i64, X2 i (e * 4 + 3))] (p_ - m * 4))) (fun p_ => (bif Nat.blt p_ (m * 4) then f (p_ + 0) else igG [(IntKind.i32, X2 i (e * 4)), (IntKind.i64, X2 i (e * 4 + 1)), (IntKind.i64, X2 i (e * 4 + 2)), (IntKind.i64, X2 i (e * 4 + 3))] (p_ - m * 4))))⟩))], 200016⟩ :=
  CodeOk.of_runs (fuel := 2) (v := ⟨[2, 3, 4, 5, 6, 8, 7], [1, 2, 3, 4, 5, 21, 37, 229, 517, 518, 100008, 100009, 190690, 200008, 200560], [(200008, 200008), (200560, 200000)], 200016⟩) (hs := [(4, ⟨.auto, some (.c (.bool (true)))⟩), (8, ⟨.ask, none⟩), (9, ⟨.ask, none⟩), (11, ⟨.ask, none⟩), (12, ⟨.ask, some (.agg [(.int .i32 (W.blank (e * 4))), (.int .i64 (W.blank (e * 4 + 1))), (.int .i64 (W.blank (e * 4 + 2))), (.int .i64 (W.blank (e * 4 + 3)))])⟩), (16, ⟨.ask, none⟩), (17, ⟨.ask, none⟩), (19, ⟨.ask, none⟩), (20, ⟨.ask, some (.agg [(.int .i32 (X2 i (e * 4))), (.int .i64 (X2 i (e * 4 + 1))), (.int .i64 (X2 i (e * 4 + 2))), (.int .i64 (X2 i (e * 4 + 3)))])⟩), (22, ⟨.auto, some (.c (.bool (true)))⟩), (29, ⟨.ask, none⟩), (30, ⟨.ask, none⟩), (32, ⟨.ask, none⟩), (33, ⟨.ask, some (.agg [(.int .i32 (X2 i (e * 4))), (.int .i64 (X2 i (e * 4 + 1))), (.int .i64 (X2 i (e * 4 + 2))), (.int .i64 (X2 i (e * 4 + 3)))])⟩), (35, ⟨.ask, some (.c (.sl 200560 0 0 (m + 1) 4))⟩), (39, ⟨.auto, some (.c (.int .i64 (↑(e + 1))))⟩)])
    (cs := [EI .i64 (IntKind.wrap IntKind.i64 ((↑e : Int) + 1)) ((↑(e + 1) : Int)),
      ((.c (.sl 200560 0 0 (addO m 1) 4)) : V) = (.c (.sl 200560 0 0 (m + 1) 4)),
      ((4 : Nat) ≤ (4 : Nat) ∧ (33 : Nat) * (m + (1 : Nat)) ≤ (4398046511104 : Nat) ∧ (0 : Nat) + m * (4 : Nat) ≤ m * (4 : Nat)),
      ((.agg ((List.range 4).map (fun p_ => .int (W.ck (p_ + e * 4)) (X2 i (p_ + e * 4))))) : V) = (.agg [(.int .i32 (X2 i (e * 4))), (.int .i64 (X2 i (e * 4 + 1))), (.int .i64 (X2 i (e * 4 + 2))), (.int .i64 (X2 i (e * 4 + 3)))]),
      (e * (4 : Nat) + (4 : Nat) ≤ W.rl rr2 (cw2 * (4 : Nat)) i),
      ((0 : Int) ≤ (↑e : Int) ∧ (↑e : Int) < (↑cw2 : Int)),
      (i + (1 : Nat) ≤ rr2),
      ((0 : Int) ≤ (↑i : Int) ∧ (↑i : Int) < (↑rr2 : Int)),
      EB (!(W.blank (e * 4) == X2 i (e * 4) && (W.blank (e * 4 + 1) == X2 i (e * 4 + 1) && (W.blank (e * 4 + 2) == X2 i (e * 4 + 2) && (W.blank (e * 4 + 3) == X2 i (e * 4 + 3) && true))))) true,
      ((.agg ((List.range 4).map (fun p_ => .int (W.ck (p_ + e * 4)) (X2 i (p_ + e * 4))))) : V) = (.agg [(.int .i32 (X2 i (e * 4))), (.int .i64 (X2 i (e * 4 + 1))), (.int .i64 (X2 i (e * 4 + 2))), (.int .i64 (X2 i (e * 4 + 3)))]),
      (e * (4 : Nat) + (4 : Nat) ≤ W.rl rr2 (cw2 * (4 : Nat)) i),
      ((0 : Int) ≤ (↑e : Int) ∧ (↑e : Int) < (↑cw2 : Int)),
      (i + (1 : Nat) ≤ rr2),
      ((0 : Int) ≤ (↑i : Int) ∧ (↑i : Int) < (↑rr2 : Int)),
      ((.agg ((List.range 4).map (fun p_ => .int (W.ck (p_ + e * 4)) (W.blank (p_ + e * 4))))) : V) = (.agg [(.int .i32 (W.blank (e * 4))), (.int .i64 (W.blank (e * 4 + 1))), (.int .i64 (W.blank (e * 4 + 2))), (.int .i64 (W.blank (e * 4 + 3)))]),
      (e * (4 : Nat) + (4 : Nat) ≤ W.rl rr2 (cw2 * (4 : Nat)) i),
      ((0 : Int) ≤ (↑e : Int) ∧ (↑e : Int) < (↑cw2 : Int)),
      (i + (1 : Nat) ≤ rr2),
      ((0 : Int) ≤ (↑i : Int) ∧ (↑i : Int) < (↑rr2 : Int)),
      EB (decide ((↑e : Int) < (↑cw2 : Int))) true])
    mixed (by kernel_rfl) ⟨.mk (by simp only [addO_eq, mulE_eq, mulE_one, Int.toNat_natCast, IntKind.wrap_i64, mmin, mmax]; omega), EV.sl (by rfl) (by simp only [addO_eq, mulE_eq, mulE_one, Int.toNat_natCast, IntKind.wrap_i64, mmin, mmax]), (by omega), EV.ck4 (g := (fun p_ => (X2 i p_))) (o := (e * 4)) (by omega) (by omega), (by rw [rl_lt (by omega)]; omega), (by omega), (by omega), (by omega), .mk (not_t (Bool.eq_false_iff.2 h1)), EV.ck4 (g := (fun p_ => (X2 i p_))) (o := (e * 4)) (by omega) (by omega), (by rw [rl_lt (by omega)]; omega), (by omega), (by omega), (by omega), EV.ck4 (g := (fun p_ => (W.blank p_))) (o := (e * 4)) (by omega) (by omega), (by rw [rl_lt (by omega)]; omega), (by omega), (by omega), (by omega), .mk (decide_eq_true h0), trivial⟩
theorem LXDc_xf (rr cw : Nat) (X : Nat → Nat → Int) (rr2 cw2 : Nat) (X2 : Nat → Nat → Int) (ro2 co2 : Int) (hi2 : Bool) (i e : Nat) (L : W.Rn) (k m : Nat) (f : Nat → Int)
    (hrr2 : 1 ≤ rr2 ∧ rr2 ≤ 60)
    (hcw2 : 1 ≤ cw2 ∧ cw2 ≤ 120)
    (hd : ¬ (rr2 = rr ∧ cw2 = cw))
    (hil : i < rr2)
    (hel : e ≤ cw2)
    (hm : m ≤ 120)
    (hL : L.length ≤ 10000)
    (h0 : (¬(↑e : Int) < (↑cw2 : Int))) :
    CodeOk Try.prog 114 200000 (kAt (kOf Try.prog Try.f13) [true, true, true, false, true, false, false, true, false, false, true, false, false, true, false, true, true, false, false, false]) (LXDcI rr cw X rr2 cw2 X2 ro2 co2 hi2 i e L k m f) (.exit 4) (LXDcI rr cw X rr2 cw2 X2 ro2 co2 hi2 i e L k m f) :=
  CodeOk.of_runs (fuel := 2) (v := ⟨[2, 3, 4, 5, 6, 8, 7], [1, 2, 3, 4, 5, 21, 37, 229, 517, 518, 100008, 100009, 190690, 200008], [(200008, 200008)], 200016⟩) (hs := [(4, ⟨.auto, some (.c (.bool (false)))⟩)])
    (cs := [EB (decide ((↑e : Int) < (↑cw2 : Int))) false])
    mixed (by kernel_rfl) ⟨.mk (decide_eq_false h0), trivial⟩
end Go.Proofs.Ytohleiikedpmkaa.Vm
