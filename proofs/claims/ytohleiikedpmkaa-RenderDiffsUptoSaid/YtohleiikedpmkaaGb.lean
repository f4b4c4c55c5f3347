/- What functions of the program come to: parts of the walk (Gb). -/
import Derived.Test.YtohleiikedpmkaaGa
import Derived.KernelRfl
import Derived.Test.YtohleiikedpmkaaProg
import Derived.Test.YtohleiikedpmkaaVmc
set_option linter.unusedSimpArgs false
set_option linter.unusedVariables false
namespace Go.Proofs.Ytohleiikedpmkaa.Vm
open Go Go.Proofs Go.Proofs.Ytohleiikedpmkaa
set_option maxRecDepth 100000
noncomputable def LMI (rr cw : Nat) (X : Nat → Nat → Int) (rr2 cw2 : Nat) (X2 : Nat → Nat → Int) (ro2 co2 : Int) (hi2 : Bool) (Z : Nat → Nat → Int) (L : W.Rn) (i k : Nat) : S0 :=
  ⟨[(4, (.c (.ptr 37 0 0))), (5, (.c (.ptr 229 0 0))), (6, (.c (.sl 469 0 0 rr2 1))), (38, (.c (.sl 3 0 0 rr2 1))), (39, (.c (.int .i64 (↑rr2)))), (40, (.c (.int .i64 (i : Int)))), (7, (.c (.int .i64 (i : Int)))), (8, (.c (.sl 4 i 0 cw2 4))), (9, (.c (.int .i64 (k : Int))))], [(1, (.one ⟨false, false, (.gen rr (fun j_ => (.sl 2 j_ 0 cw 4)))⟩)), (2, (.many (fun j_ => some ⟨false, false, (.ig (W.rl rr (cw * 4) j_) W.ck (fun p_ => (X j_ p_)))⟩))), (3, (.one ⟨false, false, (.gen rr2 (fun j_ => (.sl 4 j_ 0 cw2 4)))⟩)), (4, (.many (fun j_ => some ⟨false, false, (.ig (W.rl rr2 (cw2 * 4) j_) W.ck (fun p_ => (X2 j_ p_)))⟩))), (37, (.one ⟨true, true, (.cells [(.int .i64 0), (.int .i64 0), (.int .i64 0), (.int .i64 0), (.bool (false)), .nils])⟩)), (229, (.one ⟨true, true, .cells [.int .i64 (rr2 : Int), .int .i64 (cw2 : Int), .int .i64 ro2, .int .i64 co2, .bool hi2, .sl 100008 0 0 L.length 3]⟩)), (469, (.one ⟨true, false, (.gen rr2 (fun j_ => (.sl 470 j_ 0 cw2 4)))⟩)), (470, (.many (fun j_ => some ⟨true, false, .ig (W.rl rr2 (cw2 * 4) j_) W.ck (Z j_)⟩))), (100008, (.one ⟨true, false, .row (L.length * 3) 3 (fun k_ => [.int .i64 (W.ra L k_ : Int), .int .i64 (W.rb L k_ : Int), .sl 100009 k_ 0 (W.rn L k_) 4])⟩)), (100009, (.many (fun j_ => some ⟨true, false, .ig (W.rn L j_ * 4) W.ck (fun p_ => X2 (W.ra L j_) (p_ + W.rb L j_ * 4))⟩)))], 100016⟩
theorem LM_by {α : Type} (I : α → S0) (Inv : α → Prop) (μ : α → Nat) {ex : Ex} {s' : S0} (hex : ex ≠ .normal)
    (step : ∀ x, Inv x → (∃ y, Inv y ∧ μ y < μ x ∧ CodeOk Try.prog 90 100000 (kAt (kOf Try.prog Try.f11) [true, true, true, true, false, true, false, false, true, true, false, false, true, true, false, false]) (I x) .normal (I y)) ∨ CodeOk Try.prog 90 100000 (kAt (kOf Try.prog Try.f11) [true, true, true, true, false, true, false, false, true, true, false, false, true, true, false, false]) (I x) ex s') (x : α) (hx : Inv x) :
    CodeOk Try.prog 90 100000 (kAt (kOf Try.prog Try.f11) [true, true, true, true, false, true, false, false, true, true, false, false, true, true, false]) (I x) ex s' := by
  have hk : (kAt (kOf Try.prog Try.f11) [true, true, true, true, false, true, false, false, true, true, false, false, true, true, false]) = .loop (kAt (kOf Try.prog Try.f11) [true, true, true, true, false, true, false, false, true, true, false, false, true, true, false, false]) := by kernel_rfl
  rw [hk]
  exact CodeOk.loop I Inv μ hex step x hx
theorem LM_rtt (rr cw : Nat) (X : Nat → Nat → Int) (ro co : Int) (rr2 cw2 : Nat) (X2 : Nat → Nat → Int) (ro2 co2 : Int) (hi2 : Bool) (Z : Nat → Nat → Int) (L : W.Rn) (i k : Nat)
    (hrr : 1 ≤ rr ∧ rr ≤ 60)
    (hcw : 1 ≤ cw ∧ cw ≤ 120)
    (hro : 0 ≤ ro ∧ ro < rr)
    (hco : 0 ≤ co ∧ co < cw)
    (hX : ∀ j, j < rr → W.okRow (X j) cw)
    (hrr2 : 1 ≤ rr2 ∧ rr2 ≤ 60)
    (hcw2 : 1 ≤ cw2 ∧ cw2 ≤ 120)
    (hro2 : 0 ≤ ro2 ∧ ro2 < rr2)
    (hco2 : 0 ≤ co2 ∧ co2 < cw2)
    (hX2 : ∀ j, j < rr2 → W.okRow (X2 j) cw2)
    (hil : i < rr2)
    (hk : k ≤ cw2 + 1)
    (h0 : ((↑k : Int) < (↑cw2 : Int)))
    (h1 : ((↑(W.stopAt X2 (fun j_ p_ => Z j_ p_) i cw2 k) : Int) > (↑k : Int)))
    (c2 : ((0 : Int) ≤ (↑k : Int) ∧ (↑k : Int) ≤ (↑(W.stopAt X2 (fun j_ p_ => Z j_ p_) i cw2 k) : Int) ∧ (↑(W.stopAt X2 (fun j_ p_ => Z j_ p_) i cw2 k) : Int) ≤ (↑cw2 : Int)))
    (c3 : ((3 : Nat) ≤ (3 : Nat) ∧ (41 : Nat) * (List.length L + (1 : Nat)) ≤ (4398046511104 : Nat) ∧ (0 : Nat) + List.length L * (3 : Nat) ≤ List.length L * (3 : Nat))) :
    CodeOk Try.prog 90 100000 (kAt (kOf Try.prog Try.f11) [true, true, true, true, false, true, false, false, true, true, false, false, true, true, false, false]) (LMI rr cw X rr2 cw2 X2 ro2 co2 hi2 Z L i k) .normal ⟨[(4, (.c (.ptr 37 0 0))), (5, (.c (.ptr 229 0 0))), (6, (.c (.sl 469 0 0 rr2 1))), (38, (.c (.sl 3 0 0 rr2 1))), (39, (.c (.int .i64 (↑rr2)))), (40, (.c (.int .i64 (↑i)))), (7, (.c (.int .i64 (↑i)))), (8, (.c (.sl 4 i 0 cw2 4))), (9, (.c (.int .i64 (↑(W.stopAt X2 (fun j_ p_ => Z j_ p_) i cw2 k + 1)))))], [(1, (.one ⟨false, false, (.gen rr (fun j_ => (.sl 2 j_ 0 cw 4)))⟩)), (2, (.many (fun j_ => some ⟨false, false, (.ig (W.rl rr (cw * 4) j_) W.ck (fun p_ => (X j_ p_)))⟩))), (3, (.one ⟨false, false, (.gen rr2 (fun j_ => (.sl 4 j_ 0 cw2 4)))⟩)), (4, (.many (fun j_ => some ⟨false, false, (.ig (W.rl rr2 (cw2 * 4) j_) W.ck (fun p_ => (X2 j_ p_)))⟩))), (37, (.one ⟨true, true, (.cells [(.int .i64 0), (.int .i64 0), (.int .i64 0), (.int .i64 0), (.bool (false)), .nils])⟩)), (229, (.one ⟨true, true, (.cells [(.int .i64 (↑rr2)), (.int .i64 (↑cw2)), (.int .i64 ro2), (.int .i64 co2), (.bool hi2), (.sl 100000 0 0 (List.length L + 1) 3)])⟩)), (469, (.one ⟨true, false, (.gen rr2 (fun j_ => (.sl 470 j_ 0 cw2 4)))⟩)), (470, (.many (fun j_ => some ⟨true, false, (.ig (W.rl rr2 (cw2 * 4) j_) W.ck (fun p_ => (Z j_ p_)))⟩))), (100009, (.many (fun j_ => some ⟨true, false, (.ig (W.rn L j_ * 4) W.ck (fun p_ => (X2 (W.ra L j_) (p_ + W.rb L j_ * 4))))⟩))), (100000, (.one ⟨true, false, (.gen (mulE (List.length L) 3 + 3) (fun j_ => (renC [(100008, 100008), (100009, 100009), (200240, 100000), (200192, 100001)] 100000 (bif Nat.blt j_ (List.length L * 3) then recGet 3 (fun k_ => [C.int IntKind.i64 (↑(W.ra L k_) : Int), C.int IntKind.i64 (↑(W.rb L k_) : Int), C.sl 100009 k_ 0 (W.rn L k_) 4]) (0 + j_) else List.getD (List.take 3 (List.drop 0 [C.int IntKind.i64 (↑i : Int), C.int IntKind.i64 (↑k : Int), C.sl 200192 0 0 (W.stopAt X2 (fun j_ p_ => Z j_ p_) i cw2 k - k) 4])) (j_ - List.length L * 3) C.unk))))⟩)), (100001, (.one ⟨true, false, (.ig ((W.stopAt X2 (fun j_ p_ => Z j_ p_) i cw2 k - k) * 4) W.ck (fun p_ => (X2 i (p_ + k * 4))))⟩))], 100016⟩ :=
  CodeOk.of_runs (fuel := 300) (v := ⟨[4, 5, 6, 38, 39, 40, 7, 8, 9], [1, 2, 3, 4, 37, 229, 469, 470, 100008, 100009, 200240, 200192], [(100008, 100008), (100009, 100009), (200240, 100000), (200192, 100001)], 100016⟩) (hs := [(3, ⟨.auto, some (.c (.bool (true)))⟩), (7, ⟨.sum ⟨[4, 5, 6, 38, 39, 40, 7, 8, 9, 10], [1, 2, 3, 4, 37, 229, 469, 470, 100008, 100009], [], 200016⟩ (.exit 4) (LGI rr cw X rr2 cw2 X2 ro2 co2 hi2 (fun j_ p_ => Z j_ p_) L i k (W.stopAt X2 (fun j_ p_ => Z j_ p_) i cw2 k)), none⟩), (10, ⟨.auto, some (.c (.bool (true)))⟩), (19, ⟨.ask, some (.c (.sl 4 i (k * 4) (W.stopAt X2 (fun j_ p_ => Z j_ p_) i cw2 k - k) 4))⟩), (20, ⟨.call [4] (.c (.sl 200192 0 0 (W.stopAt X2 (fun j_ p_ => Z j_ p_) i cw2 k - k) 4)) [] [(200192, (.one ⟨true, false, (.ig ((W.stopAt X2 (fun j_ p_ => Z j_ p_) i cw2 k - k) * 4) W.ck (fun p_ => (X2 i (p_ + k * 4))))⟩))], none⟩), (23, ⟨.ask, some (.c (.sl 200240 0 0 (List.length L + 1) 3))⟩), (27, ⟨.auto, some (.c (.int .i64 (↑(W.stopAt X2 (fun j_ p_ => Z j_ p_) i cw2 k + 1))))⟩)])
    (cs := [EI .i64 (IntKind.wrap IntKind.i64 ((↑(W.stopAt X2 (fun j_ p_ => Z j_ p_) i cw2 k) : Int) + 1)) ((↑(W.stopAt X2 (fun j_ p_ => Z j_ p_) i cw2 k + 1) : Int)),
      ((.c (.sl 200240 0 0 (addO (List.length L) 1) 3)) : V) = (.c (.sl 200240 0 0 (List.length L + 1) 3)),
      ((3 : Nat) ≤ (3 : Nat) ∧ (41 : Nat) * (List.length L + (1 : Nat)) ≤ (4398046511104 : Nat) ∧ (0 : Nat) + List.length L * (3 : Nat) ≤ List.length L * (3 : Nat)),
      Contract Try.prog 31 [(.c (.sl 4 i (k * 4) (W.stopAt X2 (fun j_ p_ => Z j_ p_) i cw2 k - k) 4))] [(4, (.many (fun j_ => some ⟨false, false, (.ig (W.rl rr2 (cw2 * 4) j_) W.ck (fun p_ => (X2 j_ p_)))⟩)))] 200192 (.c (.sl 200192 0 0 (W.stopAt X2 (fun j_ p_ => Z j_ p_) i cw2 k - k) 4)) [] [(200192, (.one ⟨true, false, (.ig ((W.stopAt X2 (fun j_ p_ => Z j_ p_) i cw2 k - k) * 4) W.ck (fun p_ => (X2 i (p_ + k * 4))))⟩))],
      ((.c (.sl 4 i (addO 0 (mulE k 4)) (Int.toNat (↑(W.stopAt X2 (fun j_ p_ => Z j_ p_) i cw2 k) - ↑k)) 4)) : V) = (.c (.sl 4 i (k * 4) (W.stopAt X2 (fun j_ p_ => Z j_ p_) i cw2 k - k) 4)),
      ((0 : Int) ≤ (↑k : Int) ∧ (↑k : Int) ≤ (↑(W.stopAt X2 (fun j_ p_ => Z j_ p_) i cw2 k) : Int) ∧ (↑(W.stopAt X2 (fun j_ p_ => Z j_ p_) i cw2 k) : Int) ≤ (↑cw2 : Int)),
      EB (decide ((↑(W.stopAt X2 (fun j_ p_ => Z j_ p_) i cw2 k) : Int) > (↑k : Int))) true,
      CodeOk Try.prog 90 100112 (kAt (kOf Try.prog Try.f11) [true, true, true, true, false, true, false, false, true, true, false, false, true, true, false, false, true, false, true, false, false]) (LGI rr cw X rr2 cw2 X2 ro2 co2 hi2 (fun j_ p_ => Z j_ p_) L i k k) (.exit 4) (LGI rr cw X rr2 cw2 X2 ro2 co2 hi2 (fun j_ p_ => Z j_ p_) L i k (W.stopAt X2 (fun j_ p_ => Z j_ p_) i cw2 k)),
      EB (decide ((↑k : Int) < (↑cw2 : Int))) true])
    mixed (by kernel_rfl) ⟨.mk (by simp only [addO_eq, mulE_eq, mulE_one, Int.toNat_natCast, IntKind.wrap_i64, mmin, mmax]; omega), EV.sl (by rfl) (by simp only [addO_eq, mulE_eq, mulE_one, Int.toNat_natCast, IntKind.wrap_i64, mmin, mmax]), c3, ContractN.fin (ContractN.famB (bd := (.ig (W.rl rr2 (cw2 * 4) i) W.ck (fun p_ => (X2 i p_)))) (ex := false) (args1 := [(.c (.sl 200207 0 (k * 4) (W.stopAt X2 (fun j_ p_ => Z j_ p_) i cw2 k - k) 4))]) 200207 4 i (Contract0.instN (clone_ok (fun p_ => X2 i p_) (W.stopAt X2 (fun j_ p_ => Z j_ p_) i cw2 k - k) (W.rl rr2 (cw2 * 4) i) k (by rw [rl_lt (by omega)]; omega) (by omega)) [.b 200207 1 true []] [none] [(2, 200192)] [] (by kernel_rfl) (by kernel_rfl) (by kernel_rfl) (by kernel_rfl) (by kernel_rfl)) (by kernel_rfl) (by kernel_rfl) (by kernel_rfl) (by kernel_rfl) (by kernel_rfl) (by kernel_rfl)) (by kernel_rfl), EV.sl (by rfl) (by omega), c2, .mk (decide_eq_true h1), (CodeOk.mono (diff_inner rr cw X rr2 cw2 X2 ro2 co2 hi2 (fun j_ p_ => Z j_ p_) L i k (by omega) (by omega) (by omega) (by omega) (by omega) (by omega) (by omega) (by omega) (by omega) (by omega)) (by decide)), .mk (decide_eq_true h0), trivial⟩
theorem LM_rtf (rr cw : Nat) (X : Nat → Nat → Int) (ro co : Int) (rr2 cw2 : Nat) (X2 : Nat → Nat → Int) (ro2 co2 : Int) (hi2 : Bool) (Z : Nat → Nat → Int) (L : W.Rn) (i k : Nat)
    (hrr : 1 ≤ rr ∧ rr ≤ 60)
    (hcw : 1 ≤ cw ∧ cw ≤ 120)
    (hro : 0 ≤ ro ∧ ro < rr)
    (hco : 0 ≤ co ∧ co < cw)
    (hX : ∀ j, j < rr → W.okRow (X j) cw)
    (hrr2 : 1 ≤ rr2 ∧ rr2 ≤ 60)
    (hcw2 : 1 ≤ cw2 ∧ cw2 ≤ 120)
    (hro2 : 0 ≤ ro2 ∧ ro2 < rr2)
    (hco2 : 0 ≤ co2 ∧ co2 < cw2)
    (hX2 : ∀ j, j < rr2 → W.okRow (X2 j) cw2)
    (hil : i < rr2)
    (hk : k ≤ cw2 + 1)
    (h0 : ((↑k : Int) < (↑cw2 : Int)))
    (h1 : (¬(↑(W.stopAt X2 (fun j_ p_ => Z j_ p_) i cw2 k) : Int) > (↑k : Int))) :
    CodeOk Try.prog 90 100000 (kAt (kOf Try.prog Try.f11) [true, true, true, true, false, true, false, false, true, true, false, false, true, true, false, false]) (LMI rr cw X rr2 cw2 X2 ro2 co2 hi2 Z L i k) .normal (LMI rr cw X rr2 cw2 X2 ro2 co2 hi2 (fun j_ p_ => Z j_ p_) L i (W.stopAt X2 (fun j_ p_ => Z j_ p_) i cw2 k + 1)) :=
  CodeOk.of_runs (fuel := 300) (v := ⟨[4, 5, 6, 38, 39, 40, 7, 8, 9], [1, 2, 3, 4, 37, 229, 469, 470, 100008, 100009], [(100008, 100008), (100009, 100009)], 100016⟩) (hs := [(3, ⟨.auto, some (.c (.bool (true)))⟩), (7, ⟨.sum ⟨[4, 5, 6, 38, 39, 40, 7, 8, 9, 10], [1, 2, 3, 4, 37, 229, 469, 470, 100008, 100009], [], 200016⟩ (.exit 4) (LGI rr cw X rr2 cw2 X2 ro2 co2 hi2 (fun j_ p_ => Z j_ p_) L i k (W.stopAt X2 (fun j_ p_ => Z j_ p_) i cw2 k)), none⟩), (10, ⟨.auto, some (.c (.bool (false)))⟩), (13, ⟨.auto, some (.c (.int .i64 (↑(W.stopAt X2 (fun j_ p_ => Z j_ p_) i cw2 k + 1))))⟩)])
    (cs := [EI .i64 (IntKind.wrap IntKind.i64 ((↑(W.stopAt X2 (fun j_ p_ => Z j_ p_) i cw2 k) : Int) + 1)) ((↑(W.stopAt X2 (fun j_ p_ => Z j_ p_) i cw2 k + 1) : Int)),
      EB (decide ((↑(W.stopAt X2 (fun j_ p_ => Z j_ p_) i cw2 k) : Int) > (↑k : Int))) false,
      CodeOk Try.prog 90 100112 (kAt (kOf Try.prog Try.f11) [true, true, true, true, false, true, false, false, true, true, false, false, true, true, false, false, true, false, true, false, false]) (LGI rr cw X rr2 cw2 X2 ro2 co2 hi2 (fun j_ p_ => Z j_ p_) L i k k) (.exit 4) (LGI rr cw X rr2 cw2 X2 ro2 co2 hi2 (fun j_ p_ => Z j_ p_) L i k (W.stopAt X2 (fun j_ p_ => Z j_ p_) i cw2 k)),
      EB (decide ((↑k : Int) < (↑cw2 : Int))) true])
    mixed (by kernel_rfl) ⟨.mk (by simp only [addO_eq, mulE_eq, mulE_one, Int.toNat_natCast, IntKind.wrap_i64, mmin, mmax]; omega), .mk (decide_eq_false h1), (CodeOk.mono (diff_inner rr cw X rr2 cw2 X2 ro2 co2 hi2 (fun j_ p_ => Z j_ p_) L i k (by omega) (by omega) (by omega) (by omega) (by omega) (by omega) (by omega) (by omega) (by omega) (by omega)) (by decide)), .mk (decide_eq_true h0), trivial⟩
theorem LM_xf (rr cw : Nat) (X : Nat → Nat → Int) (ro co : Int) (rr2 cw2 : Nat) (X2 : Nat → Nat → Int) (ro2 co2 : Int) (hi2 : Bool) (Z : Nat → Nat → Int) (L : W.Rn) (i k : Nat)
    (hrr : 1 ≤ rr ∧ rr ≤ 60)
    (hcw : 1 ≤ cw ∧ cw ≤ 120)
    (hro : 0 ≤ ro ∧ ro < rr)
    (hco : 0 ≤ co ∧ co < cw)
    (hX : ∀ j, j < rr → W.okRow (X j) cw)
    (hrr2 : 1 ≤ rr2 ∧ rr2 ≤ 60)
    (hcw2 : 1 ≤ cw2 ∧ cw2 ≤ 120)
    (hro2 : 0 ≤ ro2 ∧ ro2 < rr2)
    (hco2 : 0 ≤ co2 ∧ co2 < cw2)
    (hX2 : ∀ j, j < rr2 → W.okRow (X2 j) cw2)
    (hil : i < rr2)
    (hk : k ≤ cw2 + 1)
    (h0 : (¬(↑k : Int) < (↑cw2 : Int))) :
    CodeOk Try.prog 90 100000 (kAt (kOf Try.prog Try.f11) [true, true, true, true, false, true, false, false, true, true, false, false, true, true, false, false]) (LMI rr cw X rr2 cw2 X2 ro2 co2 hi2 Z L i k) (.exit 2) (LMI rr cw X rr2 cw2 X2 ro2 co2 hi2 (fun j_ p_ => Z j_ p_) L i k) :=
  CodeOk.of_runs (fuel := 300) (v := ⟨[4, 5, 6, 38, 39, 40, 7, 8, 9], [1, 2, 3, 4, 37, 229, 469, 470, 100008, 100009], [(100008, 100008), (100009, 100009)], 100016⟩) (hs := [(3, ⟨.auto, some (.c (.bool (false)))⟩)])
    (cs := [EB (decide ((↑k : Int) < (↑cw2 : Int))) false])
    mixed (by kernel_rfl) ⟨.mk (decide_eq_false h0), trivial⟩
end Go.Proofs.Ytohleiikedpmkaa.Vm

namespace Go.Proofs.Ytohleiikedpmkaa.W
theorem ra_old {L : Rn} {x : Nat × Nat × Nat} {k : Nat} (h : k < L.length) : ra (L ++ [x]) k = ra L k ∧ rb (L ++ [x]) k = rb L k ∧ rn (L ++ [x]) k = rn L k := by
  unfold ra rb rn
  rw [Vm.getD_l _ _ _ _ h]
  exact ⟨rfl, rfl, rfl⟩
theorem ra_new {L : Rn} {x : Nat × Nat × Nat} : ra (L ++ [x]) L.length = x.1 ∧ rb (L ++ [x]) L.length = x.2.1 ∧ rn (L ++ [x]) L.length = x.2.2 := by
  unfold ra rb rn
  rw [Vm.getD_r _ _ _ _ (Nat.le_refl _), Nat.sub_self]
  exact ⟨rfl, rfl, rfl⟩
theorem rn_out {L : Rn} {k : Nat} (h : L.length ≤ k) : rn L k = 0 := by
  unfold rn
  rw [List.getD_eq_getElem?_getD, List.getElem?_eq_none h]
  rfl
end Go.Proofs.Ytohleiikedpmkaa.W
namespace Go.Proofs.Ytohleiikedpmkaa.Vm
open Go Go.Proofs Go.Proofs.Ytohleiikedpmkaa
theorem run_cell {n0 H h' F N N' a b c j : Nat} {L : W.Rn} {t : Th} (hj : j < (L.length + 1) * 3) (hF : n0 ≤ F) (h1 : F ≠ H) (e1 : ren t n0 F = some F) (e2 : ren t n0 N = some N') :
    CR (growRho n0 H h' F N' L.length) (renC t n0 (bif Nat.blt j (List.length L * 3) then recGet 3 (fun k_ => [C.int IntKind.i64 (↑(W.ra L k_) : Int), C.int IntKind.i64 (↑(W.rb L k_) : Int), C.sl F k_ 0 (W.rn L k_) 4]) (0 + j) else List.getD (List.take 3 (List.drop 0 [C.int IntKind.i64 (↑a : Int), C.int IntKind.i64 (↑b : Int), C.sl N 0 0 c 4])) (j - List.length L * 3) C.unk))
      (recGet 3 (fun k_ => [C.int IntKind.i64 (↑(W.ra (L ++ [(a, b, c)]) k_) : Int), C.int IntKind.i64 (↑(W.rb (L ++ [(a, b, c)]) k_) : Int), C.sl F k_ 0 (W.rn (L ++ [(a, b, c)]) k_) 4]) j) := by
  by_cases h : j < L.length * 3
  · rw [bltT h, Nat.zero_add]
    simp only [cond_true]
    have hk : j / 3 < L.length := by omega
    obtain ⟨o1, o2, o3⟩ := W.ra_old (x := (a, b, c)) hk
    unfold recGet
    simp only [o1, o2, o3]
    rcases (by omega : j % 3 = 0 ∨ j % 3 = 1 ∨ j % 3 = 2) with e | e | e <;> rw [e]
    · exact ⟨rfl, rfl⟩
    · exact ⟨rfl, rfl⟩
    · show CR _ (renC t n0 (C.sl F (j / 3) 0 (W.rn L (j / 3)) 4)) (C.sl F (j / 3) 0 (W.rn L (j / 3)) 4)
      simp only [renC, e1]
      exact ⟨growRho_F hF h1 (by omega), rfl, rfl, rfl⟩
  · rw [bltF h]
    simp only [cond_false]
    have hk : j / 3 = L.length := by omega
    obtain ⟨o1, o2, o3⟩ := W.ra_new (L := L) (x := (a, b, c))
    unfold recGet
    rw [hk]
    simp only [o1, o2, o3]
    rcases (by omega : (j % 3 = 0 ∧ j - L.length * 3 = 0) ∨ (j % 3 = 1 ∧ j - L.length * 3 = 1) ∨ (j % 3 = 2 ∧ j - L.length * 3 = 2)) with ⟨e, e'⟩ | ⟨e, e'⟩ | ⟨e, e'⟩ <;> rw [e, e']
    · exact ⟨rfl, rfl⟩
    · exact ⟨rfl, rfl⟩
    · show CR _ (renC t n0 (C.sl N 0 0 c 4)) (C.sl F L.length 0 c 4)
      simp only [renC, e2]
      exact ⟨growRho_i hF h1, rfl, rfl, rfl⟩
theorem run_row {n0 H h' F N a b c : Nat} {L : W.Rn} {me : Mem} {Y : Nat → Nat → Int} {o e e0 : Bool} (hF : n0 ≤ F) (h1 : F ≠ H) (hl : ∀ j, look me F j = some ⟨o, e, .ig (W.rn L j * 4) W.ck (fun p => Y (W.ra L j) (p + W.rb L j * 4))⟩) (hN : look me N 0 = some ⟨o, e0, .ig (c * 4) W.ck (fun p => Y a (p + b * 4))⟩) (he : e = true → e0 = true) :
    ∀ j k, (fun j_ => some (⟨o, e, .ig (W.rn (L ++ [(a, b, c)]) j_ * 4) W.ck (fun p_ => Y (W.ra (L ++ [(a, b, c)]) j_) (p_ + W.rb (L ++ [(a, b, c)]) j_ * 4))⟩ : Blk)) j = some k → BR (growRho n0 H h' F N L.length) (fun _ _ => false) me F j k := by
  intro j k hk
  injection hk with hk
  subst hk
  by_cases hj : j = L.length
  · subst hj
    obtain ⟨o1, o2, o3⟩ := W.ra_new (L := L) (x := (a, b, c))
    refine BR.ig (growRho_i hF h1) hN he (by rw [o3]) (fun _ _ => rfl) (fun p _ => by rw [o1, o2])
  · by_cases hlt : j < L.length
    · obtain ⟨o1, o2, o3⟩ := W.ra_old (x := (a, b, c)) hlt
      exact BR.ig (growRho_F hF h1 hj) (hl j) (fun h => h) (by rw [o3]) (fun _ _ => rfl) (fun p _ => by rw [o1, o2])
    · have z1 : W.rn L j = 0 := W.rn_out (by omega)
      have z2 : W.rn (L ++ [(a, b, c)]) j = 0 := W.rn_out (by rw [List.length_append]; simp; omega)
      refine BR.ig (growRho_F hF h1 hj) (hl j) (fun h => h) (by rw [z1, z2]) (fun _ _ => rfl) (fun p hp => ?_)
      rw [z1] at hp
      simp at hp
end Go.Proofs.Ytohleiikedpmkaa.Vm

namespace Go.Proofs.Ytohleiikedpmkaa.W
theorem rowRuns_ge {Y Z : Nat → Nat → Int} {j cw n k : Nat} {L : Rn} (h : cw ≤ k) : rowRuns Y Z j cw n k L = L := by
  cases n with
  | zero => rfl
  | succ n => simp only [rowRuns, Vm.bltF (show ¬ k < cw by omega), cond_false]
end Go.Proofs.Ytohleiikedpmkaa.W
namespace Go.Proofs.Ytohleiikedpmkaa.Vm
open Go Go.Proofs Go.Proofs.Ytohleiikedpmkaa
noncomputable def LMPost (rr cw : Nat) (X : Nat → Nat → Int) (rr2 cw2 : Nat) (X2 : Nat → Nat → Int) (ro2 co2 : Int) (hi2 : Bool) (Z : Nat → Nat → Int) (L : W.Rn) (i : Nat) : S0 :=
  ⟨[(4, (.c (.ptr 37 0 0))), (5, (.c (.ptr 229 0 0))), (6, (.c (.sl 469 0 0 rr2 1))), (38, (.c (.sl 3 0 0 rr2 1))), (39, (.c (.int .i64 (↑rr2)))), (40, (.c (.int .i64 (i : Int))))], (LMI rr cw X rr2 cw2 X2 ro2 co2 hi2 Z L i 0).me, 100016⟩
theorem diff_mid (rr cw : Nat) (X : Nat → Nat → Int) (rr2 cw2 : Nat) (X2 : Nat → Nat → Int) (ro2 co2 : Int) (hi2 : Bool) (Z : Nat → Nat → Int) (L : W.Rn) (i : Nat) (hrr : 1 ≤ rr ∧ rr ≤ 60) (hcw : 1 ≤ cw ∧ cw ≤ 120) (hX : ∀ j, j < rr → W.okRow (X j) cw)
    (hrr2 : 1 ≤ rr2 ∧ rr2 ≤ 60) (hcw2 : 1 ≤ cw2 ∧ cw2 ≤ 120) (hro2 : 0 ≤ ro2 ∧ ro2 < rr2) (hco2 : 0 ≤ co2 ∧ co2 < cw2) (hX2 : ∀ j, j < rr2 → W.okRow (X2 j) cw2) (hil : i < rr2) (hL : L.length ≤ 122 * i) :
    CodeOk Try.prog 90 100000 (kAt (kOf Try.prog Try.f11) [true, true, true, true, false, true, false, false, true, true, false, false, true, true, false]) (LMI rr cw X rr2 cw2 X2 ro2 co2 hi2 Z L i 0) (.exit 2) (LMPost rr cw X rr2 cw2 X2 ro2 co2 hi2 Z (W.rowRuns X2 Z i cw2 cw2 0 L) i) ∧ (W.rowRuns X2 Z i cw2 cw2 0 L).length ≤ 122 * (i + 1) := by
  have hro : (0 : Int) ≤ 0 ∧ (0 : Int) < rr := by omega
  have hco : (0 : Int) ≤ 0 ∧ (0 : Int) < cw := by omega
  have hlen : ∀ n k (L : W.Rn), L.length ≤ 122 * i + k → k ≤ cw2 + 1 → (W.rowRuns X2 Z i cw2 n k L).length ≤ 122 * (i + 1) := by
    intro n
    induction n with
    | zero => intro k L h1 h2; show L.length ≤ _; omega
    | succ n ih =>
      intro k L h1 h2
      by_cases hk : k < cw2
      · obtain ⟨s1, s2, _, _⟩ := W.stopAt_spec X2 Z i (Nat.le_of_lt hk)
        simp only [W.rowRuns, bltT hk, cond_true]
        refine ih _ _ ?_ (by omega)
        cases Nat.blt k (W.stopAt X2 Z i cw2 k) with
        | true => simp only [cond_true, List.length_append, List.length_cons, List.length_nil]; omega
        | false => simp only [cond_false]; omega
      · rw [W.rowRuns_ge (by omega)]; omega
  refine ⟨?_, hlen _ _ _ (by omega) (by omega)⟩
  generalize hT : W.rowRuns X2 Z i cw2 cw2 0 L = T
  refine LM_by (fun x : Nat × W.Rn => LMI rr cw X rr2 cw2 X2 ro2 co2 hi2 Z x.2 i x.1) (fun x => x.1 ≤ cw2 + 1 ∧ x.2.length ≤ 122 * i + x.1 ∧ ∃ n, cw2 - x.1 ≤ n ∧ W.rowRuns X2 Z i cw2 n x.1 x.2 = T) (fun x => cw2 + 1 - x.1) (by simp) ?_ (0, L) ⟨by simp, by simpa using hL, cw2, by simp, hT⟩
  rintro ⟨k, L⟩ ⟨hk, hl, n, hn, hr⟩
  simp only at hk hl hn hr
  by_cases hlt : k < cw2
  · obtain ⟨s1, s2, _, _⟩ := W.stopAt_spec X2 Z i (Nat.le_of_lt hlt)
    obtain ⟨m, rfl⟩ : ∃ m, n = m + 1 := ⟨n - 1, by omega⟩
    simp only [W.rowRuns, bltT hlt, cond_true] at hr
    by_cases hs : k < W.stopAt X2 Z i cw2 k
    · rw [bltT hs] at hr
      simp only [cond_true] at hr
      refine .inl ⟨(W.stopAt X2 Z i cw2 k + 1, L ++ [(i, k, W.stopAt X2 Z i cw2 k - k)]), ⟨by simp only; omega, by simp only [List.length_append, List.length_cons, List.length_nil]; omega, m, by simp only; omega, hr⟩, by simp only; omega, ?_⟩
      have g1 : ((W.stopAt X2 Z i cw2 k : Nat) : Int) > (k : Int) := by omega
      have g2 : ((W.stopAt X2 Z i cw2 k : Nat) : Int) ≤ (cw2 : Int) := by omega
      refine (LM_rtt rr cw X 0 0 rr2 cw2 X2 ro2 co2 hi2 Z L i k hrr hcw hro hco hX hrr2 hcw2 hro2 hco2 hX2 hil hk (by omega) g1 ⟨by omega, Int.le_of_lt g1, g2⟩ ⟨by omega, by omega, by omega⟩).move (Move.grow (H := 100008) (h' := 100000) (F := 100009) (N := 100001) (i := L.length) (by decide) (show 100000 ≤ 100016 ∧ 100008 < 100016 ∧ 100009 < 100016 by decide) (by decide) (by decide) ?_ ?_)
      · refine ⟨?_, ?_, ?_, ?_, ?_, ?_, ?_, ?_, ?_, ?_, trivial⟩
        · exact BR.gen (growRho_low (by decide)) rfl (fun h => h) rfl (fun p hp => ⟨growRho_low (by decide), rfl, rfl, rfl⟩)
        · intro j k hk; injection hk with hk; subst hk
          exact BR.ig (growRho_low (by decide)) rfl (fun h => h) rfl (fun _ _ => rfl) (fun _ _ => rfl)
        · exact BR.gen (growRho_low (by decide)) rfl (fun h => h) rfl (fun p hp => ⟨growRho_low (by decide), rfl, rfl, rfl⟩)
        · intro j k hk; injection hk with hk; subst hk
          exact BR.ig (growRho_low (by decide)) rfl (fun h => h) rfl (fun _ _ => rfl) (fun _ _ => rfl)
        · exact BR.cells (growRho_low (by decide)) rfl (fun h => h) ⟨⟨rfl, rfl⟩, ⟨rfl, rfl⟩, ⟨rfl, rfl⟩, ⟨rfl, rfl⟩, rfl, trivial, trivial⟩
        · exact BR.cells (growRho_low (by decide)) rfl (fun h => h) ⟨⟨rfl, rfl⟩, ⟨rfl, rfl⟩, ⟨rfl, rfl⟩, ⟨rfl, rfl⟩, rfl, ⟨growRho_H (by decide), rfl, by simp, rfl⟩, trivial⟩
        · exact BR.gen (growRho_low (by decide)) rfl (fun h => h) rfl (fun p hp => ⟨growRho_low (by decide), rfl, rfl, rfl⟩)
        · intro j k hk; injection hk with hk; subst hk
          exact BR.ig (growRho_low (by decide)) rfl (fun h => h) rfl (fun _ _ => rfl) (fun _ _ => rfl)
        · refine .inl ⟨100000, 0, _, growRho_H (by decide), rfl, rfl, fun h => h, ?_, fun j hj => ?_⟩
          · show (L ++ [(i, k, W.stopAt X2 Z i cw2 k - k)]).length * 3 = L.length * 3 + 3
            rw [List.length_append]; simp; omega
          · have hj : j < L.length * 3 + 3 := hj
            exact run_cell (by omega) (by decide) (by decide) rfl rfl
        · exact run_row (by decide) (by decide) (fun j => rfl) rfl (fun h => h)
      · exact ⟨rfl, ⟨growRho_low (by decide), rfl⟩, rfl, ⟨growRho_low (by decide), rfl⟩, rfl, ⟨growRho_low (by decide), rfl, rfl, rfl⟩, rfl, ⟨growRho_low (by decide), rfl, rfl, rfl⟩, rfl, ⟨rfl, rfl⟩, rfl, ⟨rfl, rfl⟩, rfl, ⟨rfl, rfl⟩, rfl, ⟨growRho_low (by decide), rfl, rfl, rfl⟩, rfl, ⟨rfl, rfl⟩, trivial⟩
    · rw [bltF hs] at hr
      simp only [cond_false] at hr
      exact .inl ⟨(W.stopAt X2 Z i cw2 k + 1, L), ⟨by simp only; omega, by simp only; omega, m, by simp only; omega, hr⟩, by simp only; omega, LM_rtf rr cw X 0 0 rr2 cw2 X2 ro2 co2 hi2 Z L i k hrr hcw hro hco hX hrr2 hcw2 hro2 hco2 hX2 hil hk (by omega) (show ¬ ((W.stopAt X2 Z i cw2 k : Nat) : Int) > (k : Int) by omega)⟩
  · rw [W.rowRuns_ge (by omega)] at hr
    subst hr
    exact .inr (CodeOk.post ⟨[4, 5, 6, 38, 39, 40], [1, 2, 3, 4, 37, 229, 469, 470, 100008, 100009], [(100008, 100008), (100009, 100009)], 100016⟩ (by decide) (by kernel_rfl) (LM_xf rr cw X 0 0 rr2 cw2 X2 ro2 co2 hi2 Z L i k hrr hcw hro hco hX hrr2 hcw2 hro2 hco2 hX2 hil hk (by omega)))
theorem diff_mid1 (rr cw : Nat) (X : Nat → Nat → Int) (rr2 cw2 : Nat) (X2 : Nat → Nat → Int) (ro2 co2 : Int) (hi2 : Bool) (Z : Nat → Nat → Int) (L : W.Rn) (i : Nat) (hrr : 1 ≤ rr ∧ rr ≤ 60) (hcw : 1 ≤ cw ∧ cw ≤ 120) (hX : ∀ j, j < rr → W.okRow (X j) cw)
    (hrr2 : 1 ≤ rr2 ∧ rr2 ≤ 60) (hcw2 : 1 ≤ cw2 ∧ cw2 ≤ 120) (hro2 : 0 ≤ ro2 ∧ ro2 < rr2) (hco2 : 0 ≤ co2 ∧ co2 < cw2) (hX2 : ∀ j, j < rr2 → W.okRow (X2 j) cw2) (hil : i < rr2) (hL : L.length ≤ 122 * i) :
    CodeOk Try.prog 90 100000 (kAt (kOf Try.prog Try.f11) [true, true, true, true, false, true, false, false, true, true, false, false, true, true, false]) (LMI rr cw X rr2 cw2 X2 ro2 co2 hi2 Z L i 0) (.exit 2) (LMPost rr cw X rr2 cw2 X2 ro2 co2 hi2 Z (W.rowRuns X2 Z i cw2 cw2 0 L) i) :=
  (diff_mid rr cw X rr2 cw2 X2 ro2 co2 hi2 Z L i hrr hcw hX hrr2 hcw2 hro2 hco2 hX2 hil hL).1
end Go.Proofs.Ytohleiikedpmkaa.Vm

namespace Go.Proofs.Ytohleiikedpmkaa.Vm
open Go Go.Proofs Go.Proofs.Ytohleiikedpmkaa
set_option maxRecDepth 100000
noncomputable def LKI (rr cw : Nat) (X : Nat → Nat → Int) (rr2 cw2 : Nat) (X2 : Nat → Nat → Int) (ro2 co2 : Int) (hi2 : Bool) (Z : Nat → Nat → Int) (L : W.Rn) (i : Nat) : S0 :=
  ⟨[(4, (.c (.ptr 37 0 0))), (5, (.c (.ptr 229 0 0))), (6, (.c (.sl 469 0 0 rr2 1))), (38, (.c (.sl 3 0 0 rr2 1))), (39, (.c (.int .i64 (↑rr2)))), (40, (.c (.int .i64 (i : Int))))], [(1, (.one ⟨false, false, (.gen rr (fun j_ => (.sl 2 j_ 0 cw 4)))⟩)), (2, (.many (fun j_ => some ⟨false, false, (.ig (W.rl rr (cw * 4) j_) W.ck (fun p_ => (X j_ p_)))⟩))), (3, (.one ⟨false, false, (.gen rr2 (fun j_ => (.sl 4 j_ 0 cw2 4)))⟩)), (4, (.many (fun j_ => some ⟨false, false, (.ig (W.rl rr2 (cw2 * 4) j_) W.ck (fun p_ => (X2 j_ p_)))⟩))), (37, (.one ⟨true, true, (.cells [(.int .i64 0), (.int .i64 0), (.int .i64 0), (.int .i64 0), (.bool (false)), .nils])⟩)), (229, (.one ⟨true, true, .cells [.int .i64 (rr2 : Int), .int .i64 (cw2 : Int), .int .i64 ro2, .int .i64 co2, .bool hi2, .sl 573 0 0 L.length 3]⟩)), (469, (.one ⟨true, false, (.gen rr2 (fun j_ => (.sl 470 j_ 0 cw2 4)))⟩)), (470, (.many (fun j_ => some ⟨true, false, .ig (W.rl rr2 (cw2 * 4) j_) W.ck (Z j_)⟩))), (573, (.one ⟨true, false, .row (L.length * 3) 3 (fun k_ => [.int .i64 (W.ra L k_ : Int), .int .i64 (W.rb L k_ : Int), .sl 574 k_ 0 (W.rn L k_) 4])⟩)), (574, (.many (fun j_ => some ⟨true, false, .ig (W.rn L j_ * 4) W.ck (fun p_ => X2 (W.ra L j_) (p_ + W.rb L j_ * 4))⟩)))], 581⟩
theorem LK_by {α : Type} (I : α → S0) (Inv : α → Prop) (μ : α → Nat) {ex : Ex} {s' : S0} (hex : ex ≠ .normal)
    (step : ∀ x, Inv x → (∃ y, Inv y ∧ μ y < μ x ∧ CodeOk Try.prog 90 565 (kAt (kOf Try.prog Try.f11) [true, true, true, true, false, true, false, false]) (I x) .normal (I y)) ∨ CodeOk Try.prog 90 565 (kAt (kOf Try.prog Try.f11) [true, true, true, true, false, true, false, false]) (I x) ex s') (x : α) (hx : Inv x) :
    CodeOk Try.prog 90 565 (kAt (kOf Try.prog Try.f11) [true, true, true, true, false, true, false]) (I x) ex s' := by
  have hk : (kAt (kOf Try.prog Try.f11) [true, true, true, true, false, true, false]) = .loop (kAt (kOf Try.prog Try.f11) [true, true, true, true, false, true, false, false]) := by kernel_rfl
  rw [hk]
  exact CodeOk.loop I Inv μ hex step x hx
noncomputable def LK0 (rr cw : Nat) (X : Nat → Nat → Int) (rr2 cw2 : Nat) (X2 : Nat → Nat → Int) (ro2 co2 : Int) (hi2 : Bool) : S0 :=
  ⟨[(4, (.c (.ptr 37 0 0))), (5, (.c (.ptr 229 0 0))), (6, (.c (.sl 469 0 0 rr2 1))), (38, (.c (.sl 3 0 0 rr2 1))), (39, (.c (.int .i64 (↑rr2)))), (40, (.c (.int .i64 0)))], [(1, (.one ⟨false, false, (.gen rr (fun j_ => (.sl 2 j_ 0 cw 4)))⟩)), (2, (.many (fun j_ => some ⟨false, false, (.ig (W.rl rr (cw * 4) j_) W.ck (fun p_ => (X j_ p_)))⟩))), (3, (.one ⟨false, false, (.gen rr2 (fun j_ => (.sl 4 j_ 0 cw2 4)))⟩)), (4, (.many (fun j_ => some ⟨false, false, (.ig (W.rl rr2 (cw2 * 4) j_) W.ck (fun p_ => (X2 j_ p_)))⟩))), (37, (.one ⟨true, true, (.cells [(.int .i64 0), (.int .i64 0), (.int .i64 0), (.int .i64 0), (.bool (false)), .nils])⟩)), (229, (.one ⟨true, true, (.cells [(.int .i64 (↑rr2)), (.int .i64 (↑cw2)), (.int .i64 ro2), (.int .i64 co2), (.bool hi2), .nils])⟩)), (469, (.one ⟨true, false, (.gen rr2 (fun j_ => (.sl 470 j_ 0 cw2 4)))⟩)), (470, (.many (fun j_ => some ⟨true, false, (.ig (W.rl rr2 (cw2 * 4) j_) W.ck (fun p_ => (W.frX rr cw (fun j_ p_ => X j_ p_) rr2 cw2 j_ p_)))⟩)))], 565⟩
theorem LK_rt (rr cw : Nat) (X : Nat → Nat → Int) (ro co : Int) (rr2 cw2 : Nat) (X2 : Nat → Nat → Int) (ro2 co2 : Int) (hi2 : Bool) (Z : Nat → Nat → Int) (L : W.Rn) (i : Nat)
    (hrr : 1 ≤ rr ∧ rr ≤ 60)
    (hcw : 1 ≤ cw ∧ cw ≤ 120)
    (hro : 0 ≤ ro ∧ ro < rr)
    (hco : 0 ≤ co ∧ co < cw)
    (hX : ∀ j, j < rr → W.okRow (X j) cw)
    (hrr2 : 1 ≤ rr2 ∧ rr2 ≤ 60)
    (hcw2 : 1 ≤ cw2 ∧ cw2 ≤ 120)
    (hro2 : 0 ≤ ro2 ∧ ro2 < rr2)
    (hco2 : 0 ≤ co2 ∧ co2 < cw2)
    (hX2 : ∀ j, j < rr2 → W.okRow (X2 j) cw2)
    (hil : i ≤ rr2)
    (hL : L.length ≤ 122 * i)
    (h0 : ((↑i : Int) < (↑rr2 : Int))) :
    CodeOk Try.prog 90 565 (kAt (kOf Try.prog Try.f11) [true, true, true, true, false, true, false, false]) (LKI rr cw X rr2 cw2 X2 ro2 co2 hi2 Z L i) .normal ⟨[(4, (.c (.ptr 37 0 0))), (5, (.c (.ptr 229 0 0))), (6, (.c (.sl 469 0 0 rr2 1))), (38, (.c (.sl 3 0 0 rr2 1))), (39, (.c (.int .i64 (↑rr2)))), (40, (.c (.int .i64 (↑(i + 1)))))], [(1, (.one ⟨false, false, (.gen rr (fun j_ => (.sl 2 j_ 0 cw 4)))⟩)), (2, (.many (fun j_ => some ⟨false, false, (.ig (W.rl rr (cw * 4) j_) W.ck (fun p_ => (X j_ p_)))⟩))), (3, (.one ⟨false, false, (.gen rr2 (fun j_ => (.sl 4 j_ 0 cw2 4)))⟩)), (4, (.many (fun j_ => some ⟨false, false, (.ig (W.rl rr2 (cw2 * 4) j_) W.ck (fun p_ => (X2 j_ p_)))⟩))), (37, (.one ⟨true, true, (.cells [(.int .i64 0), (.int .i64 0), (.int .i64 0), (.int .i64 0), (.bool (false)), .nils])⟩)), (229, (.one ⟨true, true, (.cells [(.int .i64 (↑rr2)), (.int .i64 (↑cw2)), (.int .i64 ro2), (.int .i64 co2), (.bool hi2), (.sl 565 0 0 (List.length (W.rowRuns X2 (fun j_ p_ => Z j_ p_) i cw2 cw2 0 L)) 3)])⟩)), (469, (.one ⟨true, false, (.gen rr2 (fun j_ => (.sl 470 j_ 0 cw2 4)))⟩)), (470, (.many (fun j_ => some ⟨true, false, (.ig (W.rl rr2 (cw2 * 4) j_) W.ck (fun p_ => (Z j_ p_)))⟩))), (565, (.one ⟨true, false, (.row (List.length (W.rowRuns X2 (fun j_ p_ => Z j_ p_) i cw2 cw2 0 L) * 3) 3 (fun j_ => [(.int .i64 (↑(W.ra (W.rowRuns X2 (fun j_ p_ => Z j_ p_) i cw2 cw2 0 L) j_))), (.int .i64 (↑(W.rb (W.rowRuns X2 (fun j_ p_ => Z j_ p_) i cw2 cw2 0 L) j_))), (.sl 566 j_ 0 (W.rn (W.rowRuns X2 (fun j_ p_ => Z j_ p_) i cw2 cw2 0 L) j_) 4)]))⟩)), (566, (.many (fun j_ => some ⟨true, false, (.ig (W.rn (W.rowRuns X2 (fun j_ p_ => Z j_ p_) i cw2 cw2 0 L) j_ * 4) W.ck (fun p_ => (X2 (W.ra (W.rowRuns X2 (fun j_ p_ => Z j_ p_) i cw2 cw2 0 L) j_) (p_ + W.rb (W.rowRuns X2 (fun j_ p_ => Z j_ p_) i cw2 cw2 0 L) j_ * 4))))⟩)))], 581⟩ :=
  CodeOk.of_runs (fuel := 300) (v := ⟨[4, 5, 6, 38, 39, 40], [1, 2, 3, 4, 37, 229, 469, 470, 573, 574, 100008, 100009], [(573, 573), (574, 574), (100008, 565), (100009, 566)], 581⟩) (hs := [(0, ⟨.auto, some (.c (.bool (true)))⟩), (3, ⟨.ask, none⟩), (4, ⟨.ask, none⟩), (8, ⟨.sum ⟨[4, 5, 6, 38, 39, 40, 7, 8, 9], [1, 2, 3, 4, 37, 229, 469, 470, 573, 574], [(573, 100008), (574, 100009)], 100016⟩ (.exit 2) (LMPost rr cw X rr2 cw2 X2 ro2 co2 hi2 (fun j_ p_ => Z j_ p_) (W.rowRuns X2 (fun j_ p_ => Z j_ p_) i cw2 cw2 0 L) i), none⟩), (9, ⟨.auto, some (.c (.int .i64 (↑(i + 1))))⟩)])
    (cs := [EI .i64 (IntKind.wrap IntKind.i64 ((↑i : Int) + 1)) ((↑(i + 1) : Int)),
      CodeOk Try.prog 90 693 (kAt (kOf Try.prog Try.f11) [true, true, true, true, false, true, false, false, true, true, false, false, true, true, false]) (LMI rr cw X rr2 cw2 X2 ro2 co2 hi2 (fun j_ p_ => Z j_ p_) L i 0) (.exit 2) (LMPost rr cw X rr2 cw2 X2 ro2 co2 hi2 (fun j_ p_ => Z j_ p_) (W.rowRuns X2 (fun j_ p_ => Z j_ p_) i cw2 cw2 0 L) i),
      (i + (1 : Nat) ≤ rr2),
      ((0 : Int) ≤ (↑i : Int) ∧ (↑i : Int) < (↑rr2 : Int)),
      EB (decide ((↑i : Int) < (↑rr2 : Int))) true])
    mixed (by kernel_rfl) ⟨.mk (by simp only [addO_eq, mulE_eq, mulE_one, Int.toNat_natCast, IntKind.wrap_i64, mmin, mmax]; omega), (CodeOk.mono (diff_mid1 rr cw X rr2 cw2 X2 ro2 co2 hi2 (fun j_ p_ => Z j_ p_) L i (by omega) (by omega) (by omega) (by omega) (by omega) (by omega) (by omega) (by omega) (by omega) (by omega)) (by decide)), (by omega), (by omega), .mk (decide_eq_true h0), trivial⟩
theorem LK_xf (rr cw : Nat) (X : Nat → Nat → Int) (ro co : Int) (rr2 cw2 : Nat) (X2 : Nat → Nat → Int) (ro2 co2 : Int) (hi2 : Bool) (Z : Nat → Nat → Int) (L : W.Rn) (i : Nat)
    (hrr : 1 ≤ rr ∧ rr ≤ 60)
    (hcw : 1 ≤ cw ∧ cw ≤ 120)
    (hro : 0 ≤ ro ∧ ro < rr)
    (hco : 0 ≤ co ∧ co < cw)
    (hX : ∀ j, j < rr → W.okRow (X j) cw)
    (hrr2 : 1 ≤ rr2 ∧ rr2 ≤ 60)
    (hcw2 : 1 ≤ cw2 ∧ cw2 ≤ 120)
    (hro2 : 0 ≤ ro2 ∧ ro2 < rr2)
    (hco2 : 0 ≤ co2 ∧ co2 < cw2)
    (hX2 : ∀ j, j < rr2 → W.okRow (X2 j) cw2)
    (hil : i ≤ rr2)
    (hL : L.length ≤ 122 * i)
    (h0 : (¬(↑i : Int) < (↑rr2 : Int))) :
    CodeOk Try.prog 90 565 (kAt (kOf Try.prog Try.f11) [true, true, true, true, false, true, false, false]) (LKI rr cw X rr2 cw2 X2 ro2 co2 hi2 Z L i) (.exit 0) (LKI rr cw X rr2 cw2 X2 ro2 co2 hi2 (fun j_ p_ => Z j_ p_) L i) :=
  CodeOk.of_runs (fuel := 300) (v := ⟨[4, 5, 6, 38, 39, 40], [1, 2, 3, 4, 37, 229, 469, 470, 573, 574], [(573, 573), (574, 574)], 581⟩) (hs := [(0, ⟨.auto, some (.c (.bool (false)))⟩)])
    (cs := [EB (decide ((↑i : Int) < (↑rr2 : Int))) false])
    mixed (by kernel_rfl) ⟨.mk (decide_eq_false h0), trivial⟩
end Go.Proofs.Ytohleiikedpmkaa.Vm

namespace Go.Proofs.Ytohleiikedpmkaa.Vm
open Go Go.Proofs Go.Proofs.Ytohleiikedpmkaa
theorem diff_loop (rr cw : Nat) (X : Nat → Nat → Int) (rr2 cw2 : Nat) (X2 : Nat → Nat → Int) (ro2 co2 : Int) (hi2 : Bool) (hrr : 1 ≤ rr ∧ rr ≤ 60) (hcw : 1 ≤ cw ∧ cw ≤ 120) (hX : ∀ j, j < rr → W.okRow (X j) cw)
    (hrr2 : 1 ≤ rr2 ∧ rr2 ≤ 60) (hcw2 : 1 ≤ cw2 ∧ cw2 ≤ 120) (hro2 : 0 ≤ ro2 ∧ ro2 < rr2) (hco2 : 0 ≤ co2 ∧ co2 < cw2) (hX2 : ∀ j, j < rr2 → W.okRow (X2 j) cw2) :
    CodeOk Try.prog 90 565 (kAt (kOf Try.prog Try.f11) [true, true, true, true, false, true, false]) (LK0 rr cw X rr2 cw2 X2 ro2 co2 hi2) (.exit 0) (LKI rr cw X rr2 cw2 X2 ro2 co2 hi2 (W.frX rr cw X rr2 cw2) (W.runs X2 (W.frX rr cw X rr2 cw2) cw2 rr2) rr2) := by
  have hro : (0 : Int) ≤ 0 ∧ (0 : Int) < rr := by omega
  have hco : (0 : Int) ≤ 0 ∧ (0 : Int) < cw := by omega
  have h : CodeOk Try.prog 90 565 (kAt (kOf Try.prog Try.f11) [true, true, true, true, false, true, false]) (LKI rr cw X rr2 cw2 X2 ro2 co2 hi2 (W.frX rr cw X rr2 cw2) (W.runs X2 (W.frX rr cw X rr2 cw2) cw2 0) 0) (.exit 0) (LKI rr cw X rr2 cw2 X2 ro2 co2 hi2 (W.frX rr cw X rr2 cw2) (W.runs X2 (W.frX rr cw X rr2 cw2) cw2 rr2) rr2) := by
    generalize W.frX rr cw X rr2 cw2 = Z
    refine LK_by (fun i => LKI rr cw X rr2 cw2 X2 ro2 co2 hi2 Z (W.runs X2 Z cw2 i) i) (fun i => i ≤ rr2 ∧ (W.runs X2 Z cw2 i).length ≤ 122 * i) (fun i => rr2 - i) (by simp) ?_ 0 ⟨Nat.zero_le _, Nat.zero_le _⟩
    intro i ⟨hil, hL⟩
    by_cases h0 : (i : Int) < (rr2 : Int)
    · have hL' := (diff_mid rr cw X rr2 cw2 X2 ro2 co2 hi2 Z (W.runs X2 Z cw2 i) i hrr hcw hX hrr2 hcw2 hro2 hco2 hX2 (by omega) hL).2
      refine .inl ⟨i + 1, ⟨by omega, hL'⟩, by omega, ?_⟩
      refine (LK_rt rr cw X 0 0 rr2 cw2 X2 ro2 co2 hi2 Z (W.runs X2 Z cw2 i) i hrr hcw hro hco hX hrr2 hcw2 hro2 hco2 hX2 hil hL h0).move (Move.ren (H := 573) (h' := 565) (F := 574) (f' := 566) (by decide) (show 565 ≤ 581 ∧ 573 < 581 ∧ 574 < 581 by decide) (by decide) (by decide) ?_ ?_)
      · refine ⟨?_, ?_, ?_, ?_, ?_, ?_, ?_, ?_, ?_, ?_, trivial⟩
        · exact BR.gen (renRho_low (by decide)) rfl (fun h => h) rfl (fun p hp => ⟨renRho_low (by decide), rfl, rfl, rfl⟩)
        · intro j k hk; injection hk with hk; subst hk
          exact BR.ig (renRho_low (by decide)) rfl (fun h => h) rfl (fun _ _ => rfl) (fun _ _ => rfl)
        · exact BR.gen (renRho_low (by decide)) rfl (fun h => h) rfl (fun p hp => ⟨renRho_low (by decide), rfl, rfl, rfl⟩)
        · intro j k hk; injection hk with hk; subst hk
          exact BR.ig (renRho_low (by decide)) rfl (fun h => h) rfl (fun _ _ => rfl) (fun _ _ => rfl)
        · exact BR.cells (renRho_low (by decide)) rfl (fun h => h) ⟨⟨rfl, rfl⟩, ⟨rfl, rfl⟩, ⟨rfl, rfl⟩, ⟨rfl, rfl⟩, rfl, trivial, trivial⟩
        · exact BR.cells (renRho_low (by decide)) rfl (fun h => h) ⟨⟨rfl, rfl⟩, ⟨rfl, rfl⟩, ⟨rfl, rfl⟩, ⟨rfl, rfl⟩, rfl, ⟨renRho_H (by decide), rfl, rfl, rfl⟩, trivial⟩
        · exact BR.gen (renRho_low (by decide)) rfl (fun h => h) rfl (fun p hp => ⟨renRho_low (by decide), rfl, rfl, rfl⟩)
        · intro j k hk; injection hk with hk; subst hk
          exact BR.ig (renRho_low (by decide)) rfl (fun h => h) rfl (fun _ _ => rfl) (fun _ _ => rfl)
        · refine .inl ⟨565, 0, _, renRho_H (by decide), rfl, rfl, fun h => h, rfl, fun j hj => ?_⟩
          generalize hM : W.runs X2 Z cw2 (i + 1) = M
          show CR _ (recGet 3 (fun j_ => [C.int IntKind.i64 (↑(W.ra (W.runs X2 Z cw2 (i + 1)) j_) : Int), C.int IntKind.i64 (↑(W.rb (W.runs X2 Z cw2 (i + 1)) j_) : Int), C.sl 566 j_ 0 (W.rn (W.runs X2 Z cw2 (i + 1)) j_) 4]) j) (recGet 3 (fun k_ => [C.int IntKind.i64 (↑(W.ra M k_) : Int), C.int IntKind.i64 (↑(W.rb M k_) : Int), C.sl 574 k_ 0 (W.rn M k_) 4]) j)
          rw [hM]
          unfold recGet
          rcases (by omega : j % 3 = 0 ∨ j % 3 = 1 ∨ j % 3 = 2) with e | e | e <;> rw [e]
          · exact ⟨rfl, rfl⟩
          · exact ⟨rfl, rfl⟩
          · exact ⟨renRho_F (by decide) (by decide), rfl, rfl, rfl⟩
        · intro j k hk; injection hk with hk; subst hk
          exact BR.ig (renRho_F (by decide) (by decide)) rfl (fun h => h) rfl (fun _ _ => rfl) (fun _ _ => rfl)
      · exact ⟨rfl, ⟨renRho_low (by decide), rfl⟩, rfl, ⟨renRho_low (by decide), rfl⟩, rfl, ⟨renRho_low (by decide), rfl, rfl, rfl⟩, rfl, ⟨renRho_low (by decide), rfl, rfl, rfl⟩, rfl, ⟨rfl, rfl⟩, rfl, ⟨rfl, rfl⟩, trivial⟩
    · have e : i = rr2 := by omega
      subst e
      exact .inr (LK_xf rr cw X 0 0 i cw2 X2 ro2 co2 hi2 Z (W.runs X2 Z cw2 i) i hrr hcw hro hco hX hrr2 hcw2 hro2 hco2 hX2 hil hL h0)
  refine CodeOk.enter (Move.begin (fun b _ => Nat.beq b 573 || Nat.beq b 574) (by decide) (show 565 ≤ 581 by decide) ?_ ?_ ?_) h
  · intro b k hb
    have hb : 581 ≤ b := hb
    rw [beqF (by omega), beqF (by omega)]; rfl
  · refine ⟨?_, ?_, ?_, ?_, ?_, ?_, ?_, ?_, ?_, ?_, trivial⟩
    · exact BR.gen (newRho_low (by decide)) rfl (fun h => h) rfl (fun p hp => ⟨newRho_low (by decide), rfl, rfl, rfl⟩)
    · intro j k hk; injection hk with hk; subst hk
      exact BR.ig (newRho_low (by decide)) rfl (fun h => h) rfl (fun _ _ => rfl) (fun _ _ => rfl)
    · exact BR.gen (newRho_low (by decide)) rfl (fun h => h) rfl (fun p hp => ⟨newRho_low (by decide), rfl, rfl, rfl⟩)
    · intro j k hk; injection hk with hk; subst hk
      exact BR.ig (newRho_low (by decide)) rfl (fun h => h) rfl (fun _ _ => rfl) (fun _ _ => rfl)
    · exact BR.cells (newRho_low (by decide)) rfl (fun h => h) ⟨⟨rfl, rfl⟩, ⟨rfl, rfl⟩, ⟨rfl, rfl⟩, ⟨rfl, rfl⟩, rfl, trivial, trivial⟩
    · exact BR.cells (newRho_low (by decide)) rfl (fun h => h) ⟨⟨rfl, rfl⟩, ⟨rfl, rfl⟩, ⟨rfl, rfl⟩, ⟨rfl, rfl⟩, rfl, rfl, trivial⟩
    · exact BR.gen (newRho_low (by decide)) rfl (fun h => h) rfl (fun p hp => ⟨newRho_low (by decide), rfl, rfl, rfl⟩)
    · intro j k hk; injection hk with hk; subst hk
      exact BR.ig (newRho_low (by decide)) rfl (fun h => h) rfl (fun _ _ => rfl) (fun _ _ => rfl)
    · exact BR.none (newRho_high (by decide)) rfl rfl rfl
    · intro j k hk; injection hk with hk; subst hk
      exact BR.none (newRho_high (by decide)) rfl rfl rfl
  · exact ⟨rfl, ⟨newRho_low (by decide), rfl⟩, rfl, ⟨newRho_low (by decide), rfl⟩, rfl, ⟨newRho_low (by decide), rfl, rfl, rfl⟩, rfl, ⟨newRho_low (by decide), rfl, rfl, rfl⟩, rfl, ⟨rfl, rfl⟩, rfl, ⟨rfl, rfl⟩, trivial⟩
end Go.Proofs.Ytohleiikedpmkaa.Vm

namespace Go.Proofs.Ytohleiikedpmkaa.Vm
open Go Go.Proofs Go.Proofs.Ytohleiikedpmkaa
set_option maxRecDepth 100000
theorem diff_ok (rr cw : Nat) (X : Nat → Nat → Int) (ro co : Int) (hi : Bool) (rr2 cw2 : Nat) (X2 : Nat → Nat → Int) (ro2 co2 : Int) (hi2 : Bool)
    (hrr : 1 ≤ rr ∧ rr ≤ 60)
    (hcw : 1 ≤ cw ∧ cw ≤ 120)
    (hro : 0 ≤ ro ∧ ro < rr)
    (hco : 0 ≤ co ∧ co < cw)
    (hX : ∀ j, j < rr → W.okRow (X j) cw)
    (hrr2 : 1 ≤ rr2 ∧ rr2 ≤ 60)
    (hcw2 : 1 ≤ cw2 ∧ cw2 ≤ 120)
    (hro2 : 0 ≤ ro2 ∧ ro2 < rr2)
    (hco2 : 0 ≤ co2 ∧ co2 < cw2)
    (hX2 : ∀ j, j < rr2 → W.okRow (X2 j) cw2) :
    Contract0 Try.prog 11 [(.agg [(.int .i64 (↑rr)), (.int .i64 (↑cw)), (.sl 1 0 0 rr 1), (.int .i64 ro), (.int .i64 co), (.bool hi)]), (.agg [(.int .i64 (↑rr2)), (.int .i64 (↑cw2)), (.sl 3 0 0 rr2 1), (.int .i64 ro2), (.int .i64 co2), (.bool hi2)])] [(1, (.one ⟨false, false, (.gen rr (fun j_ => (.sl 2 j_ 0 cw 4)))⟩)), (2, (.many (fun j_ => some ⟨false, false, (.ig (W.rl rr (cw * 4) j_) W.ck (fun p_ => (X j_ p_)))⟩))), (3, (.one ⟨false, false, (.gen rr2 (fun j_ => (.sl 4 j_ 0 cw2 4)))⟩)), (4, (.many (fun j_ => some ⟨false, false, (.ig (W.rl rr2 (cw2 * 4) j_) W.ck (fun p_ => (X2 j_ p_)))⟩)))] 5 (.agg [(.int .i64 (↑rr2)), (.int .i64 (↑cw2)), (.int .i64 ro2), (.int .i64 co2), (.bool hi2), (.sl 5 0 0 (List.length (W.runs X2 (W.frX rr cw X rr2 cw2) cw2 rr2)) 3)]) [] [(5, (.one ⟨true, false, (.row (List.length (W.runs X2 (W.frX rr cw X rr2 cw2) cw2 rr2) * 3) 3 (fun j_ => [(.int .i64 (↑(W.ra (W.runs X2 (W.frX rr cw X rr2 cw2) cw2 rr2) j_))), (.int .i64 (↑(W.rb (W.runs X2 (W.frX rr cw X rr2 cw2) cw2 rr2) j_))), (.sl 6 j_ 0 (W.rn (W.runs X2 (W.frX rr cw X rr2 cw2) cw2 rr2) j_) 4)]))⟩)), (6, (.many (fun j_ => some ⟨true, false, (.ig (W.rn (W.runs X2 (W.frX rr cw X rr2 cw2) cw2 rr2) j_ * 4) W.ck (fun p_ => (X2 (W.ra (W.runs X2 (W.frX rr cw X rr2 cw2) cw2 rr2) j_) (p_ + W.rb (W.runs X2 (W.frX rr cw X rr2 cw2) cw2 rr2) j_ * 4))))⟩)))] :=
  Contract0.renum (Contract0.of_frunF (res := (.agg [(.int .i64 (↑rr2)), (.int .i64 (↑cw2)), (.int .i64 ro2), (.int .i64 co2), (.bool hi2), (.sl 573 0 0 (List.length (W.runs X2 (W.frX rr cw X rr2 cw2) cw2 rr2)) 3)])) (up := [(573, (.one ⟨true, false, (.row (List.length (W.runs X2 (W.frX rr cw X rr2 cw2) cw2 rr2) * 3) 3 (fun j_ => [(.int .i64 (↑(W.ra (W.runs X2 (W.frX rr cw X rr2 cw2) cw2 rr2) j_))), (.int .i64 (↑(W.rb (W.runs X2 (W.frX rr cw X rr2 cw2) cw2 rr2) j_))), (.sl 574 j_ 0 (W.rn (W.runs X2 (W.frX rr cw X rr2 cw2) cw2 rr2) j_) 4)]))⟩)), (574, (.many (fun j_ => some ⟨true, false, (.ig (W.rn (W.runs X2 (W.frX rr cw X rr2 cw2) cw2 rr2) j_ * 4) W.ck (fun p_ => (X2 (W.ra (W.runs X2 (W.frX rr cw X rr2 cw2) cw2 rr2) j_) (p_ + W.rb (W.runs X2 (W.frX rr cw X rr2 cw2) cw2 rr2) j_ * 4))))⟩)))]) (kill := []) (n0 := 5) (m := [(1, (.one ⟨false, false, (.gen rr (fun j_ => (.sl 2 j_ 0 cw 4)))⟩)), (2, (.many (fun j_ => some ⟨false, false, (.ig (W.rl rr (cw * 4) j_) W.ck (fun p_ => (X j_ p_)))⟩))), (3, (.one ⟨false, false, (.gen rr2 (fun j_ => (.sl 4 j_ 0 cw2 4)))⟩)), (4, (.many (fun j_ => some ⟨false, false, (.ig (W.rl rr2 (cw2 * 4) j_) W.ck (fun p_ => (X2 j_ p_)))⟩)))]) (args := [(.agg [(.int .i64 (↑rr)), (.int .i64 (↑cw)), (.sl 1 0 0 rr 1), (.int .i64 ro), (.int .i64 co), (.bool hi)]), (.agg [(.int .i64 (↑rr2)), (.int .i64 (↑cw2)), (.sl 3 0 0 rr2 1), (.int .i64 ro2), (.int .i64 co2), (.bool hi2)])]) (fn := Try.f11) (c := bodyOf Try.f11) (fuel := 300) (k := kOf Try.prog Try.f11) (outs := [573, 574]) (hs := [(17, ⟨.call [1, 2] (.c (.bool (true))) [] [], none⟩), (21, ⟨.call [3, 4] (.c (.bool (true))) [] [], none⟩), (30, ⟨.call [1, 2] (.c (.sl 469 0 0 rr2 1)) [] [(469, (.one ⟨true, false, (.gen rr2 (fun j_ => (.sl 470 j_ 0 cw2 4)))⟩)), (470, (.many (fun j_ => some ⟨true, false, (.ig (W.rl rr2 (cw2 * 4) j_) W.ck (fun p_ => (W.frX rr cw (fun j_ p_ => X j_ p_) rr2 cw2 j_ p_)))⟩)))], none⟩), (36, ⟨.sum ⟨[4, 5, 6, 38, 39, 40], [1, 2, 3, 4, 37, 229, 469, 470], [], 565⟩ (.exit 0) (LKI rr cw X rr2 cw2 X2 ro2 co2 hi2 (W.frX rr cw X rr2 cw2) (W.runs X2 (W.frX rr cw X rr2 cw2) cw2 rr2) rr2), none⟩)])
    (cs := [OwnF (fun j_ => some ⟨true, false, (.ig (W.rn (W.runs X2 (W.frX rr cw X rr2 cw2) cw2 rr2) j_ * 4) W.ck (fun p_ => (X2 (W.ra (W.runs X2 (W.frX rr cw X rr2 cw2) cw2 rr2) j_) (p_ + W.rb (W.runs X2 (W.frX rr cw X rr2 cw2) cw2 rr2) j_ * 4))))⟩),
      CodeOk Try.prog 90 565 (kAt (kOf Try.prog Try.f11) [true, true, true, true, false, true, false]) (LK0 rr cw X rr2 cw2 X2 ro2 co2 hi2) (.exit 0) (LKI rr cw X rr2 cw2 X2 ro2 co2 hi2 (W.frX rr cw X rr2 cw2) (W.runs X2 (W.frX rr cw X rr2 cw2) cw2 rr2) rr2),
      Contract Try.prog 30 [(.agg [(.int .i64 (↑rr)), (.int .i64 (↑cw)), (.sl 1 0 0 rr 1), (.int .i64 ro), (.int .i64 co), (.bool hi)]), (.c (.int .i64 (↑rr2))), (.c (.int .i64 (↑cw2)))] [(1, (.one ⟨false, false, (.gen rr (fun j_ => (.sl 2 j_ 0 cw 4)))⟩)), (2, (.many (fun j_ => some ⟨false, false, (.ig (W.rl rr (cw * 4) j_) W.ck (fun p_ => (X j_ p_)))⟩)))] 469 (.c (.sl 469 0 0 rr2 1)) [] [(469, (.one ⟨true, false, (.gen rr2 (fun j_ => (.sl 470 j_ 0 cw2 4)))⟩)), (470, (.many (fun j_ => some ⟨true, false, (.ig (W.rl rr2 (cw2 * 4) j_) W.ck (fun p_ => (W.frX rr cw (fun j_ p_ => X j_ p_) rr2 cw2 j_ p_)))⟩)))],
      Contract Try.prog 19 [(.agg [(.int .i64 (↑rr2)), (.int .i64 (↑cw2)), (.sl 3 0 0 rr2 1), (.int .i64 ro2), (.int .i64 co2), (.bool hi2)])] [(3, (.one ⟨false, false, (.gen rr2 (fun j_ => (.sl 4 j_ 0 cw2 4)))⟩)), (4, (.many (fun j_ => some ⟨false, false, (.ig (W.rl rr2 (cw2 * 4) j_) W.ck (fun p_ => (X2 j_ p_)))⟩)))] 341 (.c (.bool (true))) [] [],
      Contract Try.prog 19 [(.agg [(.int .i64 (↑rr)), (.int .i64 (↑cw)), (.sl 1 0 0 rr 1), (.int .i64 ro), (.int .i64 co), (.bool hi)])] [(1, (.one ⟨false, false, (.gen rr (fun j_ => (.sl 2 j_ 0 cw 4)))⟩)), (2, (.many (fun j_ => some ⟨false, false, (.ig (W.rl rr (cw * 4) j_) W.ck (fun p_ => (X j_ p_)))⟩)))] 277 (.c (.bool (true))) [] []])
    mixed Try.func11 (by kernel_rfl) (by kernel_rfl) (by kernel_rfl) ⟨rfl, (.inr (RoF.of (fun _ => rfl))), rfl, (.inr (RoF.of (fun _ => rfl))), trivial⟩ (by kernel_rfl) ⟨OwnF.of (fun _ => rfl), (diff_loop rr cw X rr2 cw2 X2 ro2 co2 hi2 (by omega) (by omega) (by omega) (by omega) (by omega) (by omega) (by omega) (by omega)), Contract0.in1 (from_ok rr cw (fun j_ p_ => X j_ p_) ro co hi rr2 cw2 (by omega) (by omega) (by omega) (by omega) (by omega) (by omega) (by omega)) [.b 1 1 true [], .b 2 2 true []] [none, none, none] [(3, 469), (4, 470)] [] (by kernel_rfl), Contract0.in1 (right_ok rr2 cw2 (fun j_ p_ => X2 j_ p_) ro2 co2 hi2 (by omega) (by omega) (by omega) (by omega) (by omega)) [.b 3 1 true [], .b 4 2 true []] [none] [] [] (by kernel_rfl), Contract0.in1 (right_ok rr cw (fun j_ p_ => X j_ p_) ro co hi (by omega) (by omega) (by omega) (by omega) (by omega)) [.b 1 1 true [], .b 2 2 true []] [none] [] [] (by kernel_rfl), trivial⟩) [.b 1 1 true, .b 2 2 true, .b 3 3 true, .b 4 4 true] [] [(573, 5), (574, 6)] [] (by kernel_rfl) (by kernel_rfl) (by kernel_rfl) (by kernel_rfl) (by kernel_rfl)
end Go.Proofs.Ytohleiikedpmkaa.Vm

namespace Go.Proofs.Ytohleiikedpmkaa.Vm
open Go Go.Proofs Go.Proofs.Ytohleiikedpmkaa
set_option maxRecDepth 100000
noncomputable def LUaI (X X2 : Nat → Int) (n N N2 i : Nat) : S0 :=
  ⟨[(0, (.c (.sl 1 0 0 n 4))), (1, (.c (.sl 2 0 0 n 4))), (12, (.c (.int .i64 (↑n)))), (4, (.c (.bool (false)))), (13, (.c (.int .i64 (i : Int))))], [(1, (.one ⟨false, false, (.ig N W.ck X)⟩)), (2, (.one ⟨false, false, (.ig N2 W.ck X2)⟩))], 163⟩
theorem LUa_by {α : Type} (I : α → S0) (Inv : α → Prop) (μ : α → Nat) {ex : Ex} {s' : S0} (hex : ex ≠ .normal)
    (step : ∀ x, Inv x → (∃ y, Inv y ∧ μ y < μ x ∧ CodeOk Try.prog 26 147 (kAt (kOf Try.prog Try.f38) [true, true, false, true, false, false]) (I x) .normal (I y)) ∨ CodeOk Try.prog 26 147 (kAt (kOf Try.prog Try.f38) [true, true, false, true, false, false]) (I x) ex s') (x : α) (hx : Inv x) :
    CodeOk Try.prog 26 147 (kAt (kOf Try.prog Try.f38) [true, true, false, true, false]) (I x) ex s' := by
  have hk : (kAt (kOf Try.prog Try.f38) [true, true, false, true, false]) = .loop (kAt (kOf Try.prog Try.f38) [true, true, false, true, false, false]) := by kernel_rfl
  rw [hk]
  exact CodeOk.loop I Inv μ hex step x hx
noncomputable def LUa0 (X X2 : Nat → Int) (n N N2 : Nat) : S0 :=
  ⟨[(0, (.c (.sl 1 0 0 n 4))), (1, (.c (.sl 2 0 0 n 4))), (12, (.c (.int .i64 (↑n)))), (4, (.c (.bool (false)))), (13, (.c (.int .i64 0)))], [(1, (.one ⟨false, false, (.ig N W.ck X)⟩)), (2, (.one ⟨false, false, (.ig N2 W.ck X2)⟩))], 147⟩
theorem LUa_rtt (X X2 : Nat → Int) (n N N2 i : Nat)
    (hN : n * 4 ≤ N)
    (hN2 : n * 4 ≤ N2)
    (hn : n ≤ 1048576)
    (hE : ∀ p, p < n * 4 → X p = X2 p)
    (hil : i ≤ n)
    (h0 : ((↑i : Int) < (↑n : Int)))
    (h1 : ((X (i * (4 : Nat)) == X2 (i * (4 : Nat)) && (X (i * (4 : Nat) + (1 : Nat)) == X2 (i * (4 : Nat) + (1 : Nat)) && (X (i * (4 : Nat) + (2 : Nat)) == X2 (i * (4 : Nat) + (2 : Nat)) && (X (i * (4 : Nat) + (3 : Nat)) == X2 (i * (4 : Nat) + (3 : Nat)) && true)))) = true)) :
    CodeOk Try.prog 26 147 (kAt (kOf Try.prog Try.f38) [true, true, false, true, false, false]) (LUaI X X2 n N N2 i) .normal (LUaI X X2 n N N2 (i + 1)) :=
  CodeOk.of_runs (fuel := 300) (v := ⟨[0, 1, 12, 4, 13], [1, 2], [], 163⟩) (hs := [(0, ⟨.auto, some (.c (.bool (true)))⟩), (6, ⟨.ask, none⟩), (7, ⟨.ask, some (.agg [(.int .i32 (X (i * 4))), (.int .i64 (X (i * 4 + 1))), (.int .i64 (X (i * 4 + 2))), (.int .i64 (X (i * 4 + 3)))])⟩), (10, ⟨.ask, none⟩), (11, ⟨.ask, some (.agg [(.int .i32 (X2 (i * 4))), (.int .i64 (X2 (i * 4 + 1))), (.int .i64 (X2 (i * 4 + 2))), (.int .i64 (X2 (i * 4 + 3)))])⟩), (12, ⟨.auto, some (.c (.bool (false)))⟩), (14, ⟨.auto, some (.c (.int .i64 (↑(i + 1))))⟩)])
    (cs := [EI .i64 (IntKind.wrap IntKind.i64 ((↑i : Int) + 1)) ((↑(i + 1) : Int)),
      EB (!(X (i * 4) == X2 (i * 4) && (X (i * 4 + 1) == X2 (i * 4 + 1) && (X (i * 4 + 2) == X2 (i * 4 + 2) && (X (i * 4 + 3) == X2 (i * 4 + 3) && true))))) false,
      ((.agg ((List.range 4).map (fun p_ => .int (W.ck (p_ + i * 4)) (X2 (p_ + i * 4))))) : V) = (.agg [(.int .i32 (X2 (i * 4))), (.int .i64 (X2 (i * 4 + 1))), (.int .i64 (X2 (i * 4 + 2))), (.int .i64 (X2 (i * 4 + 3)))]),
      (i * (4 : Nat) + (4 : Nat) ≤ N2),
      ((0 : Int) ≤ (↑i : Int) ∧ (↑i : Int) < (↑n : Int)),
      ((.agg ((List.range 4).map (fun p_ => .int (W.ck (p_ + i * 4)) (X (p_ + i * 4))))) : V) = (.agg [(.int .i32 (X (i * 4))), (.int .i64 (X (i * 4 + 1))), (.int .i64 (X (i * 4 + 2))), (.int .i64 (X (i * 4 + 3)))]),
      (i * (4 : Nat) + (4 : Nat) ≤ N),
      ((0 : Int) ≤ (↑i : Int) ∧ (↑i : Int) < (↑n : Int)),
      EB (decide ((↑i : Int) < (↑n : Int))) true])
    mixed (by kernel_rfl) ⟨.mk (by simp only [addO_eq, mulE_eq, mulE_one, Int.toNat_natCast, IntKind.wrap_i64, mmin, mmax]; omega), .mk (not_f h1), EV.ck4 (g := (fun p_ => (X2 p_))) (o := (i * 4)) (by omega) (by omega), (by omega), (by omega), EV.ck4 (g := (fun p_ => (X p_))) (o := (i * 4)) (by omega) (by omega), (by omega), (by omega), .mk (decide_eq_true h0), trivial⟩
theorem LUa_xf (X X2 : Nat → Int) (n N N2 i : Nat)
    (hN : n * 4 ≤ N)
    (hN2 : n * 4 ≤ N2)
    (hn : n ≤ 1048576)
    (hE : ∀ p, p < n * 4 → X p = X2 p)
    (hil : i ≤ n)
    (h0 : (¬(↑i : Int) < (↑n : Int))) :
    CodeOk Try.prog 26 147 (kAt (kOf Try.prog Try.f38) [true, true, false, true, false, false]) (LUaI X X2 n N N2 i) (.exit 0) (LUaI X X2 n N N2 i) :=
  CodeOk.of_runs (fuel := 300) (v := ⟨[0, 1, 12, 4, 13], [1, 2], [], 163⟩) (hs := [(0, ⟨.auto, some (.c (.bool (false)))⟩)])
    (cs := [EB (decide ((↑i : Int) < (↑n : Int))) false])
    mixed (by kernel_rfl) ⟨.mk (decide_eq_false h0), trivial⟩
end Go.Proofs.Ytohleiikedpmkaa.Vm

namespace Go.Proofs.Ytohleiikedpmkaa.Vm
open Go Go.Proofs Go.Proofs.Ytohleiikedpmkaa
theorem eq4 {X X2 : Nat → Int} {n i : Nat} (hE : ∀ p, p < n * 4 → X p = X2 p) (h : i < n) : (X (i * (4 : Nat)) == X2 (i * (4 : Nat)) && (X (i * (4 : Nat) + (1 : Nat)) == X2 (i * (4 : Nat) + (1 : Nat)) && (X (i * (4 : Nat) + (2 : Nat)) == X2 (i * (4 : Nat) + (2 : Nat)) && (X (i * (4 : Nat) + (3 : Nat)) == X2 (i * (4 : Nat) + (3 : Nat)) && true)))) = true := by
  rw [hE (i * 4) (by omega), hE (i * 4 + 1) (by omega), hE (i * 4 + 2) (by omega), hE (i * 4 + 3) (by omega)]
  simp
theorem equal_loop (X X2 : Nat → Int) (n N N2 : Nat)
    (hN : n * 4 ≤ N)
    (hN2 : n * 4 ≤ N2)
    (hn : n ≤ 1048576)
    (hE : ∀ p, p < n * 4 → X p = X2 p)
    : CodeOk Try.prog 26 147 (kAt (kOf Try.prog Try.f38) [true, true, false, true, false]) (LUa0 X X2 n N N2) (.exit 0) (LUaI X X2 n N N2 (n)) := by
  have h : CodeOk Try.prog 26 147 (kAt (kOf Try.prog Try.f38) [true, true, false, true, false]) (LUaI X X2 n N N2 0) (.exit 0) (LUaI X X2 n N N2 (n)) := by
    refine LUa_by (fun i => LUaI X X2 n N N2 i) (fun i => i ≤ n) (fun i => n - i) (by simp) ?_ 0 (Nat.zero_le _)
    intro i hi
    by_cases h0 : (i : Int) < ((n : Nat) : Int)
    · exact .inl ⟨i + 1, by omega, by omega, LUa_rtt X X2 n N N2 i hN hN2 hn hE hi h0 (eq4 hE (by omega))⟩
    · have e : i = n := by omega
      have x := LUa_xf X X2 n N N2 i hN hN2 hn hE hi h0
      refine .inr ?_
      rw [e] at x ⊢
      exact x
  refine CodeOk.enter (Move.same (by decide) (by decide) (by decide) rfl ?_) h
  exact ⟨SameB.refl rfl, SameB.refl rfl, trivial⟩
end Go.Proofs.Ytohleiikedpmkaa.Vm

namespace Go.Proofs.Ytohleiikedpmkaa.Vm
open Go Go.Proofs Go.Proofs.Ytohleiikedpmkaa
set_option maxRecDepth 100000
theorem equal_ok (X X2 : Nat → Int) (n N N2 : Nat)
    (hN : n * 4 ≤ N)
    (hN2 : n * 4 ≤ N2)
    (hn : n ≤ 1048576)
    (hE : ∀ p, p < n * 4 → X p = X2 p) :
    Contract0 Try.prog 38 [(.c (.sl 1 0 0 n 4)), (.c (.sl 2 0 0 n 4))] [(1, (.one ⟨false, false, (.ig N W.ck X)⟩)), (2, (.one ⟨false, false, (.ig N2 W.ck X2)⟩))] 3 (.c (.bool (true))) [] [] :=
  Contract0.fr 300 [(5, ⟨.auto, some (.c (.bool (false)))⟩), (10, ⟨.sum ⟨[0, 1, 12, 4, 13], [1, 2], [], 147⟩ (.exit 0) (LUaI X X2 n N N2 n), none⟩)] [] [CodeOk Try.prog 26 147 (kAt (kOf Try.prog Try.f38) [true, true, false, true, false]) (LUa0 X X2 n N N2) (.exit 0) (LUaI X X2 n N N2 n),
      EB ((↑n : Int) != (↑n : Int)) false] mixed Try.func38 (by kernel_rfl) ⟨(equal_loop X X2 n N N2 (by omega) (by omega) (by omega) (by omega)), .mk (bne_f (Decidable.of_not_not (by omega))), trivial⟩
noncomputable def LUbI (rr cw : Nat) (X X2 : Nat → Nat → Int) (i : Nat) : S0 :=
  ⟨[(1, (.c (.sl 3 0 0 rr 1))), (2, (.c (.fn 38 []))), (15, (.c (.sl 1 0 0 rr 1))), (16, (.c (.int .i64 (↑rr)))), (6, (.c (.bool (false)))), (17, (.c (.int .i64 (i : Int))))], [(1, (.one ⟨false, false, (.gen rr (fun j_ => (.sl 2 j_ 0 cw 4)))⟩)), (2, (.many (fun j_ => some ⟨false, false, (.ig (W.rl rr (cw * 4) j_) W.ck (fun p_ => (X j_ p_)))⟩))), (3, (.one ⟨false, false, (.gen rr (fun j_ => (.sl 4 j_ 0 cw 4)))⟩)), (4, (.many (fun j_ => some ⟨false, false, (.ig (W.rl rr (cw * 4) j_) W.ck (fun p_ => (X2 j_ p_)))⟩)))], 165⟩
theorem LUb_by {α : Type} (I : α → S0) (Inv : α → Prop) (μ : α → Nat) {ex : Ex} {s' : S0} (hex : ex ≠ .normal)
    (step : ∀ x, Inv x → (∃ y, Inv y ∧ μ y < μ x ∧ CodeOk Try.prog 32 149 (kAt (kOf Try.prog Try.f37) [true, true, false, true, false, false]) (I x) .normal (I y)) ∨ CodeOk Try.prog 32 149 (kAt (kOf Try.prog Try.f37) [true, true, false, true, false, false]) (I x) ex s') (x : α) (hx : Inv x) :
    CodeOk Try.prog 32 149 (kAt (kOf Try.prog Try.f37) [true, true, false, true, false]) (I x) ex s' := by
  have hk : (kAt (kOf Try.prog Try.f37) [true, true, false, true, false]) = .loop (kAt (kOf Try.prog Try.f37) [true, true, false, true, false, false]) := by kernel_rfl
  rw [hk]
  exact CodeOk.loop I Inv μ hex step x hx
noncomputable def LUb0 (rr cw : Nat) (X X2 : Nat → Nat → Int) : S0 :=
  ⟨[(1, (.c (.sl 3 0 0 rr 1))), (2, (.c (.fn 38 []))), (15, (.c (.sl 1 0 0 rr 1))), (16, (.c (.int .i64 (↑rr)))), (6, (.c (.bool (false)))), (17, (.c (.int .i64 0)))], [(1, (.one ⟨false, false, (.gen rr (fun j_ => (.sl 2 j_ 0 cw 4)))⟩)), (2, (.many (fun j_ => some ⟨false, false, (.ig (W.rl rr (cw * 4) j_) W.ck (fun p_ => (X j_ p_)))⟩))), (3, (.one ⟨false, false, (.gen rr (fun j_ => (.sl 4 j_ 0 cw 4)))⟩)), (4, (.many (fun j_ => some ⟨false, false, (.ig (W.rl rr (cw * 4) j_) W.ck (fun p_ => (X2 j_ p_)))⟩)))], 149⟩
theorem LUb_rt (rr cw : Nat) (X X2 : Nat → Nat → Int) (i : Nat)
    (hrr : 1 ≤ rr ∧ rr ≤ 60)
    (hcw : 1 ≤ cw ∧ cw ≤ 120)
    (hE : ∀ j, j < rr → ∀ p, p < cw * 4 → X j p = X2 j p)
    (hil : i ≤ rr)
    (h0 : ((↑i : Int) < (↑rr : Int))) :
    CodeOk Try.prog 32 149 (kAt (kOf Try.prog Try.f37) [true, true, false, true, false, false]) (LUbI rr cw X X2 i) .normal (LUbI rr cw X X2 (i + 1)) :=
  CodeOk.of_runs (fuel := 300) (v := ⟨[1, 2, 15, 16, 6, 17], [1, 2, 3, 4], [], 165⟩) (hs := [(0, ⟨.auto, some (.c (.bool (true)))⟩), (3, ⟨.ask, none⟩), (4, ⟨.ask, none⟩), (9, ⟨.ask, none⟩), (10, ⟨.ask, none⟩), (15, ⟨.call [2, 4] (.c (.bool (true))) [] [], none⟩), (18, ⟨.auto, some (.c (.int .i64 (↑(i + 1))))⟩)])
    (cs := [EI .i64 (IntKind.wrap IntKind.i64 ((↑i : Int) + 1)) ((↑(i + 1) : Int)),
      Contract Try.prog 38 [(.c (.sl 2 i 0 cw 4)), (.c (.sl 4 i 0 cw 4))] [(2, (.many (fun j_ => some ⟨false, false, (.ig (W.rl rr (cw * 4) j_) W.ck (fun p_ => (X j_ p_)))⟩))), (4, (.many (fun j_ => some ⟨false, false, (.ig (W.rl rr (cw * 4) j_) W.ck (fun p_ => (X2 j_ p_)))⟩)))] 389 (.c (.bool (true))) [] [],
      (i + (1 : Nat) ≤ rr),
      ((0 : Int) ≤ (↑i : Int) ∧ (↑i : Int) < (↑rr : Int)),
      (i + (1 : Nat) ≤ rr),
      ((0 : Int) ≤ (↑i : Int) ∧ (↑i : Int) < (↑rr : Int)),
      EB (decide ((↑i : Int) < (↑rr : Int))) true])
    mixed (by kernel_rfl) ⟨.mk (by simp only [addO_eq, mulE_eq, mulE_one, Int.toNat_natCast, IntKind.wrap_i64, mmin, mmax]; omega), ContractN.fin (ContractN.famB (bd := (.ig (W.rl rr (cw * 4) i) W.ck (fun p_ => (X i p_)))) (ex := false) (args1 := [(.c (.sl 404 0 0 cw 4)), (.c (.sl 4 i 0 cw 4))]) 404 2 i (ContractN.famB (bd := (.ig (W.rl rr (cw * 4) i) W.ck (fun p_ => (X2 i p_)))) (ex := false) (args1 := [(.c (.sl 404 0 0 cw 4)), (.c (.sl 403 0 0 cw 4))]) 403 4 i (Contract0.instN (equal_ok (fun p_ => X i p_) (fun p_ => X2 i p_) cw (W.rl rr (cw * 4) i) (W.rl rr (cw * 4) i) (by rw [rl_lt (by omega)]; omega) (by rw [rl_lt (by omega)]; omega) (by omega) (by exact fun p hp => hE _ (by omega) p hp)) [.b 404 1 true [], .b 403 2 true []] [none, none] [] [] (by kernel_rfl) (by kernel_rfl) (by kernel_rfl) (by kernel_rfl) (by kernel_rfl)) (by kernel_rfl) (by kernel_rfl) (by kernel_rfl) (by kernel_rfl) (by kernel_rfl) (by kernel_rfl)) (by kernel_rfl) (by kernel_rfl) (by kernel_rfl) (by kernel_rfl) (by kernel_rfl) (by kernel_rfl)) (by kernel_rfl), (by omega), (by omega), (by omega), (by omega), .mk (decide_eq_true h0), trivial⟩
theorem LUb_xf (rr cw : Nat) (X X2 : Nat → Nat → Int) (i : Nat)
    (hrr : 1 ≤ rr ∧ rr ≤ 60)
    (hcw : 1 ≤ cw ∧ cw ≤ 120)
    (hE : ∀ j, j < rr → ∀ p, p < cw * 4 → X j p = X2 j p)
    (hil : i ≤ rr)
    (h0 : (¬(↑i : Int) < (↑rr : Int))) :
    CodeOk Try.prog 32 149 (kAt (kOf Try.prog Try.f37) [true, true, false, true, false, false]) (LUbI rr cw X X2 i) (.exit 0) (LUbI rr cw X X2 i) :=
  CodeOk.of_runs (fuel := 300) (v := ⟨[1, 2, 15, 16, 6, 17], [1, 2, 3, 4], [], 165⟩) (hs := [(0, ⟨.auto, some (.c (.bool (false)))⟩)])
    (cs := [EB (decide ((↑i : Int) < (↑rr : Int))) false])
    mixed (by kernel_rfl) ⟨.mk (decide_eq_false h0), trivial⟩
end Go.Proofs.Ytohleiikedpmkaa.Vm

namespace Go.Proofs.Ytohleiikedpmkaa.Vm
open Go Go.Proofs Go.Proofs.Ytohleiikedpmkaa
theorem eqf_loop (rr cw : Nat) (X X2 : Nat → Nat → Int)
    (hrr : 1 ≤ rr ∧ rr ≤ 60)
    (hcw : 1 ≤ cw ∧ cw ≤ 120)
    (hE : ∀ j, j < rr → ∀ p, p < cw * 4 → X j p = X2 j p)
    : CodeOk Try.prog 32 149 (kAt (kOf Try.prog Try.f37) [true, true, false, true, false]) (LUb0 rr cw X X2) (.exit 0) (LUbI rr cw X X2 (rr)) := by
  have h : CodeOk Try.prog 32 149 (kAt (kOf Try.prog Try.f37) [true, true, false, true, false]) (LUbI rr cw X X2 0) (.exit 0) (LUbI rr cw X X2 (rr)) := by
    refine LUb_by (fun i => LUbI rr cw X X2 i) (fun i => i ≤ rr) (fun i => rr - i) (by simp) ?_ 0 (Nat.zero_le _)
    intro i hi
    by_cases h0 : (i : Int) < ((rr : Nat) : Int)
    · exact .inl ⟨i + 1, by omega, by omega, LUb_rt rr cw X X2 i hrr hcw hE hi h0⟩
    · have e : i = rr := by omega
      have x := LUb_xf rr cw X X2 i hrr hcw hE hi h0
      refine .inr ?_
      rw [e] at x ⊢
      exact x
  refine CodeOk.enter (Move.same (by decide) (by decide) (by decide) rfl ?_) h
  exact ⟨SameB.refl rfl, fun j k e => SameB.refl e, SameB.refl rfl, fun j k e => SameB.refl e, trivial⟩
end Go.Proofs.Ytohleiikedpmkaa.Vm

namespace Go.Proofs.Ytohleiikedpmkaa.Vm
open Go Go.Proofs Go.Proofs.Ytohleiikedpmkaa
set_option maxRecDepth 100000
theorem eqf_ok (rr cw : Nat) (X X2 : Nat → Nat → Int)
    (hrr : 1 ≤ rr ∧ rr ≤ 60)
    (hcw : 1 ≤ cw ∧ cw ≤ 120)
    (hE : ∀ j, j < rr → ∀ p, p < cw * 4 → X j p = X2 j p) :
    Contract0 Try.prog 37 [(.c (.sl 1 0 0 rr 1)), (.c (.sl 3 0 0 rr 1)), (.c (.fn 38 []))] [(1, (.one ⟨false, false, (.gen rr (fun j_ => (.sl 2 j_ 0 cw 4)))⟩)), (2, (.many (fun j_ => some ⟨false, false, (.ig (W.rl rr (cw * 4) j_) W.ck (fun p_ => (X j_ p_)))⟩))), (3, (.one ⟨false, false, (.gen rr (fun j_ => (.sl 4 j_ 0 cw 4)))⟩)), (4, (.many (fun j_ => some ⟨false, false, (.ig (W.rl rr (cw * 4) j_) W.ck (fun p_ => (X2 j_ p_)))⟩)))] 5 (.c (.bool (true))) [] [] :=
  Contract0.of_frunF (res := (.c (.bool (true)))) (up := []) (kill := []) (n0 := 5) (m := [(1, (.one ⟨false, false, (.gen rr (fun j_ => (.sl 2 j_ 0 cw 4)))⟩)), (2, (.many (fun j_ => some ⟨false, false, (.ig (W.rl rr (cw * 4) j_) W.ck (fun p_ => (X j_ p_)))⟩))), (3, (.one ⟨false, false, (.gen rr (fun j_ => (.sl 4 j_ 0 cw 4)))⟩)), (4, (.many (fun j_ => some ⟨false, false, (.ig (W.rl rr (cw * 4) j_) W.ck (fun p_ => (X2 j_ p_)))⟩)))]) (args := [(.c (.sl 1 0 0 rr 1)), (.c (.sl 3 0 0 rr 1)), (.c (.fn 38 []))]) (fn := Try.f37) (c := bodyOf Try.f37) (fuel := 300) (k := kOf Try.prog Try.f37) (outs := []) (hs := [(5, ⟨.auto, some (.c (.bool (false)))⟩), (10, ⟨.sum ⟨[1, 2, 15, 16, 6, 17], [1, 2, 3, 4], [], 149⟩ (.exit 0) (LUbI rr cw X X2 rr), none⟩)])
    (cs := [CodeOk Try.prog 32 149 (kAt (kOf Try.prog Try.f37) [true, true, false, true, false]) (LUb0 rr cw X X2) (.exit 0) (LUbI rr cw X X2 rr),
      EB ((↑rr : Int) != (↑rr : Int)) false])
    mixed Try.func37 (by kernel_rfl) (by kernel_rfl) (by kernel_rfl) ⟨rfl, (.inr (RoF.of (fun _ => rfl))), rfl, (.inr (RoF.of (fun _ => rfl))), trivial⟩ (by kernel_rfl) ⟨(eqf_loop rr cw X X2 (by omega) (by omega) (by omega)), .mk (bne_f (Decidable.of_not_not (by omega))), trivial⟩
noncomputable def LUcI (q q2 n : Nat) (N N2 : Nat → Nat) (Y Y2 : Nat → Nat → Int) (i : Nat) : S0 :=
  ⟨[(0, (.c (.sl 1 0 0 1 1))), (1, (.c (.sl 3 0 0 1 1))), (5, (.c (.int .i64 0))), (12, (.c (.int .i64 0))), (13, (.c (.sl 1 0 0 1 1))), (14, (.c (.int .i64 1))), (15, (.c (.bool (true)))), (18, (.c (.sl 1 0 0 1 1))), (19, (.c (.int .i64 0))), (20, (.c (.ptr 1 0 0))), (21, (.c (.sl 2 q 0 n 4))), (22, (.c (.int .i64 (↑n)))), (23, (.c (.sl 3 0 0 1 1))), (24, (.c (.int .i64 0))), (25, (.c (.ptr 3 0 0))), (26, (.c (.sl 4 q2 0 n 4))), (27, (.c (.int .i64 (↑n)))), (28, (.c (.bool (false)))), (4, (.c (.bool (false)))), (6, (.c (.int .i64 (i : Int))))], [(1, (.one ⟨false, false, (.cells [(.sl 2 q 0 n 4)])⟩)), (2, (.many (fun j_ => some ⟨false, false, (.ig (N j_) W.ck (fun p_ => (Y j_ p_)))⟩))), (3, (.one ⟨false, false, (.cells [(.sl 4 q2 0 n 4)])⟩)), (4, (.many (fun j_ => some ⟨false, false, (.ig (N2 j_) W.ck (fun p_ => (Y2 j_ p_)))⟩)))], 389⟩
theorem LUc_by {α : Type} (I : α → S0) (Inv : α → Prop) (μ : α → Nat) {ex : Ex} {s' : S0} (hex : ex ≠ .normal)
    (step : ∀ x, Inv x → (∃ y, Inv y ∧ μ y < μ x ∧ CodeOk Try.prog 53 373 (kAt (kOf Try.prog Try.f36) [true, true, false, true, false, false, true, false, false, true, true, false, false]) (I x) .normal (I y)) ∨ CodeOk Try.prog 53 373 (kAt (kOf Try.prog Try.f36) [true, true, false, true, false, false, true, false, false, true, true, false, false]) (I x) ex s') (x : α) (hx : Inv x) :
    CodeOk Try.prog 53 373 (kAt (kOf Try.prog Try.f36) [true, true, false, true, false, false, true, false, false, true, true, false]) (I x) ex s' := by
  have hk : (kAt (kOf Try.prog Try.f36) [true, true, false, true, false, false, true, false, false, true, true, false]) = .loop (kAt (kOf Try.prog Try.f36) [true, true, false, true, false, false, true, false, false, true, true, false, false]) := by kernel_rfl
  rw [hk]
  exact CodeOk.loop I Inv μ hex step x hx
noncomputable def LUc0 (q q2 n : Nat) (N N2 : Nat → Nat) (Y Y2 : Nat → Nat → Int) : S0 :=
  ⟨[(0, (.c (.sl 1 0 0 1 1))), (1, (.c (.sl 3 0 0 1 1))), (5, (.c (.int .i64 0))), (12, (.c (.int .i64 0))), (13, (.c (.sl 1 0 0 1 1))), (14, (.c (.int .i64 1))), (15, (.c (.bool (true)))), (18, (.c (.sl 1 0 0 1 1))), (19, (.c (.int .i64 0))), (20, (.c (.ptr 1 0 0))), (21, (.c (.sl 2 q 0 n 4))), (22, (.c (.int .i64 (↑n)))), (23, (.c (.sl 3 0 0 1 1))), (24, (.c (.int .i64 0))), (25, (.c (.ptr 3 0 0))), (26, (.c (.sl 4 q2 0 n 4))), (27, (.c (.int .i64 (↑n)))), (28, (.c (.bool (false)))), (4, (.c (.bool (false)))), (6, (.c (.int .i64 0)))], [(1, (.one ⟨false, false, (.cells [(.sl 2 q 0 n 4)])⟩)), (2, (.many (fun j_ => some ⟨false, false, (.ig (N j_) W.ck (fun p_ => (Y j_ p_)))⟩))), (3, (.one ⟨false, false, (.cells [(.sl 4 q2 0 n 4)])⟩)), (4, (.many (fun j_ => some ⟨false, false, (.ig (N2 j_) W.ck (fun p_ => (Y2 j_ p_)))⟩)))], 373⟩
theorem LUc_rtt (q q2 n : Nat) (N N2 : Nat → Nat) (Y Y2 : Nat → Nat → Int) (i : Nat)
    (hN : n * 4 ≤ N q)
    (hN2 : n * 4 ≤ N2 q2)
    (hn : n ≤ 1048576)
    (hE : ∀ p, p < n * 4 → Y q p = Y2 q2 p)
    (hil : i ≤ n)
    (h0 : ((↑i : Int) < (↑n : Int)))
    (h1 : ((Y q (i * (4 : Nat)) == Y2 q2 (i * (4 : Nat)) && (Y q (i * (4 : Nat) + (1 : Nat)) == Y2 q2 (i * (4 : Nat) + (1 : Nat)) && (Y q (i * (4 : Nat) + (2 : Nat)) == Y2 q2 (i * (4 : Nat) + (2 : Nat)) && (Y q (i * (4 : Nat) + (3 : Nat)) == Y2 q2 (i * (4 : Nat) + (3 : Nat)) && true)))) = true)) :
    CodeOk Try.prog 53 373 (kAt (kOf Try.prog Try.f36) [true, true, false, true, false, false, true, false, false, true, true, false, false]) (LUcI q q2 n N N2 Y Y2 i) .normal (LUcI q q2 n N N2 Y Y2 (i + 1)) :=
  CodeOk.of_runs (fuel := 300) (v := ⟨[0, 1, 5, 12, 13, 14, 15, 18, 19, 20, 21, 22, 23, 24, 25, 26, 27, 28, 4, 6], [1, 2, 3, 4], [], 389⟩) (hs := [(6, ⟨.auto, some (.c (.bool (true)))⟩), (13, ⟨.ask, none⟩), (14, ⟨.ask, some (.agg [(.int .i32 (Y q (i * 4))), (.int .i64 (Y q (i * 4 + 1))), (.int .i64 (Y q (i * 4 + 2))), (.int .i64 (Y q (i * 4 + 3)))])⟩), (20, ⟨.ask, none⟩), (21, ⟨.ask, some (.agg [(.int .i32 (Y2 q2 (i * 4))), (.int .i64 (Y2 q2 (i * 4 + 1))), (.int .i64 (Y2 q2 (i * 4 + 2))), (.int .i64 (Y2 q2 (i * 4 + 3)))])⟩), (22, ⟨.auto, some (.c (.bool (false)))⟩), (25, ⟨.auto, some (.c (.int .i64 (↑(i + 1))))⟩)])
    (cs := [EI .i64 (IntKind.wrap IntKind.i64 ((↑i : Int) + 1)) ((↑(i + 1) : Int)),
      EB (!(Y q (i * 4) == Y2 q2 (i * 4) && (Y q (i * 4 + 1) == Y2 q2 (i * 4 + 1) && (Y q (i * 4 + 2) == Y2 q2 (i * 4 + 2) && (Y q (i * 4 + 3) == Y2 q2 (i * 4 + 3) && true))))) false,
      ((.agg ((List.range 4).map (fun p_ => .int (W.ck (p_ + i * 4)) (Y2 q2 (p_ + i * 4))))) : V) = (.agg [(.int .i32 (Y2 q2 (i * 4))), (.int .i64 (Y2 q2 (i * 4 + 1))), (.int .i64 (Y2 q2 (i * 4 + 2))), (.int .i64 (Y2 q2 (i * 4 + 3)))]),
      (i * (4 : Nat) + (4 : Nat) ≤ N2 q2),
      ((0 : Int) ≤ (↑i : Int) ∧ (↑i : Int) < (↑n : Int)),
      ((.agg ((List.range 4).map (fun p_ => .int (W.ck (p_ + i * 4)) (Y q (p_ + i * 4))))) : V) = (.agg [(.int .i32 (Y q (i * 4))), (.int .i64 (Y q (i * 4 + 1))), (.int .i64 (Y q (i * 4 + 2))), (.int .i64 (Y q (i * 4 + 3)))]),
      (i * (4 : Nat) + (4 : Nat) ≤ N q),
      ((0 : Int) ≤ (↑i : Int) ∧ (↑i : Int) < (↑n : Int)),
      EB (decide ((↑i : Int) < (↑n : Int))) true])
    mixed (by kernel_rfl) ⟨.mk (by simp only [addO_eq, mulE_eq, mulE_one, Int.toNat_natCast, IntKind.wrap_i64, mmin, mmax]; omega), .mk (not_f h1), EV.ck4 (g := (fun p_ => (Y2 q2 p_))) (o := (i * 4)) (by omega) (by omega), (by omega), (by omega), EV.ck4 (g := (fun p_ => (Y q p_))) (o := (i * 4)) (by omega) (by omega), (by omega), (by omega), .mk (decide_eq_true h0), trivial⟩
theorem LUc_xf (q q2 n : Nat) (N N2 : Nat → Nat) (Y Y2 : Nat → Nat → Int) (i : Nat)
    (hN : n * 4 ≤ N q)
    (hN2 : n * 4 ≤ N2 q2)
    (hn : n ≤ 1048576)
    (hE : ∀ p, p < n * 4 → Y q p = Y2 q2 p)
    (hil : i ≤ n)
    (h0 : (¬(↑i : Int) < (↑n : Int))) :
    CodeOk Try.prog 53 373 (kAt (kOf Try.prog Try.f36) [true, true, false, true, false, false, true, false, false, true, true, false, false]) (LUcI q q2 n N N2 Y Y2 i) (.exit 2) (LUcI q q2 n N N2 Y Y2 i) :=
  CodeOk.of_runs (fuel := 300) (v := ⟨[0, 1, 5, 12, 13, 14, 15, 18, 19, 20, 21, 22, 23, 24, 25, 26, 27, 28, 4, 6], [1, 2, 3, 4], [], 389⟩) (hs := [(6, ⟨.auto, some (.c (.bool (false)))⟩)])
    (cs := [EB (decide ((↑i : Int) < (↑n : Int))) false])
    mixed (by kernel_rfl) ⟨.mk (decide_eq_false h0), trivial⟩
end Go.Proofs.Ytohleiikedpmkaa.Vm

namespace Go.Proofs.Ytohleiikedpmkaa.Vm
open Go Go.Proofs Go.Proofs.Ytohleiikedpmkaa
theorem sl1_loop (q q2 n : Nat) (N N2 : Nat → Nat) (Y Y2 : Nat → Nat → Int)
    (hN : n * 4 ≤ N q)
    (hN2 : n * 4 ≤ N2 q2)
    (hn : n ≤ 1048576)
    (hE : ∀ p, p < n * 4 → Y q p = Y2 q2 p)
    : CodeOk Try.prog 53 373 (kAt (kOf Try.prog Try.f36) [true, true, false, true, false, false, true, false, false, true, true, false]) (LUc0 q q2 n N N2 Y Y2) (.exit 2) (LUcI q q2 n N N2 Y Y2 (n)) := by
  have h : CodeOk Try.prog 53 373 (kAt (kOf Try.prog Try.f36) [true, true, false, true, false, false, true, false, false, true, true, false]) (LUcI q q2 n N N2 Y Y2 0) (.exit 2) (LUcI q q2 n N N2 Y Y2 (n)) := by
    refine LUc_by (fun i => LUcI q q2 n N N2 Y Y2 i) (fun i => i ≤ n) (fun i => n - i) (by simp) ?_ 0 (Nat.zero_le _)
    intro i hi
    by_cases h0 : (i : Int) < ((n : Nat) : Int)
    · exact .inl ⟨i + 1, by omega, by omega, LUc_rtt q q2 n N N2 Y Y2 i hN hN2 hn hE hi h0 (eq4 hE (by omega))⟩
    · have e : i = n := by omega
      have x := LUc_xf q q2 n N N2 Y Y2 i hN hN2 hn hE hi h0
      refine .inr ?_
      rw [e] at x ⊢
      exact x
  refine CodeOk.enter (Move.same (by decide) (by decide) (by decide) rfl ?_) h
  exact ⟨SameB.refl rfl, fun j k e => SameB.refl e, SameB.refl rfl, fun j k e => SameB.refl e, trivial⟩
end Go.Proofs.Ytohleiikedpmkaa.Vm

namespace Go.Proofs.Ytohleiikedpmkaa.Vm
open Go Go.Proofs Go.Proofs.Ytohleiikedpmkaa
set_option maxRecDepth 100000
theorem sl1_ok (q q2 n : Nat) (N N2 : Nat → Nat) (Y Y2 : Nat → Nat → Int)
    (hN : n * 4 ≤ N q)
    (hN2 : n * 4 ≤ N2 q2)
    (hn : n ≤ 1048576)
    (hE : ∀ p, p < n * 4 → Y q p = Y2 q2 p) :
    Contract0 Try.prog 36 [(.c (.sl 1 0 0 1 1)), (.c (.sl 3 0 0 1 1))] [(1, (.one ⟨false, false, (.cells [(.sl 2 q 0 n 4)])⟩)), (2, (.many (fun j_ => some ⟨false, false, (.ig (N j_) W.ck (fun p_ => (Y j_ p_)))⟩))), (3, (.one ⟨false, false, (.cells [(.sl 4 q2 0 n 4)])⟩)), (4, (.many (fun j_ => some ⟨false, false, (.ig (N2 j_) W.ck (fun p_ => (Y2 j_ p_)))⟩)))] 5 (.c (.bool (true))) [] [] :=
  Contract0.of_frunF (res := (.c (.bool (true)))) (up := []) (kill := []) (n0 := 5) (m := [(1, (.one ⟨false, false, (.cells [(.sl 2 q 0 n 4)])⟩)), (2, (.many (fun j_ => some ⟨false, false, (.ig (N j_) W.ck (fun p_ => (Y j_ p_)))⟩))), (3, (.one ⟨false, false, (.cells [(.sl 4 q2 0 n 4)])⟩)), (4, (.many (fun j_ => some ⟨false, false, (.ig (N2 j_) W.ck (fun p_ => (Y2 j_ p_)))⟩)))]) (args := [(.c (.sl 1 0 0 1 1)), (.c (.sl 3 0 0 1 1))]) (fn := Try.f36) (c := bodyOf Try.f36) (fuel := 300) (k := kOf Try.prog Try.f36) (outs := []) (hs := [(23, ⟨.auto, some (.c (.bool (false)))⟩), (26, ⟨.sum ⟨[0, 1, 5, 12, 13, 14, 15, 18, 19, 20, 21, 22, 23, 24, 25, 26, 27, 28, 4, 6], [1, 2, 3, 4], [], 373⟩ (.exit 2) (LUcI q q2 n N N2 Y Y2 n), none⟩)])
    (cs := [CodeOk Try.prog 53 373 (kAt (kOf Try.prog Try.f36) [true, true, false, true, false, false, true, false, false, true, true, false]) (LUc0 q q2 n N N2 Y Y2) (.exit 2) (LUcI q q2 n N N2 Y Y2 n),
      EB ((↑n : Int) != (↑n : Int)) false])
    mixed Try.func36 (by kernel_rfl) (by kernel_rfl) (by kernel_rfl) ⟨rfl, (.inr (RoF.of (fun _ => rfl))), rfl, (.inr (RoF.of (fun _ => rfl))), trivial⟩ (by kernel_rfl) ⟨(sl1_loop q q2 n N N2 Y Y2 (by omega) (by omega) (by omega) (by omega)), .mk (bne_f (Decidable.of_not_not (by omega))), trivial⟩
noncomputable def LUdI (rr cw ro co : Int) (hi : Bool) (L : W.Rn) (Y Y2 : Nat → Nat → Int) (i : Nat) : S0 :=
  ⟨[(2, (.c (.ptr 5 0 0))), (3, (.c (.ptr 21 0 0))), (4, (.c (.bool (false)))), (5, (.c (.int .i64 (i : Int))))], [(1, (.one ⟨false, false, (.row (List.length L * 3) 3 (fun j_ => [(.int .i64 (↑(W.ra L j_))), (.int .i64 (↑(W.rb L j_))), (.sl 2 j_ 0 (W.rn L j_) 4)]))⟩)), (2, (.many (fun j_ => some ⟨false, false, (.ig (W.rn L j_ * 4) W.ck (fun p_ => (Y (W.ra L j_) (p_ + W.rb L j_ * 4))))⟩))), (3, (.one ⟨false, false, (.row (List.length L * 3) 3 (fun j_ => [(.int .i64 (↑(W.ra L j_))), (.int .i64 (↑(W.rb L j_))), (.sl 4 j_ 0 (W.rn L j_) 4)]))⟩)), (4, (.many (fun j_ => some ⟨false, false, (.ig (W.rn L j_ * 4) W.ck (fun p_ => (Y2 (W.ra L j_) (p_ + W.rb L j_ * 4))))⟩))), (5, (.one ⟨true, true, (.cells [(.int .i64 rr), (.int .i64 cw), (.int .i64 ro), (.int .i64 co), (.bool hi), (.sl 1 0 0 (List.length L) 3)])⟩)), (21, (.one ⟨true, true, (.cells [(.int .i64 rr), (.int .i64 cw), (.int .i64 ro), (.int .i64 co), (.bool hi), (.sl 3 0 0 (List.length L) 3)])⟩))], 757⟩
theorem LUd_by {α : Type} (I : α → S0) (Inv : α → Prop) (μ : α → Nat) {ex : Ex} {s' : S0} (hex : ex ≠ .normal)
    (step : ∀ x, Inv x → (∃ y, Inv y ∧ μ y < μ x ∧ CodeOk Try.prog 89 741 (kAt (kOf Try.prog Try.f18) [true, true, false, true, false, false]) (I x) .normal (I y)) ∨ CodeOk Try.prog 89 741 (kAt (kOf Try.prog Try.f18) [true, true, false, true, false, false]) (I x) ex s') (x : α) (hx : Inv x) :
    CodeOk Try.prog 89 741 (kAt (kOf Try.prog Try.f18) [true, true, false, true, false]) (I x) ex s' := by
  have hk : (kAt (kOf Try.prog Try.f18) [true, true, false, true, false]) = .loop (kAt (kOf Try.prog Try.f18) [true, true, false, true, false, false]) := by kernel_rfl
  rw [hk]
  exact CodeOk.loop I Inv μ hex step x hx
noncomputable def LUd0 (rr cw ro co : Int) (hi : Bool) (L : W.Rn) (Y Y2 : Nat → Nat → Int) : S0 :=
  ⟨[(2, (.c (.ptr 5 0 0))), (3, (.c (.ptr 21 0 0))), (4, (.c (.bool (false)))), (5, (.c (.int .i64 0)))], [(1, (.one ⟨false, false, (.row (List.length L * 3) 3 (fun j_ => [(.int .i64 (↑(W.ra L j_))), (.int .i64 (↑(W.rb L j_))), (.sl 2 j_ 0 (W.rn L j_) 4)]))⟩)), (2, (.many (fun j_ => some ⟨false, false, (.ig (W.rn L j_ * 4) W.ck (fun p_ => (Y (W.ra L j_) (p_ + W.rb L j_ * 4))))⟩))), (3, (.one ⟨false, false, (.row (List.length L * 3) 3 (fun j_ => [(.int .i64 (↑(W.ra L j_))), (.int .i64 (↑(W.rb L j_))), (.sl 4 j_ 0 (W.rn L j_) 4)]))⟩)), (4, (.many (fun j_ => some ⟨false, false, (.ig (W.rn L j_ * 4) W.ck (fun p_ => (Y2 (W.ra L j_) (p_ + W.rb L j_ * 4))))⟩))), (5, (.one ⟨true, true, (.cells [(.int .i64 rr), (.int .i64 cw), (.int .i64 ro), (.int .i64 co), (.bool hi), (.sl 1 0 0 (List.length L) 3)])⟩)), (21, (.one ⟨true, true, (.cells [(.int .i64 rr), (.int .i64 cw), (.int .i64 ro), (.int .i64 co), (.bool hi), (.sl 3 0 0 (List.length L) 3)])⟩))], 741⟩
theorem LUd_rt (rr cw ro co : Int) (hi : Bool) (L : W.Rn) (Y Y2 : Nat → Nat → Int) (i : Nat)
    (hL : L.length ≤ 4000)
    (hE : ∀ i, i < L.length → W.rn L i ≤ 120 ∧ ∀ p, p < W.rn L i * 4 → Y (W.ra L i) (p + W.rb L i * 4) = Y2 (W.ra L i) (p + W.rb L i * 4))
    (hil : i ≤ L.length)
    (h0 : ((↑i : Int) < (↑(List.length L) : Int))) :
    CodeOk Try.prog 89 741 (kAt (kOf Try.prog Try.f18) [true, true, false, true, false, false]) (LUdI rr cw ro co hi L Y Y2 i) .normal (LUdI rr cw ro co hi L Y Y2 (i + 1)) :=
  CodeOk.of_runs (fuel := 300) (v := ⟨[2, 3, 4, 5], [1, 2, 3, 4, 5, 21], [], 757⟩) (hs := [(4, ⟨.auto, some (.c (.bool (true)))⟩), (9, ⟨.ask, none⟩), (10, ⟨.ask, some (.agg [(.int .i64 (↑(W.ra L i))), (.int .i64 (↑(W.rb L i))), (.sl 2 i 0 (W.rn L i) 4)])⟩), (16, ⟨.ask, none⟩), (17, ⟨.ask, some (.agg [(.int .i64 (↑(W.ra L i))), (.int .i64 (↑(W.rb L i))), (.sl 4 i 0 (W.rn L i) 4)])⟩), (24, ⟨.auto, some (.c (.bool (false)))⟩), (30, ⟨.auto, some (.c (.bool (false)))⟩), (39, ⟨.call [1301, 1349, 2, 4] (.c (.bool (true))) [] [], none⟩), (44, ⟨.auto, some (.c (.int .i64 (↑(i + 1))))⟩)])
    (cs := [EI .i64 (IntKind.wrap IntKind.i64 ((↑i : Int) + 1)) ((↑(i + 1) : Int)),
      Contract Try.prog 36 [(.c (.sl 1301 0 0 1 1)), (.c (.sl 1349 0 0 1 1))] [(1301, (.one ⟨true, true, (.cells [(.sl 2 i 0 (W.rn L i) 4)])⟩)), (1349, (.one ⟨true, true, (.cells [(.sl 4 i 0 (W.rn L i) 4)])⟩)), (2, (.many (fun j_ => some ⟨false, false, (.ig (W.rn L j_ * 4) W.ck (fun p_ => (Y (W.ra L j_) (p_ + W.rb L j_ * 4))))⟩))), (4, (.many (fun j_ => some ⟨false, false, (.ig (W.rn L j_ * 4) W.ck (fun p_ => (Y2 (W.ra L j_) (p_ + W.rb L j_ * 4))))⟩)))] 1365 (.c (.bool (true))) [] [],
      EB ((↑(W.rb L i) : Int) != (↑(W.rb L i) : Int)) false,
      EB ((↑(W.ra L i) : Int) != (↑(W.ra L i) : Int)) false,
      ((.agg ((List.range 3).map (fun j_ => recGet 3 (fun j_ => [(.int .i64 (↑(W.ra L j_))), (.int .i64 (↑(W.rb L j_))), (.sl 4 j_ 0 (W.rn L j_) 4)]) (i * 3 + j_)))) : V) = (.agg [(.int .i64 (↑(W.ra L i))), (.int .i64 (↑(W.rb L i))), (.sl 4 i 0 (W.rn L i) 4)]),
      (i * (3 : Nat) + (3 : Nat) ≤ List.length L * (3 : Nat)),
      ((0 : Int) ≤ (↑i : Int) ∧ (↑i : Int) < (↑(List.length L) : Int)),
      ((.agg ((List.range 3).map (fun j_ => recGet 3 (fun j_ => [(.int .i64 (↑(W.ra L j_))), (.int .i64 (↑(W.rb L j_))), (.sl 2 j_ 0 (W.rn L j_) 4)]) (i * 3 + j_)))) : V) = (.agg [(.int .i64 (↑(W.ra L i))), (.int .i64 (↑(W.rb L i))), (.sl 2 i 0 (W.rn L i) 4)]),
      (i * (3 : Nat) + (3 : Nat) ≤ List.length L * (3 : Nat)),
      ((0 : Int) ≤ (↑i : Int) ∧ (↑i : Int) < (↑(List.length L) : Int)),
      EB (decide ((↑i : Int) < (↑(List.length L) : Int))) true])
    mixed (by kernel_rfl) ⟨.mk (by simp only [addO_eq, mulE_eq, mulE_one, Int.toNat_natCast, IntKind.wrap_i64, mmin, mmax]; omega), Contract0.in1 (sl1_ok i i (W.rn L i) (fun j_ => W.rn L j_ * 4) (fun j_ => W.rn L j_ * 4) (fun j_ p_ => Y (W.ra L j_) (p_ + W.rb L j_ * 4)) (fun j_ p_ => Y2 (W.ra L j_) (p_ + W.rb L j_ * 4)) (by omega) (by omega) (by exact Nat.le_trans (hE _ (by omega)).1 (by decide)) (by exact (hE _ (by omega)).2)) [.b 1301 1 true [], .b 2 2 true [], .b 1349 3 true [], .b 4 4 true []] [none, none] [] [] (by kernel_rfl), .mk (bne_f (Decidable.of_not_not (by omega))), .mk (bne_f (Decidable.of_not_not (by omega))), EV.recs rfl, (by omega), (by omega), EV.recs rfl, (by omega), (by omega), .mk (decide_eq_true h0), trivial⟩
theorem LUd_xf (rr cw ro co : Int) (hi : Bool) (L : W.Rn) (Y Y2 : Nat → Nat → Int) (i : Nat)
    (hL : L.length ≤ 4000)
    (hE : ∀ i, i < L.length → W.rn L i ≤ 120 ∧ ∀ p, p < W.rn L i * 4 → Y (W.ra L i) (p + W.rb L i * 4) = Y2 (W.ra L i) (p + W.rb L i * 4))
    (hil : i ≤ L.length)
    (h0 : (¬(↑i : Int) < (↑(List.length L) : Int))) :
    CodeOk Try.prog 89 741 (kAt (kOf Try.prog Try.f18) [true, true, false, true, false, false]) (LUdI rr cw ro co hi L Y Y2 i) (.exit 0) (LUdI rr cw ro co hi L Y Y2 i) :=
  CodeOk.of_runs (fuel := 300) (v := ⟨[2, 3, 4, 5], [1, 2, 3, 4, 5, 21], [], 757⟩) (hs := [(4, ⟨.auto, some (.c (.bool (false)))⟩)])
    (cs := [EB (decide ((↑i : Int) < (↑(List.length L) : Int))) false])
    mixed (by kernel_rfl) ⟨.mk (decide_eq_false h0), trivial⟩
end Go.Proofs.Ytohleiikedpmkaa.Vm

namespace Go.Proofs.Ytohleiikedpmkaa.Vm
open Go Go.Proofs Go.Proofs.Ytohleiikedpmkaa
theorem samep_loop (rr cw ro co : Int) (hi : Bool) (L : W.Rn) (Y Y2 : Nat → Nat → Int)
    (hL : L.length ≤ 4000)
    (hE : ∀ i, i < L.length → W.rn L i ≤ 120 ∧ ∀ p, p < W.rn L i * 4 → Y (W.ra L i) (p + W.rb L i * 4) = Y2 (W.ra L i) (p + W.rb L i * 4))
    : CodeOk Try.prog 89 741 (kAt (kOf Try.prog Try.f18) [true, true, false, true, false]) (LUd0 rr cw ro co hi L Y Y2) (.exit 0) (LUdI rr cw ro co hi L Y Y2 (L.length)) := by
  have h : CodeOk Try.prog 89 741 (kAt (kOf Try.prog Try.f18) [true, true, false, true, false]) (LUdI rr cw ro co hi L Y Y2 0) (.exit 0) (LUdI rr cw ro co hi L Y Y2 (L.length)) := by
    refine LUd_by (fun i => LUdI rr cw ro co hi L Y Y2 i) (fun i => i ≤ L.length) (fun i => L.length - i) (by simp) ?_ 0 (Nat.zero_le _)
    intro i hi0
    by_cases h0 : (i : Int) < ((L.length : Nat) : Int)
    · exact .inl ⟨i + 1, by omega, by omega, LUd_rt rr cw ro co hi L Y Y2 i hL hE hi0 h0⟩
    · have e : i = L.length := by omega
      have x := LUd_xf rr cw ro co hi L Y Y2 i hL hE hi0 h0
      refine .inr ?_
      rw [e] at x ⊢
      exact x
  refine CodeOk.enter (Move.same (by decide) (by decide) (by decide) rfl ?_) h
  exact ⟨SameB.refl rfl, fun j k e => SameB.refl e, SameB.refl rfl, fun j k e => SameB.refl e, SameB.refl rfl, SameB.refl rfl, trivial⟩
end Go.Proofs.Ytohleiikedpmkaa.Vm

namespace Go.Proofs.Ytohleiikedpmkaa.Vm
open Go Go.Proofs Go.Proofs.Ytohleiikedpmkaa
set_option maxRecDepth 100000
theorem samep_ok (rr cw ro co : Int) (hi : Bool) (L : W.Rn) (Y Y2 : Nat → Nat → Int)
    (hL : L.length ≤ 4000)
    (hE : ∀ i, i < L.length → W.rn L i ≤ 120 ∧ ∀ p, p < W.rn L i * 4 → Y (W.ra L i) (p + W.rb L i * 4) = Y2 (W.ra L i) (p + W.rb L i * 4)) :
    Contract0 Try.prog 18 [(.agg [(.int .i64 rr), (.int .i64 cw), (.int .i64 ro), (.int .i64 co), (.bool hi), (.sl 1 0 0 (List.length L) 3)]), (.agg [(.int .i64 rr), (.int .i64 cw), (.int .i64 ro), (.int .i64 co), (.bool hi), (.sl 3 0 0 (List.length L) 3)])] [(1, (.one ⟨false, false, (.row (List.length L * 3) 3 (fun j_ => [(.int .i64 (↑(W.ra L j_))), (.int .i64 (↑(W.rb L j_))), (.sl 2 j_ 0 (W.rn L j_) 4)]))⟩)), (2, (.many (fun j_ => some ⟨false, false, (.ig (W.rn L j_ * 4) W.ck (fun p_ => (Y (W.ra L j_) (p_ + W.rb L j_ * 4))))⟩))), (3, (.one ⟨false, false, (.row (List.length L * 3) 3 (fun j_ => [(.int .i64 (↑(W.ra L j_))), (.int .i64 (↑(W.rb L j_))), (.sl 4 j_ 0 (W.rn L j_) 4)]))⟩)), (4, (.many (fun j_ => some ⟨false, false, (.ig (W.rn L j_ * 4) W.ck (fun p_ => (Y2 (W.ra L j_) (p_ + W.rb L j_ * 4))))⟩)))] 5 (.c (.bool (true))) [] [] :=
  Contract0.of_frunF (res := (.c (.bool (true)))) (up := []) (kill := []) (n0 := 5) (m := [(1, (.one ⟨false, false, (.row (List.length L * 3) 3 (fun j_ => [(.int .i64 (↑(W.ra L j_))), (.int .i64 (↑(W.rb L j_))), (.sl 2 j_ 0 (W.rn L j_) 4)]))⟩)), (2, (.many (fun j_ => some ⟨false, false, (.ig (W.rn L j_ * 4) W.ck (fun p_ => (Y (W.ra L j_) (p_ + W.rb L j_ * 4))))⟩))), (3, (.one ⟨false, false, (.row (List.length L * 3) 3 (fun j_ => [(.int .i64 (↑(W.ra L j_))), (.int .i64 (↑(W.rb L j_))), (.sl 4 j_ 0 (W.rn L j_) 4)]))⟩)), (4, (.many (fun j_ => some ⟨false, false, (.ig (W.rn L j_ * 4) W.ck (fun p_ => (Y2 (W.ra L j_) (p_ + W.rb L j_ * 4))))⟩)))]) (args := [(.agg [(.int .i64 rr), (.int .i64 cw), (.int .i64 ro), (.int .i64 co), (.bool hi), (.sl 1 0 0 (List.length L) 3)]), (.agg [(.int .i64 rr), (.int .i64 cw), (.int .i64 ro), (.int .i64 co), (.bool hi), (.sl 3 0 0 (List.length L) 3)])]) (fn := Try.f18) (c := bodyOf Try.f18) (fuel := 300) (k := kOf Try.prog Try.f18) (outs := []) (hs := [(7, ⟨.auto, some (.c (.bool (false)))⟩), (13, ⟨.auto, some (.c (.bool (false)))⟩), (20, ⟨.auto, some (.c (.bool (false)))⟩), (27, ⟨.auto, some (.c (.bool (false)))⟩), (34, ⟨.auto, some (.c (.bool (false)))⟩), (43, ⟨.auto, some (.c (.bool (false)))⟩), (47, ⟨.sum ⟨[2, 3, 4, 5], [1, 2, 3, 4, 5, 21], [], 741⟩ (.exit 0) (LUdI rr cw ro co hi L Y Y2 (List.length L)), none⟩)])
    (cs := [CodeOk Try.prog 89 741 (kAt (kOf Try.prog Try.f18) [true, true, false, true, false]) (LUd0 rr cw ro co hi L Y Y2) (.exit 0) (LUdI rr cw ro co hi L Y Y2 (List.length L)),
      EB ((↑(List.length L) : Int) != (↑(List.length L) : Int)) false,
      EB (!hi == hi) false,
      EB (co != co) false,
      EB (ro != ro) false,
      EB (cw != cw) false,
      EB (rr != rr) false])
    mixed Try.func18 (by kernel_rfl) (by kernel_rfl) (by kernel_rfl) ⟨rfl, (.inr (RoF.of (fun _ => rfl))), rfl, (.inr (RoF.of (fun _ => rfl))), trivial⟩ (by kernel_rfl) ⟨(samep_loop rr cw ro co hi L Y Y2 (by omega) (by omega)), .mk (bne_f (Decidable.of_not_not (by omega))), .mk (not_f (by simp)), .mk (bne_f (Decidable.of_not_not (by omega))), .mk (bne_f (Decidable.of_not_not (by omega))), .mk (bne_f (Decidable.of_not_not (by omega))), .mk (bne_f (Decidable.of_not_not (by omega))), trivial⟩
end Go.Proofs.Ytohleiikedpmkaa.Vm

namespace Go.Proofs.Ytohleiikedpmkaa.Vm
open Go Go.Proofs Go.Proofs.Ytohleiikedpmkaa
set_option maxRecDepth 100000
end Go.Proofs.Ytohleiikedpmkaa.Vm

namespace Go.Proofs.Ytohleiikedpmkaa.Vm
open Go Go.Proofs Go.Proofs.Ytohleiikedpmkaa
set_option maxRecDepth 100000
end Go.Proofs.Ytohleiikedpmkaa.Vm

namespace Go.Proofs.Ytohleiikedpmkaa.Vm
open Go Go.Proofs Go.Proofs.Ytohleiikedpmkaa
set_option maxRecDepth 100000
end Go.Proofs.Ytohleiikedpmkaa.Vm

namespace Go.Proofs.Ytohleiikedpmkaa.Vm
open Go Go.Proofs Go.Proofs.Ytohleiikedpmkaa
set_option maxRecDepth 100000
end Go.Proofs.Ytohleiikedpmkaa.Vm

namespace Go.Proofs.Ytohleiikedpmkaa.Vm
open Go Go.Proofs Go.Proofs.Ytohleiikedpmkaa
set_option maxRecDepth 100000
theorem kidx_abc :
    Contract0 Try.prog 54 [(.c (.sl 1 0 0 3 4)), (.c (.fn 49 []))] [(1, (.one ⟨false, false, (.cells [(.int .i32 97), (.int .i64 0), (.int .i64 0), (.int .i64 0), (.int .i32 98), (.int .i64 0), (.int .i64 0), (.int .i64 0), (.int .i32 99), (.int .i64 0), (.int .i64 0), (.int .i64 0)])⟩))] 2 (.c (.int .i64 (-1))) [] [] :=
  Contract0.fr 300 [(13, ⟨.call [] (.c (.bool (false))) [] [], none⟩), (26, ⟨.call [] (.c (.bool (false))) [] [], none⟩), (39, ⟨.call [] (.c (.bool (false))) [] [], none⟩)] [] [Contract Try.prog 49 [(.agg [(.int .i32 99), (.int .i64 0), (.int .i64 0), (.int .i64 0)])] [] 546 (.c (.bool (false))) [] [],
      Contract Try.prog 49 [(.agg [(.int .i32 98), (.int .i64 0), (.int .i64 0), (.int .i64 0)])] [] 370 (.c (.bool (false))) [] [],
      Contract Try.prog 49 [(.agg [(.int .i32 97), (.int .i64 0), (.int .i64 0), (.int .i64 0)])] [] 194 (.c (.bool (false))) [] []] mixed Try.func54 (by kernel_rfl) ⟨Contract0.in1 kcel_99 [] [none] [] [] (by kernel_rfl), Contract0.in1 kcel_98 [] [none] [] [] (by kernel_rfl), Contract0.in1 kcel_97 [] [none] [] [] (by kernel_rfl), trivial⟩
theorem kidx_aXY :
    Contract0 Try.prog 54 [(.c (.sl 1 0 0 3 4)), (.c (.fn 49 []))] [(1, (.one ⟨false, false, (.cells [(.int .i32 97), (.int .i64 0), (.int .i64 0), (.int .i64 0), (.int .i32 88), (.int .i64 0), (.int .i64 0), (.int .i64 0), (.int .i32 89), (.int .i64 0), (.int .i64 0), (.int .i64 0)])⟩))] 2 (.c (.int .i64 (-1))) [] [] :=
  Contract0.fr 300 [(13, ⟨.call [] (.c (.bool (false))) [] [], none⟩), (26, ⟨.call [] (.c (.bool (false))) [] [], none⟩), (39, ⟨.call [] (.c (.bool (false))) [] [], none⟩)] [] [Contract Try.prog 49 [(.agg [(.int .i32 89), (.int .i64 0), (.int .i64 0), (.int .i64 0)])] [] 546 (.c (.bool (false))) [] [],
      Contract Try.prog 49 [(.agg [(.int .i32 88), (.int .i64 0), (.int .i64 0), (.int .i64 0)])] [] 370 (.c (.bool (false))) [] [],
      Contract Try.prog 49 [(.agg [(.int .i32 97), (.int .i64 0), (.int .i64 0), (.int .i64 0)])] [] 194 (.c (.bool (false))) [] []] mixed Try.func54 (by kernel_rfl) ⟨Contract0.in1 kcel_89 [] [none] [] [] (by kernel_rfl), Contract0.in1 kcel_88 [] [none] [] [] (by kernel_rfl), Contract0.in1 kcel_97 [] [none] [] [] (by kernel_rfl), trivial⟩
end Go.Proofs.Ytohleiikedpmkaa.Vm

namespace Go.Proofs.Ytohleiikedpmkaa.Vm
open Go Go.Proofs Go.Proofs.Ytohleiikedpmkaa
set_option maxRecDepth 100000
theorem kcont_abc :
    Contract0 Try.prog 48 [(.c (.sl 1 0 0 3 4)), (.c (.fn 49 []))] [(1, (.one ⟨false, false, (.cells [(.int .i32 97), (.int .i64 0), (.int .i64 0), (.int .i64 0), (.int .i32 98), (.int .i64 0), (.int .i64 0), (.int .i64 0), (.int .i32 99), (.int .i64 0), (.int .i64 0), (.int .i64 0)])⟩))] 2 (.c (.bool (false))) [] [] :=
  Contract0.fr 300 [(3, ⟨.call [1] (.c (.int .i64 (-1))) [] [], none⟩)] [] [Contract Try.prog 54 [(.c (.sl 1 0 0 3 4)), (.c (.fn 49 []))] [(1, (.one ⟨false, false, (.cells [(.int .i32 97), (.int .i64 0), (.int .i64 0), (.int .i64 0), (.int .i32 98), (.int .i64 0), (.int .i64 0), (.int .i64 0), (.int .i32 99), (.int .i64 0), (.int .i64 0), (.int .i64 0)])⟩))] 50 (.c (.int .i64 (-1))) [] []] mixed Try.func48 (by kernel_rfl) ⟨Contract0.in1 kidx_abc [.b 1 1 true []] [none, none] [] [] (by kernel_rfl), trivial⟩
theorem kcont_aXY :
    Contract0 Try.prog 48 [(.c (.sl 1 0 0 3 4)), (.c (.fn 49 []))] [(1, (.one ⟨false, false, (.cells [(.int .i32 97), (.int .i64 0), (.int .i64 0), (.int .i64 0), (.int .i32 88), (.int .i64 0), (.int .i64 0), (.int .i64 0), (.int .i32 89), (.int .i64 0), (.int .i64 0), (.int .i64 0)])⟩))] 2 (.c (.bool (false))) [] [] :=
  Contract0.fr 300 [(3, ⟨.call [1] (.c (.int .i64 (-1))) [] [], none⟩)] [] [Contract Try.prog 54 [(.c (.sl 1 0 0 3 4)), (.c (.fn 49 []))] [(1, (.one ⟨false, false, (.cells [(.int .i32 97), (.int .i64 0), (.int .i64 0), (.int .i64 0), (.int .i32 88), (.int .i64 0), (.int .i64 0), (.int .i64 0), (.int .i32 89), (.int .i64 0), (.int .i64 0), (.int .i64 0)])⟩))] 50 (.c (.int .i64 (-1))) [] []] mixed Try.func48 (by kernel_rfl) ⟨Contract0.in1 kidx_aXY [.b 1 1 true []] [none, none] [] [] (by kernel_rfl), trivial⟩
theorem kblank :
    Contract0 Try.prog 22 [(.c (.int .i64 1)), (.c (.int .i64 3))] [] 1 (.agg [(.int .i64 1), (.int .i64 3), (.sl 1 0 0 1 1), (.int .i64 0), (.int .i64 0), (.bool (false))]) [] [(1, (.one ⟨true, false, (.cells [(.sl 2 0 0 3 4)])⟩)), (2, (.one ⟨true, true, (.cells [(.int .i32 32), (.int .i64 0), (.int .i64 0), (.int .i64 0), (.int .i32 32), (.int .i64 0), (.int .i64 0), (.int .i64 0), (.int .i32 32), (.int .i64 0), (.int .i64 0), (.int .i64 0)])⟩))] :=
  Contract0.renum (Contract0.of_frun (res := (.agg [(.int .i64 1), (.int .i64 3), (.sl 353 0 0 1 1), (.int .i64 0), (.int .i64 0), (.bool (false))])) (up := [(353, (.one ⟨true, false, (.cells [(.sl 321 0 0 3 4)])⟩)), (321, (.one ⟨true, true, (.cells [(.int .i32 32), (.int .i64 0), (.int .i64 0), (.int .i64 0), (.int .i32 32), (.int .i64 0), (.int .i64 0), (.int .i64 0), (.int .i32 32), (.int .i64 0), (.int .i64 0), (.int .i64 0)])⟩))]) (kill := []) (n0 := 1) (m := []) (args := [(.c (.int .i64 1)), (.c (.int .i64 3))]) (fn := Try.f22) (c := bodyOf Try.f22) (fuel := 300) (k := kOf Try.prog Try.f22) (outs := [353, 321]) (hs := [(21, ⟨.call [273] (.c (.sl 321 0 0 3 4)) [] [(321, (.one ⟨true, true, (.cells [(.int .i32 32), (.int .i64 0), (.int .i64 0), (.int .i64 0), (.int .i32 32), (.int .i64 0), (.int .i64 0), (.int .i64 0), (.int .i32 32), (.int .i64 0), (.int .i64 0), (.int .i64 0)])⟩))], none⟩)])
    (cs := [Contract Try.prog 39 [(.c (.sl 273 0 0 1 4)), (.c (.int .i64 3))] [(273, (.one ⟨true, true, (.cells [(.int .i32 32), (.int .i64 0), (.int .i64 0), (.int .i64 0)])⟩))] 321 (.c (.sl 321 0 0 3 4)) [] [(321, (.one ⟨true, true, (.cells [(.int .i32 32), (.int .i64 0), (.int .i64 0), (.int .i64 0), (.int .i32 32), (.int .i64 0), (.int .i64 0), (.int .i64 0), (.int .i32 32), (.int .i64 0), (.int .i64 0), (.int .i64 0)])⟩))]])
    mixed Try.func22 (by kernel_rfl) (by kernel_rfl) (by kernel_rfl) (by kernel_rfl) (by kernel_rfl) ⟨Contract0.in1 krepeat [.b 273 1 true []] [none, none] [(2, 321)] [] (by kernel_rfl), trivial⟩) [] [] [(353, 1), (321, 2)] [] (by kernel_rfl) (by kernel_rfl) (by kernel_rfl) (by kernel_rfl) (by kernel_rfl)
end Go.Proofs.Ytohleiikedpmkaa.Vm

namespace Go.Proofs.Ytohleiikedpmkaa.Vm
open Go Go.Proofs Go.Proofs.Ytohleiikedpmkaa
set_option maxRecDepth 100000
theorem kcells_abc :
    Contract0 Try.prog 33 [(.c (.sl 1 0 0 3 4))] [(1, (.one ⟨false, false, (.cells [(.int .i32 97), (.int .i64 0), (.int .i64 0), (.int .i64 0), (.int .i32 98), (.int .i64 0), (.int .i64 0), (.int .i64 0), (.int .i32 99), (.int .i64 0), (.int .i64 0), (.int .i64 0)])⟩))] 2 (.c (.bool (true))) [] [] :=
  Contract0.fr 300 [(2, ⟨.call [1] (.c (.bool (false))) [] [], none⟩)] [] [Contract Try.prog 48 [(.c (.sl 1 0 0 3 4)), (.c (.fn 49 []))] [(1, (.one ⟨false, false, (.cells [(.int .i32 97), (.int .i64 0), (.int .i64 0), (.int .i64 0), (.int .i32 98), (.int .i64 0), (.int .i64 0), (.int .i64 0), (.int .i32 99), (.int .i64 0), (.int .i64 0), (.int .i64 0)])⟩))] 34 (.c (.bool (false))) [] []] mixed Try.func33 (by kernel_rfl) ⟨Contract0.in1 kcont_abc [.b 1 1 true []] [none, none] [] [] (by kernel_rfl), trivial⟩
theorem kcells_aXY :
    Contract0 Try.prog 33 [(.c (.sl 1 0 0 3 4))] [(1, (.one ⟨false, false, (.cells [(.int .i32 97), (.int .i64 0), (.int .i64 0), (.int .i64 0), (.int .i32 88), (.int .i64 0), (.int .i64 0), (.int .i64 0), (.int .i32 89), (.int .i64 0), (.int .i64 0), (.int .i64 0)])⟩))] 2 (.c (.bool (true))) [] [] :=
  Contract0.fr 300 [(2, ⟨.call [1] (.c (.bool (false))) [] [], none⟩)] [] [Contract Try.prog 48 [(.c (.sl 1 0 0 3 4)), (.c (.fn 49 []))] [(1, (.one ⟨false, false, (.cells [(.int .i32 97), (.int .i64 0), (.int .i64 0), (.int .i64 0), (.int .i32 88), (.int .i64 0), (.int .i64 0), (.int .i64 0), (.int .i32 89), (.int .i64 0), (.int .i64 0), (.int .i64 0)])⟩))] 34 (.c (.bool (false))) [] []] mixed Try.func33 (by kernel_rfl) ⟨Contract0.in1 kcont_aXY [.b 1 1 true []] [none, none] [] [] (by kernel_rfl), trivial⟩
theorem ktext_abc :
    Contract0 Try.prog 29 [(.c (.str ({ data := { toList := [97, 98, 99] } })))] [] 1 (.agg [(.int .i64 1), (.int .i64 3), (.sl 1 0 0 1 1), (.int .i64 0), (.int .i64 0), (.bool (false))]) [] [(1, (.one ⟨true, false, (.cells [(.sl 2 0 0 3 4)])⟩)), (2, (.one ⟨true, true, (.cells [(.int .i32 97), (.int .i64 0), (.int .i64 0), (.int .i64 0), (.int .i32 98), (.int .i64 0), (.int .i64 0), (.int .i64 0), (.int .i32 99), (.int .i64 0), (.int .i64 0), (.int .i64 0)])⟩))] :=
  Contract0.renum (Contract0.of_frun (res := (.agg [(.int .i64 1), (.int .i64 3), (.sl 17 0 0 1 1), (.int .i64 0), (.int .i64 0), (.bool (false))])) (up := [(17, (.one ⟨true, false, (.cells [(.sl 18 0 0 3 4)])⟩)), (18, (.one ⟨true, true, (.cells [(.int .i32 97), (.int .i64 0), (.int .i64 0), (.int .i64 0), (.int .i32 98), (.int .i64 0), (.int .i64 0), (.int .i64 0), (.int .i32 99), (.int .i64 0), (.int .i64 0), (.int .i64 0)])⟩))]) (kill := []) (n0 := 1) (m := []) (args := [(.c (.str ({ data := { toList := [97, 98, 99] } })))]) (fn := Try.f29) (c := bodyOf Try.f29) (fuel := 300) (k := kOf Try.prog Try.f29) (outs := [17, 18]) (hs := [(1, ⟨.call [] (.agg [(.int .i64 1), (.int .i64 3), (.sl 17 0 0 1 1), (.int .i64 0), (.int .i64 0), (.bool (false))]) [] [(17, (.one ⟨true, false, (.cells [(.sl 18 0 0 3 4)])⟩)), (18, (.one ⟨true, true, (.cells [(.int .i32 32), (.int .i64 0), (.int .i64 0), (.int .i64 0), (.int .i32 32), (.int .i64 0), (.int .i64 0), (.int .i64 0), (.int .i32 32), (.int .i64 0), (.int .i64 0), (.int .i64 0)])⟩))], none⟩)])
    (cs := [Contract Try.prog 22 [(.c (.int .i64 1)), (.c (.int .i64 3))] [] 17 (.agg [(.int .i64 1), (.int .i64 3), (.sl 17 0 0 1 1), (.int .i64 0), (.int .i64 0), (.bool (false))]) [] [(17, (.one ⟨true, false, (.cells [(.sl 18 0 0 3 4)])⟩)), (18, (.one ⟨true, true, (.cells [(.int .i32 32), (.int .i64 0), (.int .i64 0), (.int .i64 0), (.int .i32 32), (.int .i64 0), (.int .i64 0), (.int .i64 0), (.int .i32 32), (.int .i64 0), (.int .i64 0), (.int .i64 0)])⟩))]])
    mixed Try.func29 (by kernel_rfl) (by kernel_rfl) (by kernel_rfl) (by kernel_rfl) (by kernel_rfl) ⟨Contract0.in1 kblank [] [none, none] [(1, 17), (2, 18)] [] (by kernel_rfl), trivial⟩) [] [] [(17, 1), (18, 2)] [] (by kernel_rfl) (by kernel_rfl) (by kernel_rfl) (by kernel_rfl) (by kernel_rfl)
theorem ktext_aXY :
    Contract0 Try.prog 29 [(.c (.str ({ data := { toList := [97, 88, 89] } })))] [] 1 (.agg [(.int .i64 1), (.int .i64 3), (.sl 1 0 0 1 1), (.int .i64 0), (.int .i64 0), (.bool (false))]) [] [(1, (.one ⟨true, false, (.cells [(.sl 2 0 0 3 4)])⟩)), (2, (.one ⟨true, true, (.cells [(.int .i32 97), (.int .i64 0), (.int .i64 0), (.int .i64 0), (.int .i32 88), (.int .i64 0), (.int .i64 0), (.int .i64 0), (.int .i32 89), (.int .i64 0), (.int .i64 0), (.int .i64 0)])⟩))] :=
  Contract0.renum (Contract0.of_frun (res := (.agg [(.int .i64 1), (.int .i64 3), (.sl 17 0 0 1 1), (.int .i64 0), (.int .i64 0), (.bool (false))])) (up := [(17, (.one ⟨true, false, (.cells [(.sl 18 0 0 3 4)])⟩)), (18, (.one ⟨true, true, (.cells [(.int .i32 97), (.int .i64 0), (.int .i64 0), (.int .i64 0), (.int .i32 88), (.int .i64 0), (.int .i64 0), (.int .i64 0), (.int .i32 89), (.int .i64 0), (.int .i64 0), (.int .i64 0)])⟩))]) (kill := []) (n0 := 1) (m := []) (args := [(.c (.str ({ data := { toList := [97, 88, 89] } })))]) (fn := Try.f29) (c := bodyOf Try.f29) (fuel := 300) (k := kOf Try.prog Try.f29) (outs := [17, 18]) (hs := [(1, ⟨.call [] (.agg [(.int .i64 1), (.int .i64 3), (.sl 17 0 0 1 1), (.int .i64 0), (.int .i64 0), (.bool (false))]) [] [(17, (.one ⟨true, false, (.cells [(.sl 18 0 0 3 4)])⟩)), (18, (.one ⟨true, true, (.cells [(.int .i32 32), (.int .i64 0), (.int .i64 0), (.int .i64 0), (.int .i32 32), (.int .i64 0), (.int .i64 0), (.int .i64 0), (.int .i32 32), (.int .i64 0), (.int .i64 0), (.int .i64 0)])⟩))], none⟩)])
    (cs := [Contract Try.prog 22 [(.c (.int .i64 1)), (.c (.int .i64 3))] [] 17 (.agg [(.int .i64 1), (.int .i64 3), (.sl 17 0 0 1 1), (.int .i64 0), (.int .i64 0), (.bool (false))]) [] [(17, (.one ⟨true, false, (.cells [(.sl 18 0 0 3 4)])⟩)), (18, (.one ⟨true, true, (.cells [(.int .i32 32), (.int .i64 0), (.int .i64 0), (.int .i64 0), (.int .i32 32), (.int .i64 0), (.int .i64 0), (.int .i64 0), (.int .i32 32), (.int .i64 0), (.int .i64 0), (.int .i64 0)])⟩))]])
    mixed Try.func29 (by kernel_rfl) (by kernel_rfl) (by kernel_rfl) (by kernel_rfl) (by kernel_rfl) ⟨Contract0.in1 kblank [] [none, none] [(1, 17), (2, 18)] [] (by kernel_rfl), trivial⟩) [] [] [(17, 1), (18, 2)] [] (by kernel_rfl) (by kernel_rfl) (by kernel_rfl) (by kernel_rfl) (by kernel_rfl)
theorem kclone_abc :
    Contract0 Try.prog 31 [(.c (.sl 1 0 0 3 4))] [(1, (.one ⟨false, false, (.cells [(.int .i32 97), (.int .i64 0), (.int .i64 0), (.int .i64 0), (.int .i32 98), (.int .i64 0), (.int .i64 0), (.int .i64 0), (.int .i32 99), (.int .i64 0), (.int .i64 0), (.int .i64 0)])⟩))] 2 (.c (.sl 2 0 0 3 4)) [] [(2, (.one ⟨true, false, (.cells [(.int .i32 97), (.int .i64 0), (.int .i64 0), (.int .i64 0), (.int .i32 98), (.int .i64 0), (.int .i64 0), (.int .i64 0), (.int .i32 99), (.int .i64 0), (.int .i64 0), (.int .i64 0)])⟩))] :=
  Contract0.renum (Contract0.of_frun (res := (.c (.sl 82 0 0 3 4))) (up := [(82, (.one ⟨true, false, (.cells [(.int .i32 97), (.int .i64 0), (.int .i64 0), (.int .i64 0), (.int .i32 98), (.int .i64 0), (.int .i64 0), (.int .i64 0), (.int .i32 99), (.int .i64 0), (.int .i64 0), (.int .i64 0)])⟩))]) (kill := []) (n0 := 2) (m := [(1, (.one ⟨false, false, (.cells [(.int .i32 97), (.int .i64 0), (.int .i64 0), (.int .i64 0), (.int .i32 98), (.int .i64 0), (.int .i64 0), (.int .i64 0), (.int .i32 99), (.int .i64 0), (.int .i64 0), (.int .i64 0)])⟩))]) (args := [(.c (.sl 1 0 0 3 4))]) (fn := Try.f31) (c := bodyOf Try.f31) (fuel := 300) (k := kOf Try.prog Try.f31) (outs := [82]) (hs := [])
    (cs := [])
    mixed Try.func31 (by kernel_rfl) (by kernel_rfl) (by kernel_rfl) (by kernel_rfl) (by kernel_rfl) trivial) [.b 1 1 true] [] [(82, 2)] [] (by kernel_rfl) (by kernel_rfl) (by kernel_rfl) (by kernel_rfl) (by kernel_rfl)
theorem kclone_XY :
    Contract0 Try.prog 31 [(.c (.sl 1 0 4 2 4))] [(1, (.one ⟨false, false, (.cells [(.int .i32 97), (.int .i64 0), (.int .i64 0), (.int .i64 0), (.int .i32 88), (.int .i64 0), (.int .i64 0), (.int .i64 0), (.int .i32 89), (.int .i64 0), (.int .i64 0), (.int .i64 0)])⟩))] 2 (.c (.sl 2 0 0 2 4)) [] [(2, (.one ⟨true, false, (.cells [(.int .i32 88), (.int .i64 0), (.int .i64 0), (.int .i64 0), (.int .i32 89), (.int .i64 0), (.int .i64 0), (.int .i64 0)])⟩))] :=
  Contract0.renum (Contract0.of_frun (res := (.c (.sl 82 0 0 2 4))) (up := [(82, (.one ⟨true, false, (.cells [(.int .i32 88), (.int .i64 0), (.int .i64 0), (.int .i64 0), (.int .i32 89), (.int .i64 0), (.int .i64 0), (.int .i64 0)])⟩))]) (kill := []) (n0 := 2) (m := [(1, (.one ⟨false, false, (.cells [(.int .i32 97), (.int .i64 0), (.int .i64 0), (.int .i64 0), (.int .i32 88), (.int .i64 0), (.int .i64 0), (.int .i64 0), (.int .i32 89), (.int .i64 0), (.int .i64 0), (.int .i64 0)])⟩))]) (args := [(.c (.sl 1 0 4 2 4))]) (fn := Try.f31) (c := bodyOf Try.f31) (fuel := 300) (k := kOf Try.prog Try.f31) (outs := [82]) (hs := [])
    (cs := [])
    mixed Try.func31 (by kernel_rfl) (by kernel_rfl) (by kernel_rfl) (by kernel_rfl) (by kernel_rfl) trivial) [.b 1 1 true] [] [(82, 2)] [] (by kernel_rfl) (by kernel_rfl) (by kernel_rfl) (by kernel_rfl) (by kernel_rfl)
theorem ksize_1 :
    PureF Try.prog 32 [(.c (.int .i64 1)), (.c (.int .i64 3)), (.c (.int .i64 0)), (.c (.int .i64 0))] (.c (.bool (true))) :=
  Contract0.fr 300 [] [] [] mixed Try.func32 (by kernel_rfl) trivial
end Go.Proofs.Ytohleiikedpmkaa.Vm
