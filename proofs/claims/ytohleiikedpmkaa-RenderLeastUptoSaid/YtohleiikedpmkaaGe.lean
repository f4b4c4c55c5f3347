/- What functions of the program come to: parts of the walk (Ge). -/
import Derived.Test.YtohleiikedpmkaaGd
import Derived.KernelRfl
import Derived.Test.YtohleiikedpmkaaProg
import Derived.Test.YtohleiikedpmkaaVmc
set_option linter.unusedSimpArgs false
set_option linter.unusedVariables false
namespace Go.Proofs.Ytohleiikedpmkaa.W
open Go Go.Proofs.Ytohleiikedpmkaa.Vm
def eqc (Y Z : Nat → Nat → Int) (j k : Nat) : Bool := (Y j (k * 4) == Z j (k * 4) && (Y j (k * 4 + 1) == Z j (k * 4 + 1) && (Y j (k * 4 + 2) == Z j (k * 4 + 2) && (Y j (k * 4 + 3) == Z j (k * 4 + 3) && true))))
abbrev Rn := List (Nat × Nat × Nat)
def ra (L : Rn) (k : Nat) : Nat := (L.getD k (0, 0, 0)).1
def rb (L : Rn) (k : Nat) : Nat := (L.getD k (0, 0, 0)).2.1
def rn (L : Rn) (k : Nat) : Nat := (L.getD k (0, 0, 0)).2.2
def stop (Y Z : Nat → Nat → Int) (j cw : Nat) : Nat → Nat → Nat
  | 0, e => e
  | n + 1, e => bif Nat.blt e cw && !eqc Y Z j e then stop Y Z j cw n (e + 1) else e
def stopAt (Y Z : Nat → Nat → Int) (j cw e : Nat) : Nat := stop Y Z j cw (cw - e) e
theorem stop_spec (Y Z : Nat → Nat → Int) (j cw : Nat) : ∀ n e, e ≤ cw → cw - e ≤ n → e ≤ stop Y Z j cw n e ∧ stop Y Z j cw n e ≤ cw ∧ (∀ k, e ≤ k → k < stop Y Z j cw n e → eqc Y Z j k = false) ∧ (stop Y Z j cw n e = cw ∨ eqc Y Z j (stop Y Z j cw n e) = true)
  | 0, e, h1, h2 => by
    refine ⟨Nat.le_refl _, h1, fun k h3 h4 => ?_, .inl (by show e = cw; omega)⟩
    have h4 : k < e := h4
    omega
  | n + 1, e, h1, h2 => by
    by_cases he : e < cw
    · cases hq : eqc Y Z j e with
      | true =>
        have e0 : stop Y Z j cw (n + 1) e = e := by simp only [stop, hq, Bool.not_true, Bool.and_false, cond_false]
        rw [e0]
        exact ⟨Nat.le_refl _, h1, fun k h3 h4 => by omega, .inr hq⟩
      | false =>
        have e0 : stop Y Z j cw (n + 1) e = stop Y Z j cw n (e + 1) := by simp only [stop, hq, bltT he, Bool.not_false, Bool.and_true, cond_true]
        rw [e0]
        obtain ⟨g1, g2, g3, g4⟩ := stop_spec Y Z j cw n (e + 1) (by omega) (by omega)
        refine ⟨by omega, g2, fun k h3 h4 => ?_, g4⟩
        by_cases hk : k = e
        · subst hk; exact hq
        · exact g3 k (by omega) h4
    · have e0 : stop Y Z j cw (n + 1) e = e := by simp only [stop, bltF he, Bool.false_and, cond_false]
      rw [e0]
      exact ⟨Nat.le_refl _, h1, fun k h3 h4 => by omega, .inl (by omega)⟩
theorem stopAt_spec (Y Z : Nat → Nat → Int) (j : Nat) {cw e : Nat} (h : e ≤ cw) : e ≤ stopAt Y Z j cw e ∧ stopAt Y Z j cw e ≤ cw ∧ (∀ k, e ≤ k → k < stopAt Y Z j cw e → eqc Y Z j k = false) ∧ (stopAt Y Z j cw e = cw ∨ eqc Y Z j (stopAt Y Z j cw e) = true) :=
  stop_spec Y Z j cw _ e h (Nat.le_refl _)
def rowRuns (Y Z : Nat → Nat → Int) (j cw : Nat) : Nat → Nat → Rn → Rn
  | 0, _, L => L
  | n + 1, k, L => bif Nat.blt k cw then rowRuns Y Z j cw n (stopAt Y Z j cw k + 1) (bif Nat.blt k (stopAt Y Z j cw k) then L ++ [(j, k, stopAt Y Z j cw k - k)] else L) else L
def runs (Y Z : Nat → Nat → Int) (cw : Nat) : Nat → Rn
  | 0 => []
  | i + 1 => rowRuns Y Z i cw cw 0 (runs Y Z cw i)
end Go.Proofs.Ytohleiikedpmkaa.W

namespace Go.Proofs.Ytohleiikedpmkaa.Vm
open Go Go.Proofs Go.Proofs.Ytohleiikedpmkaa
set_option maxRecDepth 100000
noncomputable def LGI (rr cw : Nat) (X : Nat → Nat → Int) (rr2 cw2 : Nat) (X2 : Nat → Nat → Int) (ro2 co2 : Int) (hi2 : Bool) (Z : Nat → Nat → Int) (L : W.Rn) (i k e : Nat) : S0 :=
  ⟨[(4, (.c (.ptr 37 0 0))), (5, (.c (.ptr 229 0 0))), (6, (.c (.sl 469 0 0 rr2 1))), (38, (.c (.sl 3 0 0 rr2 1))), (39, (.c (.int .i64 (↑rr2)))), (40, (.c (.int .i64 (i : Int)))), (7, (.c (.int .i64 (i : Int)))), (8, (.c (.sl 4 i 0 cw2 4))), (9, (.c (.int .i64 (k : Int)))), (10, (.c (.int .i64 (e : Int))))], [(1, (.one ⟨false, false, (.gen rr (fun j_ => (.sl 2 j_ 0 cw 4)))⟩)), (2, (.many (fun j_ => some ⟨false, false, (.ig (W.rl rr (cw * 4) j_) W.ck (fun p_ => (X j_ p_)))⟩))), (3, (.one ⟨false, false, (.gen rr2 (fun j_ => (.sl 4 j_ 0 cw2 4)))⟩)), (4, (.many (fun j_ => some ⟨false, false, (.ig (W.rl rr2 (cw2 * 4) j_) W.ck (fun p_ => (X2 j_ p_)))⟩))), (37, (.one ⟨true, true, (.cells [(.int .i64 0), (.int .i64 0), (.int .i64 0), (.int .i64 0), (.bool (false)), .nils])⟩)), (229, (.one ⟨true, true, .cells [.int .i64 (rr2 : Int), .int .i64 (cw2 : Int), .int .i64 ro2, .int .i64 co2, .bool hi2, .sl 100008 0 0 L.length 3]⟩)), (469, (.one ⟨true, false, (.gen rr2 (fun j_ => (.sl 470 j_ 0 cw2 4)))⟩)), (470, (.many (fun j_ => some ⟨true, false, .ig (W.rl rr2 (cw2 * 4) j_) W.ck (Z j_)⟩))), (100008, (.one ⟨true, false, .row (L.length * 3) 3 (fun k_ => [.int .i64 (W.ra L k_ : Int), .int .i64 (W.rb L k_ : Int), .sl 100009 k_ 0 (W.rn L k_) 4])⟩)), (100009, (.many (fun j_ => some ⟨true, false, .ig (W.rn L j_ * 4) W.ck (fun p_ => X2 (W.ra L j_) (p_ + W.rb L j_ * 4))⟩)))], 200016⟩
theorem LG_by {α : Type} (I : α → S0) (Inv : α → Prop) (μ : α → Nat) {ex : Ex} {s' : S0} (hex : ex ≠ .normal)
    (step : ∀ x, Inv x → (∃ y, Inv y ∧ μ y < μ x ∧ CodeOk Try.prog 90 200000 (kAt (kOf Try.prog Try.f11) [true, true, true, true, false, true, false, false, true, true, false, false, true, true, false, false, true, false, true, false, false, false]) (I x) .normal (I y)) ∨ CodeOk Try.prog 90 200000 (kAt (kOf Try.prog Try.f11) [true, true, true, true, false, true, false, false, true, true, false, false, true, true, false, false, true, false, true, false, false, false]) (I x) ex s') (x : α) (hx : Inv x) :
    CodeOk Try.prog 90 200000 (kAt (kOf Try.prog Try.f11) [true, true, true, true, false, true, false, false, true, true, false, false, true, true, false, false, true, false, true, false, false]) (I x) ex s' := by
  have hk : (kAt (kOf Try.prog Try.f11) [true, true, true, true, false, true, false, false, true, true, false, false, true, true, false, false, true, false, true, false, false]) = .loop (kAt (kOf Try.prog Try.f11) [true, true, true, true, false, true, false, false, true, true, false, false, true, true, false, false, true, false, true, false, false, false]) := by kernel_rfl
  rw [hk]
  exact CodeOk.loop I Inv μ hex step x hx
theorem LG_xtt (rr cw : Nat) (X : Nat → Nat → Int) (ro co : Int) (rr2 cw2 : Nat) (X2 : Nat → Nat → Int) (ro2 co2 : Int) (hi2 : Bool) (Z : Nat → Nat → Int) (L : W.Rn) (i k e : Nat)
    (hrr : 1 ≤ rr ∧ rr ≤ 60)
    (hcw : 1 ≤ cw ∧ cw ≤ 120)
    (hro : 0 ≤ ro ∧ ro < rr)
    (hco : 0 ≤ co ∧ co < cw)
    (hX : ∀ j, j < rr → W.okRow (X j) cw)
    (hrr2 : 1 ≤ rr2 ∧ rr2 ≤ 60)
    (hcw2 : 1 ≤ cw2 ∧ cw2 ≤ 120)
    (hro2 : 0 ≤ ro2 ∧ ro2 < rr2)
    (hco2 : 0 ≤ co2 ∧ co2 < cw2)
    (hX2 : ∀ j, j < rr2 → W.okRow (X2 j) cw2)
    (hil : i < rr2)
    (hk : k ≤ e)
    (he : e ≤ cw2)
    (h0 : ((↑e : Int) < (↑cw2 : Int)))
    (h1 : ((X2 i (e * (4 : Nat)) == Z i (e * (4 : Nat)) && (X2 i (e * (4 : Nat) + (1 : Nat)) == Z i (e * (4 : Nat) + (1 : Nat)) && (X2 i (e * (4 : Nat) + (2 : Nat)) == Z i (e * (4 : Nat) + (2 : Nat)) && (X2 i (e * (4 : Nat) + (3 : Nat)) == Z i (e * (4 : Nat) + (3 : Nat)) && true)))) = true)) :
    CodeOk Try.prog 90 200000 (kAt (kOf Try.prog Try.f11) [true, true, true, true, false, true, false, false, true, true, false, false, true, true, false, false, true, false, true, false, false, false]) (LGI rr cw X rr2 cw2 X2 ro2 co2 hi2 Z L i k e) (.exit 4) (LGI rr cw X rr2 cw2 X2 ro2 co2 hi2 (fun j_ p_ => Z j_ p_) L i k e) :=
  CodeOk.of_runs (fuel := 300) (v := ⟨[4, 5, 6, 38, 39, 40, 7, 8, 9, 10], [1, 2, 3, 4, 37, 229, 469, 470, 100008, 100009], [], 200016⟩) (hs := [(4, ⟨.auto, some (.c (.bool (true)))⟩), (7, ⟨.ask, none⟩), (8, ⟨.ask, some (.agg [(.int .i32 (X2 i (e * 4))), (.int .i64 (X2 i (e * 4 + 1))), (.int .i64 (X2 i (e * 4 + 2))), (.int .i64 (X2 i (e * 4 + 3)))])⟩), (11, ⟨.ask, none⟩), (12, ⟨.ask, none⟩), (14, ⟨.ask, none⟩), (15, ⟨.ask, some (.agg [(.int .i32 (Z i (e * 4))), (.int .i64 (Z i (e * 4 + 1))), (.int .i64 (Z i (e * 4 + 2))), (.int .i64 (Z i (e * 4 + 3)))])⟩), (17, ⟨.auto, some (.c (.bool (false)))⟩)])
    (cs := [EB (!(X2 i (e * 4) == Z i (e * 4) && (X2 i (e * 4 + 1) == Z i (e * 4 + 1) && (X2 i (e * 4 + 2) == Z i (e * 4 + 2) && (X2 i (e * 4 + 3) == Z i (e * 4 + 3) && true))))) false,
      ((.agg ((List.range 4).map (fun p_ => .int (W.ck (p_ + e * 4)) (Z i (p_ + e * 4))))) : V) = (.agg [(.int .i32 (Z i (e * 4))), (.int .i64 (Z i (e * 4 + 1))), (.int .i64 (Z i (e * 4 + 2))), (.int .i64 (Z i (e * 4 + 3)))]),
      (e * (4 : Nat) + (4 : Nat) ≤ W.rl rr2 (cw2 * (4 : Nat)) i),
      ((0 : Int) ≤ (↑e : Int) ∧ (↑e : Int) < (↑cw2 : Int)),
      (i + (1 : Nat) ≤ rr2),
      ((0 : Int) ≤ (↑i : Int) ∧ (↑i : Int) < (↑rr2 : Int)),
      ((.agg ((List.range 4).map (fun p_ => .int (W.ck (p_ + e * 4)) (X2 i (p_ + e * 4))))) : V) = (.agg [(.int .i32 (X2 i (e * 4))), (.int .i64 (X2 i (e * 4 + 1))), (.int .i64 (X2 i (e * 4 + 2))), (.int .i64 (X2 i (e * 4 + 3)))]),
      (e * (4 : Nat) + (4 : Nat) ≤ W.rl rr2 (cw2 * (4 : Nat)) i),
      ((0 : Int) ≤ (↑e : Int) ∧ (↑e : Int) < (↑cw2 : Int)),
      EB (decide ((↑e : Int) < (↑cw2 : Int))) true])
    mixed (by kernel_rfl) ⟨.mk (not_f h1), EV.ck4 (g := (fun p_ => (Z i p_))) (o := (e * 4)) (by omega) (by omega), (by rw [rl_lt (by omega)]; omega), (by omega), (by omega), (by omega), EV.ck4 (g := (fun p_ => (X2 i p_))) (o := (e * 4)) (by omega) (by omega), (by rw [rl_lt (by omega)]; omega), (by omega), .mk (decide_eq_true h0), trivial⟩
theorem LG_rtf (rr cw : Nat) (X : Nat → Nat → Int) (ro co : Int) (rr2 cw2 : Nat) (X2 : Nat → Nat → Int) (ro2 co2 : Int) (hi2 : Bool) (Z : Nat → Nat → Int) (L : W.Rn) (i k e : Nat)
    (hrr : 1 ≤ rr ∧ rr ≤ 60)
    (hcw : 1 ≤ cw ∧ cw ≤ 120)
    (hro : 0 ≤ ro ∧ ro < rr)
    (hco : 0 ≤ co ∧ co < cw)
    (hX : ∀ j, j < rr → W.okRow (X j) cw)
    (hrr2 : 1 ≤ rr2 ∧ rr2 ≤ 60)
    (hcw2 : 1 ≤ cw2 ∧ cw2 ≤ 120)
    (hro2 : 0 ≤ ro2 ∧ ro2 < rr2)
    (hco2 : 0 ≤ co2 ∧ co2 < cw2)
    (hX2 : ∀ j, j < rr2 → W.okRow (X2 j) cw2)
    (hil : i < rr2)
    (hk : k ≤ e)
    (he : e ≤ cw2)
    (h0 : ((↑e : Int) < (↑cw2 : Int)))
    (h1 : (¬(X2 i (e * (4 : Nat)) == Z i (e * (4 : Nat)) && (X2 i (e * (4 : Nat) + (1 : Nat)) == Z i (e * (4 : Nat) + (1 : Nat)) && (X2 i (e * (4 : Nat) + (2 : Nat)) == Z i (e * (4 : Nat) + (2 : Nat)) && (X2 i (e * (4 : Nat) + (3 : Nat)) == Z i (e * (4 : Nat) + (3 : Nat)) && true)))) = true)) :
    CodeOk Try.prog 90 200000 (kAt (kOf Try.prog Try.f11) [true, true, true, true, false, true, false, false, true, true, false, false, true, true, false, false, true, false, true, false, false, false]) (LGI rr cw X rr2 cw2 X2 ro2 co2 hi2 Z L i k e) .normal (LGI rr cw X rr2 cw2 X2 ro2 co2 hi2 (fun j_ p_ => Z j_ p_) L i k (e + 1)) :=
  CodeOk.of_runs (fuel := 300) (v := ⟨[4, 5, 6, 38, 39, 40, 7, 8, 9, 10], [1, 2, 3, 4, 37, 229, 469, 470, 100008, 100009], [], 200016⟩) (hs := [(4, ⟨.auto, some (.c (.bool (true)))⟩), (7, ⟨.ask, none⟩), (8, ⟨.ask, some (.agg [(.int .i32 (X2 i (e * 4))), (.int .i64 (X2 i (e * 4 + 1))), (.int .i64 (X2 i (e * 4 + 2))), (.int .i64 (X2 i (e * 4 + 3)))])⟩), (11, ⟨.ask, none⟩), (12, ⟨.ask, none⟩), (14, ⟨.ask, none⟩), (15, ⟨.ask, some (.agg [(.int .i32 (Z i (e * 4))), (.int .i64 (Z i (e * 4 + 1))), (.int .i64 (Z i (e * 4 + 2))), (.int .i64 (Z i (e * 4 + 3)))])⟩), (17, ⟨.auto, some (.c (.bool (true)))⟩), (20, ⟨.auto, some (.c (.int .i64 (↑(e + 1))))⟩)])
    (cs := [EI .i64 (IntKind.wrap IntKind.i64 ((↑e : Int) + 1)) ((↑(e + 1) : Int)),
      EB (!(X2 i (e * 4) == Z i (e * 4) && (X2 i (e * 4 + 1) == Z i (e * 4 + 1) && (X2 i (e * 4 + 2) == Z i (e * 4 + 2) && (X2 i (e * 4 + 3) == Z i (e * 4 + 3) && true))))) true,
      ((.agg ((List.range 4).map (fun p_ => .int (W.ck (p_ + e * 4)) (Z i (p_ + e * 4))))) : V) = (.agg [(.int .i32 (Z i (e * 4))), (.int .i64 (Z i (e * 4 + 1))), (.int .i64 (Z i (e * 4 + 2))), (.int .i64 (Z i (e * 4 + 3)))]),
      (e * (4 : Nat) + (4 : Nat) ≤ W.rl rr2 (cw2 * (4 : Nat)) i),
      ((0 : Int) ≤ (↑e : Int) ∧ (↑e : Int) < (↑cw2 : Int)),
      (i + (1 : Nat) ≤ rr2),
      ((0 : Int) ≤ (↑i : Int) ∧ (↑i : Int) < (↑rr2 : Int)),
      ((.agg ((List.range 4).map (fun p_ => .int (W.ck (p_ + e * 4)) (X2 i (p_ + e * 4))))) : V) = (.agg [(.int .i32 (X2 i (e * 4))), (.int .i64 (X2 i (e * 4 + 1))), (.int .i64 (X2 i (e * 4 + 2))), (.int .i64 (X2 i (e * 4 + 3)))]),
      (e * (4 : Nat) + (4 : Nat) ≤ W.rl rr2 (cw2 * (4 : Nat)) i),
      ((0 : Int) ≤ (↑e : Int) ∧ (↑e : Int) < (↑cw2 : Int)),
      EB (decide ((↑e : Int) < (↑cw2 : Int))) true])
    mixed (by kernel_rfl) ⟨.mk (by simp only [addO_eq, mulE_eq, mulE_one, Int.toNat_natCast, IntKind.wrap_i64, mmin, mmax]; omega), .mk (not_t (Bool.eq_false_iff.2 h1)), EV.ck4 (g := (fun p_ => (Z i p_))) (o := (e * 4)) (by omega) (by omega), (by rw [rl_lt (by omega)]; omega), (by omega), (by omega), (by omega), EV.ck4 (g := (fun p_ => (X2 i p_))) (o := (e * 4)) (by omega) (by omega), (by rw [rl_lt (by omega)]; omega), (by omega), .mk (decide_eq_true h0), trivial⟩
theorem LG_xf (rr cw : Nat) (X : Nat → Nat → Int) (ro co : Int) (rr2 cw2 : Nat) (X2 : Nat → Nat → Int) (ro2 co2 : Int) (hi2 : Bool) (Z : Nat → Nat → Int) (L : W.Rn) (i k e : Nat)
    (hrr : 1 ≤ rr ∧ rr ≤ 60)
    (hcw : 1 ≤ cw ∧ cw ≤ 120)
    (hro : 0 ≤ ro ∧ ro < rr)
    (hco : 0 ≤ co ∧ co < cw)
    (hX : ∀ j, j < rr → W.okRow (X j) cw)
    (hrr2 : 1 ≤ rr2 ∧ rr2 ≤ 60)
    (hcw2 : 1 ≤ cw2 ∧ cw2 ≤ 120)
    (hro2 : 0 ≤ ro2 ∧ ro2 < rr2)
    (hco2 : 0 ≤ co2 ∧ co2 < cw2)
    (hX2 : ∀ j, j < rr2 → W.okRow (X2 j) cw2)
    (hil : i < rr2)
    (hk : k ≤ e)
    (he : e ≤ cw2)
    (h0 : (¬(↑e : Int) < (↑cw2 : Int))) :
    CodeOk Try.prog 90 200000 (kAt (kOf Try.prog Try.f11) [true, true, true, true, false, true, false, false, true, true, false, false, true, true, false, false, true, false, true, false, false, false]) (LGI rr cw X rr2 cw2 X2 ro2 co2 hi2 Z L i k e) (.exit 4) (LGI rr cw X rr2 cw2 X2 ro2 co2 hi2 (fun j_ p_ => Z j_ p_) L i k e) :=
  CodeOk.of_runs (fuel := 300) (v := ⟨[4, 5, 6, 38, 39, 40, 7, 8, 9, 10], [1, 2, 3, 4, 37, 229, 469, 470, 100008, 100009], [], 200016⟩) (hs := [(4, ⟨.auto, some (.c (.bool (false)))⟩)])
    (cs := [EB (decide ((↑e : Int) < (↑cw2 : Int))) false])
    mixed (by kernel_rfl) ⟨.mk (decide_eq_false h0), trivial⟩
end Go.Proofs.Ytohleiikedpmkaa.Vm

namespace Go.Proofs.Ytohleiikedpmkaa.Vm
open Go Go.Proofs Go.Proofs.Ytohleiikedpmkaa
theorem diff_inner (rr cw : Nat) (X : Nat → Nat → Int) (rr2 cw2 : Nat) (X2 : Nat → Nat → Int) (ro2 co2 : Int) (hi2 : Bool) (Z : Nat → Nat → Int) (L : W.Rn) (i k : Nat) (hrr : 1 ≤ rr ∧ rr ≤ 60) (hcw : 1 ≤ cw ∧ cw ≤ 120) (hX : ∀ j, j < rr → W.okRow (X j) cw)
    (hrr2 : 1 ≤ rr2 ∧ rr2 ≤ 60) (hcw2 : 1 ≤ cw2 ∧ cw2 ≤ 120) (hro2 : 0 ≤ ro2 ∧ ro2 < rr2) (hco2 : 0 ≤ co2 ∧ co2 < cw2) (hX2 : ∀ j, j < rr2 → W.okRow (X2 j) cw2) (hil : i < rr2) (hk : k ≤ cw2) :
    CodeOk Try.prog 90 200000 (kAt (kOf Try.prog Try.f11) [true, true, true, true, false, true, false, false, true, true, false, false, true, true, false, false, true, false, true, false, false]) (LGI rr cw X rr2 cw2 X2 ro2 co2 hi2 Z L i k k) (.exit 4) (LGI rr cw X rr2 cw2 X2 ro2 co2 hi2 Z L i k (W.stopAt X2 Z i cw2 k)) := by
  have hro : (0 : Int) ≤ 0 ∧ (0 : Int) < rr := by omega
  have hco : (0 : Int) ≤ 0 ∧ (0 : Int) < cw := by omega
  obtain ⟨s1, s2, s3, s4⟩ := W.stopAt_spec X2 Z i hk
  generalize W.stopAt X2 Z i cw2 k = S at s1 s2 s3 s4 ⊢
  refine LG_by (fun e => LGI rr cw X rr2 cw2 X2 ro2 co2 hi2 Z L i k e) (fun e => k ≤ e ∧ e ≤ S) (fun e => S - e) (by simp) ?_ k ⟨Nat.le_refl _, s1⟩
  intro e ⟨h1, h2⟩
  by_cases he : e < S
  · exact .inl ⟨e + 1, by omega, by omega, LG_rtf rr cw X 0 0 rr2 cw2 X2 ro2 co2 hi2 Z L i k e hrr hcw hro hco hX hrr2 hcw2 hro2 hco2 hX2 hil h1 (by omega) (by omega) (by have := s3 e h1 he; unfold W.eqc at this; rw [this]; simp)⟩
  · have e0 : e = S := by omega
    subst e0
    by_cases hc : e < cw2
    · have s5 : W.eqc X2 Z i e = true := by
        rcases s4 with s4 | s4
        · omega
        · exact s4
      exact .inr (LG_xtt rr cw X 0 0 rr2 cw2 X2 ro2 co2 hi2 Z L i k e hrr hcw hro hco hX hrr2 hcw2 hro2 hco2 hX2 hil h1 s2 (by omega) s5)
    · exact .inr (LG_xf rr cw X 0 0 rr2 cw2 X2 ro2 co2 hi2 Z L i k e hrr hcw hro hco hX hrr2 hcw2 hro2 hco2 hX2 hil h1 s2 (by omega))
end Go.Proofs.Ytohleiikedpmkaa.Vm

namespace Go.Proofs.Ytohleiikedpmkaa.Vm
open Go Go.Proofs Go.Proofs.Ytohleiikedpmkaa
set_option maxRecDepth 100000
noncomputable def LMI (rr cw : Nat) (X : Nat → Nat → Int) (rr2 cw2 : Nat) (X2 : Nat → Nat → Int) (ro2 co2 : Int) (hi2 : Bool) (Z : Nat → Nat → Int) (L : W.Rn) (i k : Nat) : S0 :=
  ⟨[(4, (.c (.ptr 37 0 0))), (5, (.c (.ptr 229 0 0))), (6, (.c (.sl 469 0 0 rr2 1))), (38, (.c (.sl 3 0 0 rr2 1))), (39, (.c (.int .i64 (↑rr2)))), (40, (.c (.int .i64 (i : Int)))), (7, (.c (.int .i64 (i : Int)))), (8, (.c (.sl 4 i 0 cw2 4))), (9, (.c (.int .i64 (k : Int))))], [(1, (.one ⟨false, false, (.gen rr (fun j_ => (.sl 2 j_ 0 cw 4)))⟩)), (2, (.many (fun j_ => some ⟨false, false, (.ig (W.rl rr (cw * 4) j_) W.ck (fun p_ => (X j_ p_)))⟩))), (3, (.one ⟨false, false, (.gen rr2 (fun j_ => (.sl 4 j_ 0 cw2 4)))⟩)), (4, (.many (fun j_ => some ⟨false, false, (.ig (W.rl rr2 (cw2 * 4) j_) W.ck (fun p_ => (X2 j_ p_)))⟩))), (37, (.one ⟨true, true, (.cells [(.int .i64 0), (.int .i64 0), (.int .i64 0), (.int .i64 0), (.bool (false)), .nils])⟩)), (229, (.one ⟨true, true, .cells [.int .i64 (rr2 : Int), .int .i64 (cw2 : Int), .int .i64 ro2, .int .i64 co2, .bool hi2, .sl 100008 0 0 L.length 3]⟩)), (469, (.one ⟨true, false, (.gen rr2 (fun j_ => (.sl 470 j_ 0 cw2 4)))⟩)), (470, (.many (fun j_ => some ⟨true, false, .ig (W.rl rr2 (cw2 * 4) j_) W.ck (Z j_)⟩))), (100008, (.one ⟨true, false, .row (L.length * 3) 3 (fun k_ => [.int .i64 (W.ra L k_ : Int), .int .i64 (W.rb L k_ : Int), .sl 100009 k_ 0 (W.rn L k_) 4])⟩)), (100009, (.many (fun j_ => some ⟨true, false, .ig (W.rn L j_ * 4) W.ck (fun p_ => X2 (W.ra L j_) (p_ + W.rb L j_ * 4))⟩)))], 100016⟩
theorem LM_by {α : Type} (I : α → S0) (Inv : α → Prop) (μ : α → Nat) {ex : Ex} {s' : S0} (hex : ex ≠ .normal)
    (step : ∀ x, Inv x → (∃ y, Inv y ∧ μ y < μ x ∧ CodeOk Try.prog 90 100000 (kAt (kOf Try.prog Try.f11) [true, true, true, true, false, true, false, false, true, true, false, false, true, true, false, false]) (I x) .normal (I y)) ∨ CodeOk Try.prog 90 100000 (kAt (kOf Try.prog Try.f11) [true, true, true, true, false, true, false, false, true, true, false, false, true, true, false, false]) (I x) ex s') (x : α) (hx : Inv x) :
    CodeOk Try.prog 90 100000 (kAt (kOf Try.prog Try.f11) [true, true, true, true, false, true, false, false, true, true, false, false, true, true, false]) (I x) ex s' := by
  have hk : (kAt (kOf Try.prog Try.f11) [true, true, true, true, false, true, false, false, true, true, false, false, true, true, false]) = .loop (kAt (kOf Try.prog Try.f11) [true, true, true, true, false, true, false, false, true, true, false, false, true, true, false, false]) := by kernel_rfl
  rw [hk]
  exact CodeOk.loop I Inv μ hex step x hx
theorem LM_rtt (rr cw : Nat) (X : Nat → Nat → Int) (ro co : Int) (rr2 cw2 : Nat) (X2 : Nat → Nat → Int) (ro2 co2 : Int) (hi2 : Bool) (Z : Nat → Nat → Int) (L : W.Rn) (i k : Nat)
    (hrr : 1 ≤ rr ∧ rr ≤ 60)
    (hcw : 1 ≤ cw ∧ cw ≤ 120)
    (hro : 0 ≤ ro ∧ ro < rr)
    (hco : 0 ≤ co ∧ co < cw)
    (hX : ∀ j, j < rr → W.okRow (X j) cw)
    (hrr2 : 1 ≤ rr2 ∧ rr2 ≤ 60)
    (hcw2 : 1 ≤ cw2 ∧ cw2 ≤ 120)
    (hro2 : 0 ≤ ro2 ∧ ro2 < rr2)
    (hco2 : 0 ≤ co2 ∧ co2 < cw2)
    (hX2 : ∀ j, j < rr2 → W.okRow (X2 j) cw2)
    (hil : i < rr2)
    (hk : k ≤ cw2 + 1)
    (h0 : ((↑k : Int) < (↑cw2 : Int)))
    (h1 : ((↑(W.stopAt X2 (fun j_ p_ => Z j_ p_) i cw2 k) : Int) > (↑k : Int)))
    (c2 : ((0 : Int) ≤ (↑k : Int) ∧ (↑k : Int) ≤ (↑(W.stopAt X2 (fun j_ p_ => Z j_ p_) i cw2 k) : Int) ∧ (↑(W.stopAt X2 (fun j_ p_ => Z j_ p_) i cw2 k) : Int) ≤ (↑cw2 : Int)))
    (c3 : ((3 : Nat) ≤ (3 : Nat) ∧ (41 : Nat) * (List.length L + (1 : Nat)) ≤ (4398046511104 : Nat) ∧ (0 : Nat) + List.length L * (3 : Nat) ≤ List.length L * (3 : Nat))) :
    CodeOk Try.prog 90 100000 (kAt (kOf Try.prog Try.f11) [true, true, true, true, false, true, false, false, true, true, false, false, true, true, false, false]) (LMI rr cw X rr2 cw2 X2 ro2 co2 hi2 Z L i k) .normal ⟨[(4, (.c (.ptr 37 0 0))), (5, (.c (.ptr 229 0 0))), (6, (.c (.sl 469 0 0 rr2 1))), (38, (.c (.sl 3 0 0 rr2 1))), (39, (.c (.int .i64 (↑rr2)))), (40, (.c (.int .i64 (↑i)))), (7, (.c (.int .i64 (↑i)))), (8, (.c (.sl 4 i 0 cw2 4))), (9, (.c (.int .i64 (↑(W.stopAt X2 (fun j_ p_ => Z j_ p_) i cw2 k + 1)))))], [(1, (.one ⟨false, false, (.gen rr (fun j_ => (.sl 2 j_ 0 cw 4)))⟩)), (2, (.many (fun j_ => some ⟨false, false, (.ig (W.rl rr (cw * 4) j_) W.ck (fun p_ => (X j_ p_)))⟩))), (3, (.one ⟨false, false, (.gen rr2 (fun j_ => (.sl 4 j_ 0 cw2 4)))⟩)), (4, (.many (fun j_ => some ⟨false, false, (.ig (W.rl rr2 (cw2 * 4) j_) W.ck (fun p_ => (X2 j_ p_)))⟩))), (37, (.one ⟨true, true, (.cells [(.int .i64 0), (.int .i64 0), (.int .i64 0), (.int .i64 0), (.bool (false)), .nils])⟩)), (229, (.one ⟨true, true, (.cells [(.int .i64 (↑rr2)), (.int .i64 (↑cw2)), (.int .i64 ro2), (.int .i64 co2), (.bool hi2), (.sl 100000 0 0 (List.length L + 1) 3)])⟩)), (469, (.one ⟨true, false, (.gen rr2 (fun j_ => (.sl 470 j_ 0 cw2 4)))⟩)), (470, (.many (fun j_ => some ⟨true, false, (.ig (W.rl rr2 (cw2 * 4) j_) W.ck (fun p_ => (Z j_ p_)))⟩))), (100009, (.many (fun j_ => some ⟨true, false, (.ig (W.rn L j_ * 4) W.ck (fun p_ => (X2 (W.ra L j_) (p_ + W.rb L j_ * 4))))⟩))), (100000, (.one ⟨true, false, (.gen (mulE (List.length L) 3 + 3) (fun j_ => (renC [(100008, 100008), (100009, 100009), (200240, 100000), (200192, 100001)] 100000 (bif Nat.blt j_ (List.length L * 3) then recGet 3 (fun k_ => [C.int IntKind.i64 (↑(W.ra L k_) : Int), C.int IntKind.i64 (↑(W.rb L k_) : Int), C.sl 100009 k_ 0 (W.rn L k_) 4]) (0 + j_) else List.getD (List.take 3 (List.drop 0 [C.int IntKind.i64 (↑i : Int), C.int IntKind.i64 (↑k : Int), C.sl 200192 0 0 (W.stopAt X2 (fun j_ p_ => Z j_ p_) i cw2 k - k) 4])) (j_ - List.length L * 3) C.unk))))⟩)), (100001, (.one ⟨true, false, (.ig ((W.stopAt X2 (fun j_ p_ => Z j_ p_) i cw2 k - k) * 4) W.ck (fun p_ => (X2 i (p_ + k * 4))))⟩))], 100016⟩ :=
  CodeOk.of_runs (fuel := 300) (v := ⟨[4, 5, 6, 38, 39, 40, 7, 8, 9], [1, 2, 3, 4, 37, 229, 469, 470, 100008, 100009, 200240, 200192], [(100008, 100008), (100009, 100009), (200240, 100000), (200192, 100001)], 100016⟩) (hs := [(3, ⟨.auto, some (.c (.bool (true)))⟩), (7, ⟨.sum ⟨[4, 5, 6, 38, 39, 40, 7, 8, 9, 10], [1, 2, 3, 4, 37, 229, 469, 470, 100008, 100009], [], 200016⟩ (.exit 4) (LGI rr cw X rr2 cw2 X2 ro2 co2 hi2 (fun j_ p_ => Z j_ p_) L i k (W.stopAt X2 (fun j_ p_ => Z j_ p_) i cw2 k)), none⟩), (10, ⟨.auto, some (.c (.bool (true)))⟩), (19, ⟨.ask, some (.c (.sl 4 i (k * 4) (W.stopAt X2 (fun j_ p_ => Z j_ p_) i cw2 k - k) 4))⟩), (20, ⟨.call [4] (.c (.sl 200192 0 0 (W.stopAt X2 (fun j_ p_ => Z j_ p_) i cw2 k - k) 4)) [] [(200192, (.one ⟨true, false, (.ig ((W.stopAt X2 (fun j_ p_ => Z j_ p_) i cw2 k - k) * 4) W.ck (fun p_ => (X2 i (p_ + k * 4))))⟩))], none⟩), (23, ⟨.ask, some (.c (.sl 200240 0 0 (List.length L + 1) 3))⟩), (27, ⟨.auto, some (.c (.int .i64 (↑(W.stopAt X2 (fun j_ p_ => Z j_ p_) i cw2 k + 1))))⟩)])
    (cs := [EI .i64 (IntKind.wrap IntKind.i64 ((↑(W.stopAt X2 (fun j_ p_ => Z j_ p_) i cw2 k) : Int) + 1)) ((↑(W.stopAt X2 (fun j_ p_ => Z j_ p_) i cw2 k + 1) : Int)),
      ((.c (.sl 200240 0 0 (addO (List.length L) 1) 3)) : V) = (.c (.sl 200240 0 0 (List.length L + 1) 3)),
      ((3 : Nat) ≤ (3 : Nat) ∧ (41 : Nat) * (List.length L + (1 : Nat)) ≤ (4398046511104 : Nat) ∧ (0 : Nat) + List.length L * (3 : Nat) ≤ List.length L * (3 : Nat)),
      Contract Try.prog 31 [(.c (.sl 4 i (k * 4) (W.stopAt X2 (fun j_ p_ => Z j_ p_) i cw2 k - k) 4))] [(4, (.many (fun j_ => some ⟨false, false, (.ig (W.rl rr2 (cw2 * 4) j_) W.ck (fun p_ => (X2 j_ p_)))⟩)))] 200192 (.c (.sl 200192 0 0 (W.stopAt X2 (fun j_ p_ => Z j_ p_) i cw2 k - k) 4)) [] [(200192, (.one ⟨true, false, (.ig ((W.stopAt X2 (fun j_ p_ => Z j_ p_) i cw2 k - k) * 4) W.ck (fun p_ => (X2 i (p_ + k * 4))))⟩))],
      ((.c (.sl 4 i (addO 0 (mulE k 4)) (Int.toNat (↑(W.stopAt X2 (fun j_ p_ => Z j_ p_) i cw2 k) - ↑k)) 4)) : V) = (.c (.sl 4 i (k * 4) (W.stopAt X2 (fun j_ p_ => Z j_ p_) i cw2 k - k) 4)),
      ((0 : Int) ≤ (↑k : Int) ∧ (↑k : Int) ≤ (↑(W.stopAt X2 (fun j_ p_ => Z j_ p_) i cw2 k) : Int) ∧ (↑(W.stopAt X2 (fun j_ p_ => Z j_ p_) i cw2 k) : Int) ≤ (↑cw2 : Int)),
      EB (decide ((↑(W.stopAt X2 (fun j_ p_ => Z j_ p_) i cw2 k) : Int) > (↑k : Int))) true,
      CodeOk Try.prog 90 100112 (kAt (kOf Try.prog Try.f11) [true, true, true, true, false, true, false, false, true, true, false, false, true, true, false, false, true, false, true, false, false]) (LGI rr cw X rr2 cw2 X2 ro2 co2 hi2 (fun j_ p_ => Z j_ p_) L i k k) (.exit 4) (LGI rr cw X rr2 cw2 X2 ro2 co2 hi2 (fun j_ p_ => Z j_ p_) L i k (W.stopAt X2 (fun j_ p_ => Z j_ p_) i cw2 k)),
      EB (decide ((↑k : Int) < (↑cw2 : Int))) true])
    mixed (by kernel_rfl) ⟨.mk (by simp only [addO_eq, mulE_eq, mulE_one, Int.toNat_natCast, IntKind.wrap_i64, mmin, mmax]; omega), EV.sl (by rfl) (by simp only [addO_eq, mulE_eq, mulE_one, Int.toNat_natCast, IntKind.wrap_i64, mmin, mmax]), c3, ContractN.fin (ContractN.famB (bd := (.ig (W.rl rr2 (cw2 * 4) i) W.ck (fun p_ => (X2 i p_)))) (ex := false) (args1 := [(.c (.sl 200207 0 (k * 4) (W.stopAt X2 (fun j_ p_ => Z j_ p_) i cw2 k - k) 4))]) 200207 4 i (Contract0.instN (clone_ok (fun p_ => X2 i p_) (W.stopAt X2 (fun j_ p_ => Z j_ p_) i cw2 k - k) (W.rl rr2 (cw2 * 4) i) k (by rw [rl_lt (by omega)]; omega) (by omega)) [.b 200207 1 true []] [none] [(2, 200192)] [] (by kernel_rfl) (by kernel_rfl) (by kernel_rfl) (by kernel_rfl) (by kernel_rfl)) (by kernel_rfl) (by kernel_rfl) (by kernel_rfl) (by kernel_rfl) (by kernel_rfl) (by kernel_rfl)) (by kernel_rfl), EV.sl (by rfl) (by omega), c2, .mk (decide_eq_true h1), (CodeOk.mono (diff_inner rr cw X rr2 cw2 X2 ro2 co2 hi2 (fun j_ p_ => Z j_ p_) L i k (by omega) (by omega) (by omega) (by omega) (by omega) (by omega) (by omega) (by omega) (by omega) (by omega)) (by decide)), .mk (decide_eq_true h0), trivial⟩
theorem LM_rtf (rr cw : Nat) (X : Nat → Nat → Int) (ro co : Int) (rr2 cw2 : Nat) (X2 : Nat → Nat → Int) (ro2 co2 : Int) (hi2 : Bool) (Z : Nat → Nat → Int) (L : W.Rn) (i k : Nat)
    (hrr : 1 ≤ rr ∧ rr ≤ 60)
    (hcw : 1 ≤ cw ∧ cw ≤ 120)
    (hro : 0 ≤ ro ∧ ro < rr)
    (hco : 0 ≤ co ∧ co < cw)
    (hX : ∀ j, j < rr → W.okRow (X j) cw)
    (hrr2 : 1 ≤ rr2 ∧ rr2 ≤ 60)
    (hcw2 : 1 ≤ cw2 ∧ cw2 ≤ 120)
    (hro2 : 0 ≤ ro2 ∧ ro2 < rr2)
    (hco2 : 0 ≤ co2 ∧ co2 < cw2)
    (hX2 : ∀ j, j < rr2 → W.okRow (X2 j) cw2)
    (hil : i < rr2)
    (hk : k ≤ cw2 + 1)
    (h0 : ((↑k : Int) < (↑cw2 : Int)))
    (h1 : (¬(↑(W.stopAt X2 (fun j_ p_ => Z j_ p_) i cw2 k) : Int) > (↑k : Int))) :
    CodeOk Try.prog 90 100000 (kAt (kOf Try.prog Try.f11) [true, true, true, true, false, true, false, false, true, true, false, false, true, true, false, false]) (LMI rr cw X rr2 cw2 X2 ro2 co2 hi2 Z L i k) .normal (LMI rr cw X rr2 cw2 X2 ro2 co2 hi2 (fun j_ p_ => Z j_ p_) L i (W.stopAt X2 (fun j_ p_ => Z j_ p_) i cw2 k + 1)) :=
  CodeOk.of_runs (fuel := 300) (v := ⟨[4, 5, 6, 38, 39, 40, 7, 8, 9], [1, 2, 3, 4, 37, 229, 469, 470, 100008, 100009], [(100008, 100008), (100009, 100009)], 100016⟩) (hs := [(3, ⟨.auto, some (.c (.bool (true)))⟩), (7, ⟨.sum ⟨[4, 5, 6, 38, 39, 40, 7, 8, 9, 10], [1, 2, 3, 4, 37, 229, 469, 470, 100008, 100009], [], 200016⟩ (.exit 4) (LGI rr cw X rr2 cw2 X2 ro2 co2 hi2 (fun j_ p_ => Z j_ p_) L i k (W.stopAt X2 (fun j_ p_ => Z j_ p_) i cw2 k)), none⟩), (10, ⟨.auto, some (.c (.bool (false)))⟩), (13, ⟨.auto, some (.c (.int .i64 (↑(W.stopAt X2 (fun j_ p_ => Z j_ p_) i cw2 k + 1))))⟩)])
    (cs := [EI .i64 (IntKind.wrap IntKind.i64 ((↑(W.stopAt X2 (fun j_ p_ => Z j_ p_) i cw2 k) : Int) + 1)) ((↑(W.stopAt X2 (fun j_ p_ => Z j_ p_) i cw2 k + 1) : Int)),
      EB (decide ((↑(W.stopAt X2 (fun j_ p_ => Z j_ p_) i cw2 k) : Int) > (↑k : Int))) false,
      CodeOk Try.prog 90 100112 (kAt (kOf Try.prog Try.f11) [true, true, true, true, false, true, false, false, true, true, false, false, true, true, false, false, true, false, true, false, false]) (LGI rr cw X rr2 cw2 X2 ro2 co2 hi2 (fun j_ p_ => Z j_ p_) L i k k) (.exit 4) (LGI rr cw X rr2 cw2 X2 ro2 co2 hi2 (fun j_ p_ => Z j_ p_) L i k (W.stopAt X2 (fun j_ p_ => Z j_ p_) i cw2 k)),
      EB (decide ((↑k : Int) < (↑cw2 : Int))) true])
    mixed (by kernel_rfl) ⟨.mk (by simp only [addO_eq, mulE_eq, mulE_one, Int.toNat_natCast, IntKind.wrap_i64, mmin, mmax]; omega), .mk (decide_eq_false h1), (CodeOk.mono (diff_inner rr cw X rr2 cw2 X2 ro2 co2 hi2 (fun j_ p_ => Z j_ p_) L i k (by omega) (by omega) (by omega) (by omega) (by omega) (by omega) (by omega) (by omega) (by omega) (by omega)) (by decide)), .mk (decide_eq_true h0), trivial⟩
theorem LM_xf (rr cw : Nat) (X : Nat → Nat → Int) (ro co : Int) (rr2 cw2 : Nat) (X2 : Nat → Nat → Int) (ro2 co2 : Int) (hi2 : Bool) (Z : Nat → Nat → Int) (L : W.Rn) (i k : Nat)
    (hrr : 1 ≤ rr ∧ rr ≤ 60)
    (hcw : 1 ≤ cw ∧ cw ≤ 120)
    (hro : 0 ≤ ro ∧ ro < rr)
    (hco : 0 ≤ co ∧ co < cw)
    (hX : ∀ j, j < rr → W.okRow (X j) cw)
    (hrr2 : 1 ≤ rr2 ∧ rr2 ≤ 60)
    (hcw2 : 1 ≤ cw2 ∧ cw2 ≤ 120)
    (hro2 : 0 ≤ ro2 ∧ ro2 < rr2)
    (hco2 : 0 ≤ co2 ∧ co2 < cw2)
    (hX2 : ∀ j, j < rr2 → W.okRow (X2 j) cw2)
    (hil : i < rr2)
    (hk : k ≤ cw2 + 1)
    (h0 : (¬(↑k : Int) < (↑cw2 : Int))) :
    CodeOk Try.prog 90 100000 (kAt (kOf Try.prog Try.f11) [true, true, true, true, false, true, false, false, true, true, false, false, true, true, false, false]) (LMI rr cw X rr2 cw2 X2 ro2 co2 hi2 Z L i k) (.exit 2) (LMI rr cw X rr2 cw2 X2 ro2 co2 hi2 (fun j_ p_ => Z j_ p_) L i k) :=
  CodeOk.of_runs (fuel := 300) (v := ⟨[4, 5, 6, 38, 39, 40, 7, 8, 9], [1, 2, 3, 4, 37, 229, 469, 470, 100008, 100009], [(100008, 100008), (100009, 100009)], 100016⟩) (hs := [(3, ⟨.auto, some (.c (.bool (false)))⟩)])
    (cs := [EB (decide ((↑k : Int) < (↑cw2 : Int))) false])
    mixed (by kernel_rfl) ⟨.mk (decide_eq_false h0), trivial⟩
end Go.Proofs.Ytohleiikedpmkaa.Vm

namespace Go.Proofs.Ytohleiikedpmkaa.W
theorem ra_old {L : Rn} {x : Nat × Nat × Nat} {k : Nat} (h : k < L.length) : ra (L ++ [x]) k = ra L k ∧ rb (L ++ [x]) k = rb L k ∧ rn (L ++ [x]) k = rn L k := by
  unfold ra rb rn
  rw [Vm.getD_l _ _ _ _ h]
  exact ⟨rfl, rfl, rfl⟩
theorem ra_new {L : Rn} {x : Nat × Nat × Nat} : ra (L ++ [x]) L.length = x.1 ∧ rb (L ++ [x]) L.length = x.2.1 ∧ rn (L ++ [x]) L.length = x.2.2 := by
  unfold ra rb rn
  rw [Vm.getD_r _ _ _ _ (Nat.le_refl _), Nat.sub_self]
  exact ⟨rfl, rfl, rfl⟩
theorem rn_out {L : Rn} {k : Nat} (h : L.length ≤ k) : rn L k = 0 := by
  unfold rn
  rw [List.getD_eq_getElem?_getD, List.getElem?_eq_none h]
  rfl
end Go.Proofs.Ytohleiikedpmkaa.W
namespace Go.Proofs.Ytohleiikedpmkaa.Vm
open Go Go.Proofs Go.Proofs.Ytohleiikedpmkaa
theorem run_cell {n0 H h' F N N' a b c j : Nat} {L : W.Rn} {t : Th} (hj : j < (L.length + 1) * 3) (hF : n0 ≤ F) (h1 : F ≠ H) (e1 : ren t n0 F = some F) (e2 : ren t n0 N = some N') :
    CR (growRho n0 H h' F N' L.length) (renC t n0 (bif Nat.blt j (List.length L * 3) then recGet 3 (fun k_ => [C.int IntKind.i64 (↑(W.ra L k_) : Int), C.int IntKind.i64 (↑(W.rb L k_) : Int), C.sl F k_ 0 (W.rn L k_) 4]) (0 + j) else List.getD (List.take 3 (List.drop 0 [C.int IntKind.i64 (↑a : Int), C.int IntKind.i64 (↑b : Int), C.sl N 0 0 c 4])) (j - List.length L * 3) C.unk))
      (recGet 3 (fun k_ => [C.int IntKind.i64 (↑(W.ra (L ++ [(a, b, c)]) k_) : Int), C.int IntKind.i64 (↑(W.rb (L ++ [(a, b, c)]) k_) : Int), C.sl F k_ 0 (W.rn (L ++ [(a, b, c)]) k_) 4]) j) := by
  by_cases h : j < L.length * 3
  · rw [bltT h, Nat.zero_add]
    simp only [cond_true]
    have hk : j / 3 < L.length := by omega
    obtain ⟨o1, o2, o3⟩ := W.ra_old (x := (a, b, c)) hk
    unfold recGet
    simp only [o1, o2, o3]
    rcases (by omega : j % 3 = 0 ∨ j % 3 = 1 ∨ j % 3 = 2) with e | e | e <;> rw [e]
    · exact ⟨rfl, rfl⟩
    · exact ⟨rfl, rfl⟩
    · show CR _ (renC t n0 (C.sl F (j / 3) 0 (W.rn L (j / 3)) 4)) (C.sl F (j / 3) 0 (W.rn L (j / 3)) 4)
      simp only [renC, e1]
      exact ⟨growRho_F hF h1 (by omega), rfl, rfl, rfl⟩
  · rw [bltF h]
    simp only [cond_false]
    have hk : j / 3 = L.length := by omega
    obtain ⟨o1, o2, o3⟩ := W.ra_new (L := L) (x := (a, b, c))
    unfold recGet
    rw [hk]
    simp only [o1, o2, o3]
    rcases (by omega : (j % 3 = 0 ∧ j - L.length * 3 = 0) ∨ (j % 3 = 1 ∧ j - L.length * 3 = 1) ∨ (j % 3 = 2 ∧ j - L.length * 3 = 2)) with ⟨e, e'⟩ | ⟨e, e'⟩ | ⟨e, e'⟩ <;> rw [e, e']
    · exact ⟨rfl, rfl⟩
    · exact ⟨rfl, rfl⟩
    · show CR _ (renC t n0 (C.sl N 0 0 c 4)) (C.sl F L.length 0 c 4)
      simp only [renC, e2]
      exact ⟨growRho_i hF h1, rfl, rfl, rfl⟩
theorem run_row {n0 H h' F N a b c : Nat} {L : W.Rn} {me : Mem} {Y : Nat → Nat → Int} {o e e0 : Bool} (hF : n0 ≤ F) (h1 : F ≠ H) (hl : ∀ j, look me F j = some ⟨o, e, .ig (W.rn L j * 4) W.ck (fun p => Y (W.ra L j) (p + W.rb L j * 4))⟩) (hN : look me N 0 = some ⟨o, e0, .ig (c * 4) W.ck (fun p => Y a (p + b * 4))⟩) (he : e = true → e0 = true) :
    ∀ j k, (fun j_ => some (⟨o, e, .ig (W.rn (L ++ [(a, b, c)]) j_ * 4) W.ck (fun p_ => Y (W.ra (L ++ [(a, b, c)]) j_) (p_ + W.rb (L ++ [(a, b, c)]) j_ * 4))⟩ : Blk)) j = some k → BR (growRho n0 H h' F N L.length) (fun _ _ => false) me F j k := by
  intro j k hk
  injection hk with hk
  subst hk
  by_cases hj : j = L.length
  · subst hj
    obtain ⟨o1, o2, o3⟩ := W.ra_new (L := L) (x := (a, b, c))
    refine BR.ig (growRho_i hF h1) hN he (by rw [o3]) (fun _ _ => rfl) (fun p _ => by rw [o1, o2])
  · by_cases hlt : j < L.length
    · obtain ⟨o1, o2, o3⟩ := W.ra_old (x := (a, b, c)) hlt
      exact BR.ig (growRho_F hF h1 hj) (hl j) (fun h => h) (by rw [o3]) (fun _ _ => rfl) (fun p _ => by rw [o1, o2])
    · have z1 : W.rn L j = 0 := W.rn_out (by omega)
      have z2 : W.rn (L ++ [(a, b, c)]) j = 0 := W.rn_out (by rw [List.length_append]; simp; omega)
      refine BR.ig (growRho_F hF h1 hj) (hl j) (fun h => h) (by rw [z1, z2]) (fun _ _ => rfl) (fun p hp => ?_)
      rw [z1] at hp
      simp at hp
end Go.Proofs.Ytohleiikedpmkaa.Vm

namespace Go.Proofs.Ytohleiikedpmkaa.W
theorem rowRuns_ge {Y Z : Nat → Nat → Int} {j cw n k : Nat} {L : Rn} (h : cw ≤ k) : rowRuns Y Z j cw n k L = L := by
  cases n with
  | zero => rfl
  | succ n => simp only [rowRuns, Vm.bltF (show ¬ k < cw by omega), cond_false]
end Go.Proofs.Ytohleiikedpmkaa.W
namespace Go.Proofs.Ytohleiikedpmkaa.Vm
open Go Go.Proofs Go.Proofs.Ytohleiikedpmkaa
noncomputable def LMPost (rr cw : Nat) (X : Nat → Nat → Int) (rr2 cw2 : Nat) (X2 : Nat → Nat → Int) (ro2 co2 : Int) (hi2 : Bool) (Z : Nat → Nat → Int) (L : W.Rn) (i : Nat) : S0 :=
  ⟨[(4, (.c (.ptr 37 0 0))), (5, (.c (.ptr 229 0 0))), (6, (.c (.sl 469 0 0 rr2 1))), (38, (.c (.sl 3 0 0 rr2 1))), (39, (.c (.int .i64 (↑rr2)))), (40, (.c (.int .i64 (i : Int))))], (LMI rr cw X rr2 cw2 X2 ro2 co2 hi2 Z L i 0).me, 100016⟩
theorem diff_mid (rr cw : Nat) (X : Nat → Nat → Int) (rr2 cw2 : Nat) (X2 : Nat → Nat → Int) (ro2 co2 : Int) (hi2 : Bool) (Z : Nat → Nat → Int) (L : W.Rn) (i : Nat) (hrr : 1 ≤ rr ∧ rr ≤ 60) (hcw : 1 ≤ cw ∧ cw ≤ 120) (hX : ∀ j, j < rr → W.okRow (X j) cw)
    (hrr2 : 1 ≤ rr2 ∧ rr2 ≤ 60) (hcw2 : 1 ≤ cw2 ∧ cw2 ≤ 120) (hro2 : 0 ≤ ro2 ∧ ro2 < rr2) (hco2 : 0 ≤ co2 ∧ co2 < cw2) (hX2 : ∀ j, j < rr2 → W.okRow (X2 j) cw2) (hil : i < rr2) (hL : L.length ≤ 122 * i) :
    CodeOk Try.prog 90 100000 (kAt (kOf Try.prog Try.f11) [true, true, true, true, false, true, false, false, true, true, false, false, true, true, false]) (LMI rr cw X rr2 cw2 X2 ro2 co2 hi2 Z L i 0) (.exit 2) (LMPost rr cw X rr2 cw2 X2 ro2 co2 hi2 Z (W.rowRuns X2 Z i cw2 cw2 0 L) i) ∧ (W.rowRuns X2 Z i cw2 cw2 0 L).length ≤ 122 * (i + 1) := by
  have hro : (0 : Int) ≤ 0 ∧ (0 : Int) < rr := by omega
  have hco : (0 : Int) ≤ 0 ∧ (0 : Int) < cw := by omega
  have hlen : ∀ n k (L : W.Rn), L.length ≤ 122 * i + k → k ≤ cw2 + 1 → (W.rowRuns X2 Z i cw2 n k L).length ≤ 122 * (i + 1) := by
    intro n
    induction n with
    | zero => intro k L h1 h2; show L.length ≤ _; omega
    | succ n ih =>
      intro k L h1 h2
      by_cases hk : k < cw2
      · obtain ⟨s1, s2, _, _⟩ := W.stopAt_spec X2 Z i (Nat.le_of_lt hk)
        simp only [W.rowRuns, bltT hk, cond_true]
        refine ih _ _ ?_ (by omega)
        cases Nat.blt k (W.stopAt X2 Z i cw2 k) with
        | true => simp only [cond_true, List.length_append, List.length_cons, List.length_nil]; omega
        | false => simp only [cond_false]; omega
      · rw [W.rowRuns_ge (by omega)]; omega
  refine ⟨?_, hlen _ _ _ (by omega) (by omega)⟩
  generalize hT : W.rowRuns X2 Z i cw2 cw2 0 L = T
  refine LM_by (fun x : Nat × W.Rn => LMI rr cw X rr2 cw2 X2 ro2 co2 hi2 Z x.2 i x.1) (fun x => x.1 ≤ cw2 + 1 ∧ x.2.length ≤ 122 * i + x.1 ∧ ∃ n, cw2 - x.1 ≤ n ∧ W.rowRuns X2 Z i cw2 n x.1 x.2 = T) (fun x => cw2 + 1 - x.1) (by simp) ?_ (0, L) ⟨by simp, by simpa using hL, cw2, by simp, hT⟩
  rintro ⟨k, L⟩ ⟨hk, hl, n, hn, hr⟩
  simp only at hk hl hn hr
  by_cases hlt : k < cw2
  · obtain ⟨s1, s2, _, _⟩ := W.stopAt_spec X2 Z i (Nat.le_of_lt hlt)
    obtain ⟨m, rfl⟩ : ∃ m, n = m + 1 := ⟨n - 1, by omega⟩
    simp only [W.rowRuns, bltT hlt, cond_true] at hr
    by_cases hs : k < W.stopAt X2 Z i cw2 k
    · rw [bltT hs] at hr
      simp only [cond_true] at hr
      refine .inl ⟨(W.stopAt X2 Z i cw2 k + 1, L ++ [(i, k, W.stopAt X2 Z i cw2 k - k)]), ⟨by simp only; omega, by simp only [List.length_append, List.length_cons, List.length_nil]; omega, m, by simp only; omega, hr⟩, by simp only; omega, ?_⟩
      have g1 : ((W.stopAt X2 Z i cw2 k : Nat) : Int) > (k : Int) := by omega
      have g2 : ((W.stopAt X2 Z i cw2 k : Nat) : Int) ≤ (cw2 : Int) := by omega
      refine (LM_rtt rr cw X 0 0 rr2 cw2 X2 ro2 co2 hi2 Z L i k hrr hcw hro hco hX hrr2 hcw2 hro2 hco2 hX2 hil hk (by omega) g1 ⟨by omega, Int.le_of_lt g1, g2⟩ ⟨by omega, by omega, by omega⟩).move (Move.grow (H := 100008) (h' := 100000) (F := 100009) (N := 100001) (i := L.length) (by decide) (show 100000 ≤ 100016 ∧ 100008 < 100016 ∧ 100009 < 100016 by decide) (by decide) (by decide) ?_ ?_)
      · refine ⟨?_, ?_, ?_, ?_, ?_, ?_, ?_, ?_, ?_, ?_, trivial⟩
        · exact BR.gen (growRho_low (by decide)) rfl (fun h => h) rfl (fun p hp => ⟨growRho_low (by decide), rfl, rfl, rfl⟩)
        · intro j k hk; injection hk with hk; subst hk
          exact BR.ig (growRho_low (by decide)) rfl (fun h => h) rfl (fun _ _ => rfl) (fun _ _ => rfl)
        · exact BR.gen (growRho_low (by decide)) rfl (fun h => h) rfl (fun p hp => ⟨growRho_low (by decide), rfl, rfl, rfl⟩)
        · intro j k hk; injection hk with hk; subst hk
          exact BR.ig (growRho_low (by decide)) rfl (fun h => h) rfl (fun _ _ => rfl) (fun _ _ => rfl)
        · exact BR.cells (growRho_low (by decide)) rfl (fun h => h) ⟨⟨rfl, rfl⟩, ⟨rfl, rfl⟩, ⟨rfl, rfl⟩, ⟨rfl, rfl⟩, rfl, trivial, trivial⟩
        · exact BR.cells (growRho_low (by decide)) rfl (fun h => h) ⟨⟨rfl, rfl⟩, ⟨rfl, rfl⟩, ⟨rfl, rfl⟩, ⟨rfl, rfl⟩, rfl, ⟨growRho_H (by decide), rfl, by simp, rfl⟩, trivial⟩
        · exact BR.gen (growRho_low (by decide)) rfl (fun h => h) rfl (fun p hp => ⟨growRho_low (by decide), rfl, rfl, rfl⟩)
        · intro j k hk; injection hk with hk; subst hk
          exact BR.ig (growRho_low (by decide)) rfl (fun h => h) rfl (fun _ _ => rfl) (fun _ _ => rfl)
        · refine .inl ⟨100000, 0, _, growRho_H (by decide), rfl, rfl, fun h => h, ?_, fun j hj => ?_⟩
          · show (L ++ [(i, k, W.stopAt X2 Z i cw2 k - k)]).length * 3 = L.length * 3 + 3
            rw [List.length_append]; simp; omega
          · have hj : j < L.length * 3 + 3 := hj
            exact run_cell (by omega) (by decide) (by decide) rfl rfl
        · exact run_row (by decide) (by decide) (fun j => rfl) rfl (fun h => h)
      · exact ⟨rfl, ⟨growRho_low (by decide), rfl⟩, rfl, ⟨growRho_low (by decide), rfl⟩, rfl, ⟨growRho_low (by decide), rfl, rfl, rfl⟩, rfl, ⟨growRho_low (by decide), rfl, rfl, rfl⟩, rfl, ⟨rfl, rfl⟩, rfl, ⟨rfl, rfl⟩, rfl, ⟨rfl, rfl⟩, rfl, ⟨growRho_low (by decide), rfl, rfl, rfl⟩, rfl, ⟨rfl, rfl⟩, trivial⟩
    · rw [bltF hs] at hr
      simp only [cond_false] at hr
      exact .inl ⟨(W.stopAt X2 Z i cw2 k + 1, L), ⟨by simp only; omega, by simp only; omega, m, by simp only; omega, hr⟩, by simp only; omega, LM_rtf rr cw X 0 0 rr2 cw2 X2 ro2 co2 hi2 Z L i k hrr hcw hro hco hX hrr2 hcw2 hro2 hco2 hX2 hil hk (by omega) (show ¬ ((W.stopAt X2 Z i cw2 k : Nat) : Int) > (k : Int) by omega)⟩
  · rw [W.rowRuns_ge (by omega)] at hr
    subst hr
    exact .inr (CodeOk.post ⟨[4, 5, 6, 38, 39, 40], [1, 2, 3, 4, 37, 229, 469, 470, 100008, 100009], [(100008, 100008), (100009, 100009)], 100016⟩ (by decide) (by kernel_rfl) (LM_xf rr cw X 0 0 rr2 cw2 X2 ro2 co2 hi2 Z L i k hrr hcw hro hco hX hrr2 hcw2 hro2 hco2 hX2 hil hk (by omega)))
theorem diff_mid1 (rr cw : Nat) (X : Nat → Nat → Int) (rr2 cw2 : Nat) (X2 : Nat → Nat → Int) (ro2 co2 : Int) (hi2 : Bool) (Z : Nat → Nat → Int) (L : W.Rn) (i : Nat) (hrr : 1 ≤ rr ∧ rr ≤ 60) (hcw : 1 ≤ cw ∧ cw ≤ 120) (hX : ∀ j, j < rr → W.okRow (X j) cw)
    (hrr2 : 1 ≤ rr2 ∧ rr2 ≤ 60) (hcw2 : 1 ≤ cw2 ∧ cw2 ≤ 120) (hro2 : 0 ≤ ro2 ∧ ro2 < rr2) (hco2 : 0 ≤ co2 ∧ co2 < cw2) (hX2 : ∀ j, j < rr2 → W.okRow (X2 j) cw2) (hil : i < rr2) (hL : L.length ≤ 122 * i) :
    CodeOk Try.prog 90 100000 (kAt (kOf Try.prog Try.f11) [true, true, true, true, false, true, false, false, true, true, false, false, true, true, false]) (LMI rr cw X rr2 cw2 X2 ro2 co2 hi2 Z L i 0) (.exit 2) (LMPost rr cw X rr2 cw2 X2 ro2 co2 hi2 Z (W.rowRuns X2 Z i cw2 cw2 0 L) i) :=
  (diff_mid rr cw X rr2 cw2 X2 ro2 co2 hi2 Z L i hrr hcw hX hrr2 hcw2 hro2 hco2 hX2 hil hL).1
end Go.Proofs.Ytohleiikedpmkaa.Vm

namespace Go.Proofs.Ytohleiikedpmkaa.Vm
open Go Go.Proofs Go.Proofs.Ytohleiikedpmkaa
set_option maxRecDepth 100000
noncomputable def LKI (rr cw : Nat) (X : Nat → Nat → Int) (rr2 cw2 : Nat) (X2 : Nat → Nat → Int) (ro2 co2 : Int) (hi2 : Bool) (Z : Nat → Nat → Int) (L : W.Rn) (i : Nat) : S0 :=
  ⟨[(4, (.c (.ptr 37 0 0))), (5, (.c (.ptr 229 0 0))), (6, (.c (.sl 469 0 0 rr2 1))), (38, (.c (.sl 3 0 0 rr2 1))), (39, (.c (.int .i64 (↑rr2)))), (40, (.c (.int .i64 (i : Int))))], [(1, (.one ⟨false, false, (.gen rr (fun j_ => (.sl 2 j_ 0 cw 4)))⟩)), (2, (.many (fun j_ => some ⟨false, false, (.ig (W.rl rr (cw * 4) j_) W.ck (fun p_ => (X j_ p_)))⟩))), (3, (.one ⟨false, false, (.gen rr2 (fun j_ => (.sl 4 j_ 0 cw2 4)))⟩)), (4, (.many (fun j_ => some ⟨false, false, (.ig (W.rl rr2 (cw2 * 4) j_) W.ck (fun p_ => (X2 j_ p_)))⟩))), (37, (.one ⟨true, true, (.cells [(.int .i64 0), (.int .i64 0), (.int .i64 0), (.int .i64 0), (.bool (false)), .nils])⟩)), (229, (.one ⟨true, true, .cells [.int .i64 (rr2 : Int), .int .i64 (cw2 : Int), .int .i64 ro2, .int .i64 co2, .bool hi2, .sl 573 0 0 L.length 3]⟩)), (469, (.one ⟨true, false, (.gen rr2 (fun j_ => (.sl 470 j_ 0 cw2 4)))⟩)), (470, (.many (fun j_ => some ⟨true, false, .ig (W.rl rr2 (cw2 * 4) j_) W.ck (Z j_)⟩))), (573, (.one ⟨true, false, .row (L.length * 3) 3 (fun k_ => [.int .i64 (W.ra L k_ : Int), .int .i64 (W.rb L k_ : Int), .sl 574 k_ 0 (W.rn L k_) 4])⟩)), (574, (.many (fun j_ => some ⟨true, false, .ig (W.rn L j_ * 4) W.ck (fun p_ => X2 (W.ra L j_) (p_ + W.rb L j_ * 4))⟩)))], 581⟩
theorem LK_by {α : Type} (I : α → S0) (Inv : α → Prop) (μ : α → Nat) {ex : Ex} {s' : S0} (hex : ex ≠ .normal)
    (step : ∀ x, Inv x → (∃ y, Inv y ∧ μ y < μ x ∧ CodeOk Try.prog 90 565 (kAt (kOf Try.prog Try.f11) [true, true, true, true, false, true, false, false]) (I x) .normal (I y)) ∨ CodeOk Try.prog 90 565 (kAt (kOf Try.prog Try.f11) [true, true, true, true, false, true, false, false]) (I x) ex s') (x : α) (hx : Inv x) :
    CodeOk Try.prog 90 565 (kAt (kOf Try.prog Try.f11) [true, true, true, true, false, true, false]) (I x) ex s' := by
  have hk : (kAt (kOf Try.prog Try.f11) [true, true, true, true, false, true, false]) = .loop (kAt (kOf Try.prog Try.f11) [true, true, true, true, false, true, false, false]) := by kernel_rfl
  rw [hk]
  exact CodeOk.loop I Inv μ hex step x hx
noncomputable def LK0 (rr cw : Nat) (X : Nat → Nat → Int) (rr2 cw2 : Nat) (X2 : Nat → Nat → Int) (ro2 co2 : Int) (hi2 : Bool) : S0 :=
  ⟨[(4, (.c (.ptr 37 0 0))), (5, (.c (.ptr 229 0 0))), (6, (.c (.sl 469 0 0 rr2 1))), (38, (.c (.sl 3 0 0 rr2 1))), (39, (.c (.int .i64 (↑rr2)))), (40, (.c (.int .i64 0)))], [(1, (.one ⟨false, false, (.gen rr (fun j_ => (.sl 2 j_ 0 cw 4)))⟩)), (2, (.many (fun j_ => some ⟨false, false, (.ig (W.rl rr (cw * 4) j_) W.ck (fun p_ => (X j_ p_)))⟩))), (3, (.one ⟨false, false, (.gen rr2 (fun j_ => (.sl 4 j_ 0 cw2 4)))⟩)), (4, (.many (fun j_ => some ⟨false, false, (.ig (W.rl rr2 (cw2 * 4) j_) W.ck (fun p_ => (X2 j_ p_)))⟩))), (37, (.one ⟨true, true, (.cells [(.int .i64 0), (.int .i64 0), (.int .i64 0), (.int .i64 0), (.bool (false)), .nils])⟩)), (229, (.one ⟨true, true, (.cells [(.int .i64 (↑rr2)), (.int .i64 (↑cw2)), (.int .i64 ro2), (.int .i64 co2), (.bool hi2), .nils])⟩)), (469, (.one ⟨true, false, (.gen rr2 (fun j_ => (.sl 470 j_ 0 cw2 4)))⟩)), (470, (.many (fun j_ => some ⟨true, false, (.ig (W.rl rr2 (cw2 * 4) j_) W.ck (fun p_ => (W.frX rr cw (fun j_ p_ => X j_ p_) rr2 cw2 j_ p_)))⟩)))], 565⟩
theorem LK_rt (rr cw : Nat) (X : Nat → Nat → Int) (ro co : Int) (rr2 cw2 : Nat) (X2 : Nat → Nat → Int) (ro2 co2 : Int) (hi2 : Bool) (Z : Nat → Nat → Int) (L : W.Rn) (i : Nat)
    (hrr : 1 ≤ rr ∧ rr ≤ 60)
    (hcw : 1 ≤ cw ∧ cw ≤ 120)
    (hro : 0 ≤ ro ∧ ro < rr)
    (hco : 0 ≤ co ∧ co < cw)
    (hX : ∀ j, j < rr → W.okRow (X j) cw)
    (hrr2 : 1 ≤ rr2 ∧ rr2 ≤ 60)
    (hcw2 : 1 ≤ cw2 ∧ cw2 ≤ 120)
    (hro2 : 0 ≤ ro2 ∧ ro2 < rr2)
    (hco2 : 0 ≤ co2 ∧ co2 < cw2)
    (hX2 : ∀ j, j < rr2 → W.okRow (X2 j) cw2)
    (hil : i ≤ rr2)
    (hL : L.length ≤ 122 * i)
    (h0 : ((↑i : Int) < (↑rr2 : Int))) :
    CodeOk Try.prog 90 565 (kAt (kOf Try.prog Try.f11) [true, true, true, true, false, true, false, false]) (LKI rr cw X rr2 cw2 X2 ro2 co2 hi2 Z L i) .normal ⟨[(4, (.c (.ptr 37 0 0))), (5, (.c (.ptr 229 0 0))), (6, (.c (.sl 469 0 0 rr2 1))), (38, (.c (.sl 3 0 0 rr2 1))), (39, (.c (.int .i64 (↑rr2)))), (40, (.c (.int .i64 (↑(i + 1)))))], [(1, (.one ⟨false, false, (.gen rr (fun j_ => (.sl 2 j_ 0 cw 4)))⟩)), (2, (.many (fun j_ => some ⟨false, false, (.ig (W.rl rr (cw * 4) j_) W.ck (fun p_ => (X j_ p_)))⟩))), (3, (.one ⟨false, false, (.gen rr2 (fun j_ => (.sl 4 j_ 0 cw2 4)))⟩)), (4, (.many (fun j_ => some ⟨false, false, (.ig (W.rl rr2 (cw2 * 4) j_) W.ck (fun p_ => (X2 j_ p_)))⟩))), (37, (.one ⟨true, true, (.cells [(.int .i64 0), (.int .i64 0), (.int .i64 0), (.int .i64 0), (.bool (false)), .nils])⟩)), (229, (.one ⟨true, true, (.cells [(.int .i64 (↑rr2)), (.int .i64 (↑cw2)), (.int .i64 ro2), (.int .i64 co2), (.bool hi2), (.sl 565 0 0 (List.length (W.rowRuns X2 (fun j_ p_ => Z j_ p_) i cw2 cw2 0 L)) 3)])⟩)), (469, (.one ⟨true, false, (.gen rr2 (fun j_ => (.sl 470 j_ 0 cw2 4)))⟩)), (470, (.many (fun j_ => some ⟨true, false, (.ig (W.rl rr2 (cw2 * 4) j_) W.ck (fun p_ => (Z j_ p_)))⟩))), (565, (.one ⟨true, false, (.row (List.length (W.rowRuns X2 (fun j_ p_ => Z j_ p_) i cw2 cw2 0 L) * 3) 3 (fun j_ => [(.int .i64 (↑(W.ra (W.rowRuns X2 (fun j_ p_ => Z j_ p_) i cw2 cw2 0 L) j_))), (.int .i64 (↑(W.rb (W.rowRuns X2 (fun j_ p_ => Z j_ p_) i cw2 cw2 0 L) j_))), (.sl 566 j_ 0 (W.rn (W.rowRuns X2 (fun j_ p_ => Z j_ p_) i cw2 cw2 0 L) j_) 4)]))⟩)), (566, (.many (fun j_ => some ⟨true, false, (.ig (W.rn (W.rowRuns X2 (fun j_ p_ => Z j_ p_) i cw2 cw2 0 L) j_ * 4) W.ck (fun p_ => (X2 (W.ra (W.rowRuns X2 (fun j_ p_ => Z j_ p_) i cw2 cw2 0 L) j_) (p_ + W.rb (W.rowRuns X2 (fun j_ p_ => Z j_ p_) i cw2 cw2 0 L) j_ * 4))))⟩)))], 581⟩ :=
  CodeOk.of_runs (fuel := 300) (v := ⟨[4, 5, 6, 38, 39, 40], [1, 2, 3, 4, 37, 229, 469, 470, 573, 574, 100008, 100009], [(573, 573), (574, 574), (100008, 565), (100009, 566)], 581⟩) (hs := [(0, ⟨.auto, some (.c (.bool (true)))⟩), (3, ⟨.ask, none⟩), (4, ⟨.ask, none⟩), (8, ⟨.sum ⟨[4, 5, 6, 38, 39, 40, 7, 8, 9], [1, 2, 3, 4, 37, 229, 469, 470, 573, 574], [(573, 100008), (574, 100009)], 100016⟩ (.exit 2) (LMPost rr cw X rr2 cw2 X2 ro2 co2 hi2 (fun j_ p_ => Z j_ p_) (W.rowRuns X2 (fun j_ p_ => Z j_ p_) i cw2 cw2 0 L) i), none⟩), (9, ⟨.auto, some (.c (.int .i64 (↑(i + 1))))⟩)])
    (cs := [EI .i64 (IntKind.wrap IntKind.i64 ((↑i : Int) + 1)) ((↑(i + 1) : Int)),
      CodeOk Try.prog 90 693 (kAt (kOf Try.prog Try.f11) [true, true, true, true, false, true, false, false, true, true, false, false, true, true, false]) (LMI rr cw X rr2 cw2 X2 ro2 co2 hi2 (fun j_ p_ => Z j_ p_) L i 0) (.exit 2) (LMPost rr cw X rr2 cw2 X2 ro2 co2 hi2 (fun j_ p_ => Z j_ p_) (W.rowRuns X2 (fun j_ p_ => Z j_ p_) i cw2 cw2 0 L) i),
      (i + (1 : Nat) ≤ rr2),
      ((0 : Int) ≤ (↑i : Int) ∧ (↑i : Int) < (↑rr2 : Int)),
      EB (decide ((↑i : Int) < (↑rr2 : Int))) true])
    mixed (by kernel_rfl) ⟨.mk (by simp only [addO_eq, mulE_eq, mulE_one, Int.toNat_natCast, IntKind.wrap_i64, mmin, mmax]; omega), (CodeOk.mono (diff_mid1 rr cw X rr2 cw2 X2 ro2 co2 hi2 (fun j_ p_ => Z j_ p_) L i (by omega) (by omega) (by omega) (by omega) (by omega) (by omega) (by omega) (by omega) (by omega) (by omega)) (by decide)), (by omega), (by omega), .mk (decide_eq_true h0), trivial⟩
theorem LK_xf (rr cw : Nat) (X : Nat → Nat → Int) (ro co : Int) (rr2 cw2 : Nat) (X2 : Nat → Nat → Int) (ro2 co2 : Int) (hi2 : Bool) (Z : Nat → Nat → Int) (L : W.Rn) (i : Nat)
    (hrr : 1 ≤ rr ∧ rr ≤ 60)
    (hcw : 1 ≤ cw ∧ cw ≤ 120)
    (hro : 0 ≤ ro ∧ ro < rr)
    (hco : 0 ≤ co ∧ co < cw)
    (hX : ∀ j, j < rr → W.okRow (X j) cw)
    (hrr2 : 1 ≤ rr2 ∧ rr2 ≤ 60)
    (hcw2 : 1 ≤ cw2 ∧ cw2 ≤ 120)
    (hro2 : 0 ≤ ro2 ∧ ro2 < rr2)
    (hco2 : 0 ≤ co2 ∧ co2 < cw2)
    (hX2 : ∀ j, j < rr2 → W.okRow (X2 j) cw2)
    (hil : i ≤ rr2)
    (hL : L.length ≤ 122 * i)
    (h0 : (¬(↑i : Int) < (↑rr2 : Int))) :
    CodeOk Try.prog 90 565 (kAt (kOf Try.prog Try.f11) [true, true, true, true, false, true, false, false]) (LKI rr cw X rr2 cw2 X2 ro2 co2 hi2 Z L i) (.exit 0) (LKI rr cw X rr2 cw2 X2 ro2 co2 hi2 (fun j_ p_ => Z j_ p_) L i) :=
  CodeOk.of_runs (fuel := 300) (v := ⟨[4, 5, 6, 38, 39, 40], [1, 2, 3, 4, 37, 229, 469, 470, 573, 574], [(573, 573), (574, 574)], 581⟩) (hs := [(0, ⟨.auto, some (.c (.bool (false)))⟩)])
    (cs := [EB (decide ((↑i : Int) < (↑rr2 : Int))) false])
    mixed (by kernel_rfl) ⟨.mk (decide_eq_false h0), trivial⟩
end Go.Proofs.Ytohleiikedpmkaa.Vm

namespace Go.Proofs.Ytohleiikedpmkaa.Vm
open Go Go.Proofs Go.Proofs.Ytohleiikedpmkaa
theorem diff_loop (rr cw : Nat) (X : Nat → Nat → Int) (rr2 cw2 : Nat) (X2 : Nat → Nat → Int) (ro2 co2 : Int) (hi2 : Bool) (hrr : 1 ≤ rr ∧ rr ≤ 60) (hcw : 1 ≤ cw ∧ cw ≤ 120) (hX : ∀ j, j < rr → W.okRow (X j) cw)
    (hrr2 : 1 ≤ rr2 ∧ rr2 ≤ 60) (hcw2 : 1 ≤ cw2 ∧ cw2 ≤ 120) (hro2 : 0 ≤ ro2 ∧ ro2 < rr2) (hco2 : 0 ≤ co2 ∧ co2 < cw2) (hX2 : ∀ j, j < rr2 → W.okRow (X2 j) cw2) :
    CodeOk Try.prog 90 565 (kAt (kOf Try.prog Try.f11) [true, true, true, true, false, true, false]) (LK0 rr cw X rr2 cw2 X2 ro2 co2 hi2) (.exit 0) (LKI rr cw X rr2 cw2 X2 ro2 co2 hi2 (W.frX rr cw X rr2 cw2) (W.runs X2 (W.frX rr cw X rr2 cw2) cw2 rr2) rr2) := by
  have hro : (0 : Int) ≤ 0 ∧ (0 : Int) < rr := by omega
  have hco : (0 : Int) ≤ 0 ∧ (0 : Int) < cw := by omega
  have h : CodeOk Try.prog 90 565 (kAt (kOf Try.prog Try.f11) [true, true, true, true, false, true, false]) (LKI rr cw X rr2 cw2 X2 ro2 co2 hi2 (W.frX rr cw X rr2 cw2) (W.runs X2 (W.frX rr cw X rr2 cw2) cw2 0) 0) (.exit 0) (LKI rr cw X rr2 cw2 X2 ro2 co2 hi2 (W.frX rr cw X rr2 cw2) (W.runs X2 (W.frX rr cw X rr2 cw2) cw2 rr2) rr2) := by
    generalize W.frX rr cw X rr2 cw2 = Z
    refine LK_by (fun i => LKI rr cw X rr2 cw2 X2 ro2 co2 hi2 Z (W.runs X2 Z cw2 i) i) (fun i => i ≤ rr2 ∧ (W.runs X2 Z cw2 i).length ≤ 122 * i) (fun i => rr2 - i) (by simp) ?_ 0 ⟨Nat.zero_le _, Nat.zero_le _⟩
    intro i ⟨hil, hL⟩
    by_cases h0 : (i : Int) < (rr2 : Int)
    · have hL' := (diff_mid rr cw X rr2 cw2 X2 ro2 co2 hi2 Z (W.runs X2 Z cw2 i) i hrr hcw hX hrr2 hcw2 hro2 hco2 hX2 (by omega) hL).2
      refine .inl ⟨i + 1, ⟨by omega, hL'⟩, by omega, ?_⟩
      refine (LK_rt rr cw X 0 0 rr2 cw2 X2 ro2 co2 hi2 Z (W.runs X2 Z cw2 i) i hrr hcw hro hco hX hrr2 hcw2 hro2 hco2 hX2 hil hL h0).move (Move.ren (H := 573) (h' := 565) (F := 574) (f' := 566) (by decide) (show 565 ≤ 581 ∧ 573 < 581 ∧ 574 < 581 by decide) (by decide) (by decide) ?_ ?_)
      · refine ⟨?_, ?_, ?_, ?_, ?_, ?_, ?_, ?_, ?_, ?_, trivial⟩
        · exact BR.gen (renRho_low (by decide)) rfl (fun h => h) rfl (fun p hp => ⟨renRho_low (by decide), rfl, rfl, rfl⟩)
        · intro j k hk; injection hk with hk; subst hk
          exact BR.ig (renRho_low (by decide)) rfl (fun h => h) rfl (fun _ _ => rfl) (fun _ _ => rfl)
        · exact BR.gen (renRho_low (by decide)) rfl (fun h => h) rfl (fun p hp => ⟨renRho_low (by decide), rfl, rfl, rfl⟩)
        · intro j k hk; injection hk with hk; subst hk
          exact BR.ig (renRho_low (by decide)) rfl (fun h => h) rfl (fun _ _ => rfl) (fun _ _ => rfl)
        · exact BR.cells (renRho_low (by decide)) rfl (fun h => h) ⟨⟨rfl, rfl⟩, ⟨rfl, rfl⟩, ⟨rfl, rfl⟩, ⟨rfl, rfl⟩, rfl, trivial, trivial⟩
        · exact BR.cells (renRho_low (by decide)) rfl (fun h => h) ⟨⟨rfl, rfl⟩, ⟨rfl, rfl⟩, ⟨rfl, rfl⟩, ⟨rfl, rfl⟩, rfl, ⟨renRho_H (by decide), rfl, rfl, rfl⟩, trivial⟩
        · exact BR.gen (renRho_low (by decide)) rfl (fun h => h) rfl (fun p hp => ⟨renRho_low (by decide), rfl, rfl, rfl⟩)
        · intro j k hk; injection hk with hk; subst hk
          exact BR.ig (renRho_low (by decide)) rfl (fun h => h) rfl (fun _ _ => rfl) (fun _ _ => rfl)
        · refine .inl ⟨565, 0, _, renRho_H (by decide), rfl, rfl, fun h => h, rfl, fun j hj => ?_⟩
          generalize hM : W.runs X2 Z cw2 (i + 1) = M
          show CR _ (recGet 3 (fun j_ => [C.int IntKind.i64 (↑(W.ra (W.runs X2 Z cw2 (i + 1)) j_) : Int), C.int IntKind.i64 (↑(W.rb (W.runs X2 Z cw2 (i + 1)) j_) : Int), C.sl 566 j_ 0 (W.rn (W.runs X2 Z cw2 (i + 1)) j_) 4]) j) (recGet 3 (fun k_ => [C.int IntKind.i64 (↑(W.ra M k_) : Int), C.int IntKind.i64 (↑(W.rb M k_) : Int), C.sl 574 k_ 0 (W.rn M k_) 4]) j)
          rw [hM]
          unfold recGet
          rcases (by omega : j % 3 = 0 ∨ j % 3 = 1 ∨ j % 3 = 2) with e | e | e <;> rw [e]
          · exact ⟨rfl, rfl⟩
          · exact ⟨rfl, rfl⟩
          · exact ⟨renRho_F (by decide) (by decide), rfl, rfl, rfl⟩
        · intro j k hk; injection hk with hk; subst hk
          exact BR.ig (renRho_F (by decide) (by decide)) rfl (fun h => h) rfl (fun _ _ => rfl) (fun _ _ => rfl)
      · exact ⟨rfl, ⟨renRho_low (by decide), rfl⟩, rfl, ⟨renRho_low (by decide), rfl⟩, rfl, ⟨renRho_low (by decide), rfl, rfl, rfl⟩, rfl, ⟨renRho_low (by decide), rfl, rfl, rfl⟩, rfl, ⟨rfl, rfl⟩, rfl, ⟨rfl, rfl⟩, trivial⟩
    · have e : i = rr2 := by omega
      subst e
      exact .inr (LK_xf rr cw X 0 0 i cw2 X2 ro2 co2 hi2 Z (W.runs X2 Z cw2 i) i hrr hcw hro hco hX hrr2 hcw2 hro2 hco2 hX2 hil hL h0)
  refine CodeOk.enter (Move.begin (fun b _ => Nat.beq b 573 || Nat.beq b 574) (by decide) (show 565 ≤ 581 by decide) ?_ ?_ ?_) h
  · intro b k hb
    have hb : 581 ≤ b := hb
    rw [beqF (by omega), beqF (by omega)]; rfl
  · refine ⟨?_, ?_, ?_, ?_, ?_, ?_, ?_, ?_, ?_, ?_, trivial⟩
    · exact BR.gen (newRho_low (by decide)) rfl (fun h => h) rfl (fun p hp => ⟨newRho_low (by decide), rfl, rfl, rfl⟩)
    · intro j k hk; injection hk with hk; subst hk
      exact BR.ig (newRho_low (by decide)) rfl (fun h => h) rfl (fun _ _ => rfl) (fun _ _ => rfl)
    · exact BR.gen (newRho_low (by decide)) rfl (fun h => h) rfl (fun p hp => ⟨newRho_low (by decide), rfl, rfl, rfl⟩)
    · intro j k hk; injection hk with hk; subst hk
      exact BR.ig (newRho_low (by decide)) rfl (fun h => h) rfl (fun _ _ => rfl) (fun _ _ => rfl)
    · exact BR.cells (newRho_low (by decide)) rfl (fun h => h) ⟨⟨rfl, rfl⟩, ⟨rfl, rfl⟩, ⟨rfl, rfl⟩, ⟨rfl, rfl⟩, rfl, trivial, trivial⟩
    · exact BR.cells (newRho_low (by decide)) rfl (fun h => h) ⟨⟨rfl, rfl⟩, ⟨rfl, rfl⟩, ⟨rfl, rfl⟩, ⟨rfl, rfl⟩, rfl, rfl, trivial⟩
    · exact BR.gen (newRho_low (by decide)) rfl (fun h => h) rfl (fun p hp => ⟨newRho_low (by decide), rfl, rfl, rfl⟩)
    · intro j k hk; injection hk with hk; subst hk
      exact BR.ig (newRho_low (by decide)) rfl (fun h => h) rfl (fun _ _ => rfl) (fun _ _ => rfl)
    · exact BR.none (newRho_high (by decide)) rfl rfl rfl
    · intro j k hk; injection hk with hk; subst hk
      exact BR.none (newRho_high (by decide)) rfl rfl rfl
  · exact ⟨rfl, ⟨newRho_low (by decide), rfl⟩, rfl, ⟨newRho_low (by decide), rfl⟩, rfl, ⟨newRho_low (by decide), rfl, rfl, rfl⟩, rfl, ⟨newRho_low (by decide), rfl, rfl, rfl⟩, rfl, ⟨rfl, rfl⟩, rfl, ⟨rfl, rfl⟩, trivial⟩
end Go.Proofs.Ytohleiikedpmkaa.Vm

namespace Go.Proofs.Ytohleiikedpmkaa.Vm
open Go Go.Proofs Go.Proofs.Ytohleiikedpmkaa
set_option maxRecDepth 100000
theorem diff_ok (rr cw : Nat) (X : Nat → Nat → Int) (ro co : Int) (hi : Bool) (rr2 cw2 : Nat) (X2 : Nat → Nat → Int) (ro2 co2 : Int) (hi2 : Bool)
    (hrr : 1 ≤ rr ∧ rr ≤ 60)
    (hcw : 1 ≤ cw ∧ cw ≤ 120)
    (hro : 0 ≤ ro ∧ ro < rr)
    (hco : 0 ≤ co ∧ co < cw)
    (hX : ∀ j, j < rr → W.okRow (X j) cw)
    (hrr2 : 1 ≤ rr2 ∧ rr2 ≤ 60)
    (hcw2 : 1 ≤ cw2 ∧ cw2 ≤ 120)
    (hro2 : 0 ≤ ro2 ∧ ro2 < rr2)
    (hco2 : 0 ≤ co2 ∧ co2 < cw2)
    (hX2 : ∀ j, j < rr2 → W.okRow (X2 j) cw2) :
    Contract0 Try.prog 11 [(.agg [(.int .i64 (↑rr)), (.int .i64 (↑cw)), (.sl 1 0 0 rr 1), (.int .i64 ro), (.int .i64 co), (.bool hi)]), (.agg [(.int .i64 (↑rr2)), (.int .i64 (↑cw2)), (.sl 3 0 0 rr2 1), (.int .i64 ro2), (.int .i64 co2), (.bool hi2)])] [(1, (.one ⟨false, false, (.gen rr (fun j_ => (.sl 2 j_ 0 cw 4)))⟩)), (2, (.many (fun j_ => some ⟨false, false, (.ig (W.rl rr (cw * 4) j_) W.ck (fun p_ => (X j_ p_)))⟩))), (3, (.one ⟨false, false, (.gen rr2 (fun j_ => (.sl 4 j_ 0 cw2 4)))⟩)), (4, (.many (fun j_ => some ⟨false, false, (.ig (W.rl rr2 (cw2 * 4) j_) W.ck (fun p_ => (X2 j_ p_)))⟩)))] 5 (.agg [(.int .i64 (↑rr2)), (.int .i64 (↑cw2)), (.int .i64 ro2), (.int .i64 co2), (.bool hi2), (.sl 5 0 0 (List.length (W.runs X2 (W.frX rr cw X rr2 cw2) cw2 rr2)) 3)]) [] [(5, (.one ⟨true, false, (.row (List.length (W.runs X2 (W.frX rr cw X rr2 cw2) cw2 rr2) * 3) 3 (fun j_ => [(.int .i64 (↑(W.ra (W.runs X2 (W.frX rr cw X rr2 cw2) cw2 rr2) j_))), (.int .i64 (↑(W.rb (W.runs X2 (W.frX rr cw X rr2 cw2) cw2 rr2) j_))), (.sl 6 j_ 0 (W.rn (W.runs X2 (W.frX rr cw X rr2 cw2) cw2 rr2) j_) 4)]))⟩)), (6, (.many (fun j_ => some ⟨true, false, (.ig (W.rn (W.runs X2 (W.frX rr cw X rr2 cw2) cw2 rr2) j_ * 4) W.ck (fun p_ => (X2 (W.ra (W.runs X2 (W.frX rr cw X rr2 cw2) cw2 rr2) j_) (p_ + W.rb (W.runs X2 (W.frX rr cw X rr2 cw2) cw2 rr2) j_ * 4))))⟩)))] :=
  Contract0.renum (Contract0.of_frunF (res := (.agg [(.int .i64 (↑rr2)), (.int .i64 (↑cw2)), (.int .i64 ro2), (.int .i64 co2), (.bool hi2), (.sl 573 0 0 (List.length (W.runs X2 (W.frX rr cw X rr2 cw2) cw2 rr2)) 3)])) (up := [(573, (.one ⟨true, false, (.row (List.length (W.runs X2 (W.frX rr cw X rr2 cw2) cw2 rr2) * 3) 3 (fun j_ => [(.int .i64 (↑(W.ra (W.runs X2 (W.frX rr cw X rr2 cw2) cw2 rr2) j_))), (.int .i64 (↑(W.rb (W.runs X2 (W.frX rr cw X rr2 cw2) cw2 rr2) j_))), (.sl 574 j_ 0 (W.rn (W.runs X2 (W.frX rr cw X rr2 cw2) cw2 rr2) j_) 4)]))⟩)), (574, (.many (fun j_ => some ⟨true, false, (.ig (W.rn (W.runs X2 (W.frX rr cw X rr2 cw2) cw2 rr2) j_ * 4) W.ck (fun p_ => (X2 (W.ra (W.runs X2 (W.frX rr cw X rr2 cw2) cw2 rr2) j_) (p_ + W.rb (W.runs X2 (W.frX rr cw X rr2 cw2) cw2 rr2) j_ * 4))))⟩)))]) (kill := []) (n0 := 5) (m := [(1, (.one ⟨false, false, (.gen rr (fun j_ => (.sl 2 j_ 0 cw 4)))⟩)), (2, (.many (fun j_ => some ⟨false, false, (.ig (W.rl rr (cw * 4) j_) W.ck (fun p_ => (X j_ p_)))⟩))), (3, (.one ⟨false, false, (.gen rr2 (fun j_ => (.sl 4 j_ 0 cw2 4)))⟩)), (4, (.many (fun j_ => some ⟨false, false, (.ig (W.rl rr2 (cw2 * 4) j_) W.ck (fun p_ => (X2 j_ p_)))⟩)))]) (args := [(.agg [(.int .i64 (↑rr)), (.int .i64 (↑cw)), (.sl 1 0 0 rr 1), (.int .i64 ro), (.int .i64 co), (.bool hi)]), (.agg [(.int .i64 (↑rr2)), (.int .i64 (↑cw2)), (.sl 3 0 0 rr2 1), (.int .i64 ro2), (.int .i64 co2), (.bool hi2)])]) (fn := Try.f11) (c := bodyOf Try.f11) (fuel := 300) (k := kOf Try.prog Try.f11) (outs := [573, 574]) (hs := [(17, ⟨.call [1, 2] (.c (.bool (true))) [] [], none⟩), (21, ⟨.call [3, 4] (.c (.bool (true))) [] [], none⟩), (30, ⟨.call [1, 2] (.c (.sl 469 0 0 rr2 1)) [] [(469, (.one ⟨true, false, (.gen rr2 (fun j_ => (.sl 470 j_ 0 cw2 4)))⟩)), (470, (.many (fun j_ => some ⟨true, false, (.ig (W.rl rr2 (cw2 * 4) j_) W.ck (fun p_ => (W.frX rr cw (fun j_ p_ => X j_ p_) rr2 cw2 j_ p_)))⟩)))], none⟩), (36, ⟨.sum ⟨[4, 5, 6, 38, 39, 40], [1, 2, 3, 4, 37, 229, 469, 470], [], 565⟩ (.exit 0) (LKI rr cw X rr2 cw2 X2 ro2 co2 hi2 (W.frX rr cw X rr2 cw2) (W.runs X2 (W.frX rr cw X rr2 cw2) cw2 rr2) rr2), none⟩)])
    (cs := [OwnF (fun j_ => some ⟨true, false, (.ig (W.rn (W.runs X2 (W.frX rr cw X rr2 cw2) cw2 rr2) j_ * 4) W.ck (fun p_ => (X2 (W.ra (W.runs X2 (W.frX rr cw X rr2 cw2) cw2 rr2) j_) (p_ + W.rb (W.runs X2 (W.frX rr cw X rr2 cw2) cw2 rr2) j_ * 4))))⟩),
      CodeOk Try.prog 90 565 (kAt (kOf Try.prog Try.f11) [true, true, true, true, false, true, false]) (LK0 rr cw X rr2 cw2 X2 ro2 co2 hi2) (.exit 0) (LKI rr cw X rr2 cw2 X2 ro2 co2 hi2 (W.frX rr cw X rr2 cw2) (W.runs X2 (W.frX rr cw X rr2 cw2) cw2 rr2) rr2),
      Contract Try.prog 30 [(.agg [(.int .i64 (↑rr)), (.int .i64 (↑cw)), (.sl 1 0 0 rr 1), (.int .i64 ro), (.int .i64 co), (.bool hi)]), (.c (.int .i64 (↑rr2))), (.c (.int .i64 (↑cw2)))] [(1, (.one ⟨false, false, (.gen rr (fun j_ => (.sl 2 j_ 0 cw 4)))⟩)), (2, (.many (fun j_ => some ⟨false, false, (.ig (W.rl rr (cw * 4) j_) W.ck (fun p_ => (X j_ p_)))⟩)))] 469 (.c (.sl 469 0 0 rr2 1)) [] [(469, (.one ⟨true, false, (.gen rr2 (fun j_ => (.sl 470 j_ 0 cw2 4)))⟩)), (470, (.many (fun j_ => some ⟨true, false, (.ig (W.rl rr2 (cw2 * 4) j_) W.ck (fun p_ => (W.frX rr cw (fun j_ p_ => X j_ p_) rr2 cw2 j_ p_)))⟩)))],
      Contract Try.prog 19 [(.agg [(.int .i64 (↑rr2)), (.int .i64 (↑cw2)), (.sl 3 0 0 rr2 1), (.int .i64 ro2), (.int .i64 co2), (.bool hi2)])] [(3, (.one ⟨false, false, (.gen rr2 (fun j_ => (.sl 4 j_ 0 cw2 4)))⟩)), (4, (.many (fun j_ => some ⟨false, false, (.ig (W.rl rr2 (cw2 * 4) j_) W.ck (fun p_ => (X2 j_ p_)))⟩)))] 341 (.c (.bool (true))) [] [],
      Contract Try.prog 19 [(.agg [(.int .i64 (↑rr)), (.int .i64 (↑cw)), (.sl 1 0 0 rr 1), (.int .i64 ro), (.int .i64 co), (.bool hi)])] [(1, (.one ⟨false, false, (.gen rr (fun j_ => (.sl 2 j_ 0 cw 4)))⟩)), (2, (.many (fun j_ => some ⟨false, false, (.ig (W.rl rr (cw * 4) j_) W.ck (fun p_ => (X j_ p_)))⟩)))] 277 (.c (.bool (true))) [] []])
    mixed Try.func11 (by kernel_rfl) (by kernel_rfl) (by kernel_rfl) ⟨rfl, (.inr (RoF.of (fun _ => rfl))), rfl, (.inr (RoF.of (fun _ => rfl))), trivial⟩ (by kernel_rfl) ⟨OwnF.of (fun _ => rfl), (diff_loop rr cw X rr2 cw2 X2 ro2 co2 hi2 (by omega) (by omega) (by omega) (by omega) (by omega) (by omega) (by omega) (by omega)), Contract0.in1 (from_ok rr cw (fun j_ p_ => X j_ p_) ro co hi rr2 cw2 (by omega) (by omega) (by omega) (by omega) (by omega) (by omega) (by omega)) [.b 1 1 true [], .b 2 2 true []] [none, none, none] [(3, 469), (4, 470)] [] (by kernel_rfl), Contract0.in1 (right_ok rr2 cw2 (fun j_ p_ => X2 j_ p_) ro2 co2 hi2 (by omega) (by omega) (by omega) (by omega) (by omega)) [.b 3 1 true [], .b 4 2 true []] [none] [] [] (by kernel_rfl), Contract0.in1 (right_ok rr cw (fun j_ p_ => X j_ p_) ro co hi (by omega) (by omega) (by omega) (by omega) (by omega)) [.b 1 1 true [], .b 2 2 true []] [none] [] [] (by kernel_rfl), trivial⟩) [.b 1 1 true, .b 2 2 true, .b 3 3 true, .b 4 4 true] [] [(573, 5), (574, 6)] [] (by kernel_rfl) (by kernel_rfl) (by kernel_rfl) (by kernel_rfl) (by kernel_rfl)
end Go.Proofs.Ytohleiikedpmkaa.Vm
