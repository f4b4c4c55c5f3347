/- What functions of the program come to: parts of the walk (Gg). -/
import Derived.Test.YtohleiikedpmkaaGf
import Derived.Test.YtohleiikedpmkaaGd
import Derived.KernelRfl
import Derived.Test.YtohleiikedpmkaaProg
import Derived.Test.YtohleiikedpmkaaVmc
import Derived.Test.YtohleiikedpmkaaGe
import Derived.Test.YtohleiikedpmkaaGa
set_option linter.unusedSimpArgs false
set_option linter.unusedVariables false
namespace Go.Proofs.Ytohleiikedpmkaa.Vm
open Go Go.Proofs Go.Proofs.Ytohleiikedpmkaa
noncomputable def LXScS (rr cw : Nat) (X X2 : Nat → Nat → Int) (ro co ro2 co2 : Int) (hi hi2 : Bool) (i : Nat) (L : W.Rn) (k : Nat) : S0 :=
  ⟨[(2, (.c (.ptr 5 0 0))), (3, (.c (.ptr 21 0 0))), (4, (.c (.ptr 37 0 0))), (5, (.c (.ptr 229 0 0))), (6, (.c (.int .i64 (i : Int)))), (8, (.c (.ptr 190690 0 0))), (7, (.c (.int .i64 (k : Int))))], [(1, (.one ⟨false, false, (.gen rr (fun j_ => (.sl 2 j_ 0 cw 4)))⟩)), (2, (.many (fun j_ => some ⟨false, false, (.ig (W.rl rr (cw * 4) j_) W.ck (fun p_ => (X j_ p_)))⟩))), (3, (.one ⟨false, false, (.gen rr (fun j_ => (.sl 4 j_ 0 cw 4)))⟩)), (4, (.many (fun j_ => some ⟨false, false, (.ig (W.rl rr (cw * 4) j_) W.ck (fun p_ => (X2 j_ p_)))⟩))), (5, (.one ⟨true, true, (.cells [(.int .i64 (↑rr)), (.int .i64 (↑cw)), (.sl 1 0 0 rr 1), (.int .i64 ro), (.int .i64 co), (.bool hi)])⟩)), (21, (.one ⟨true, true, (.cells [(.int .i64 (↑rr)), (.int .i64 (↑cw)), (.sl 3 0 0 rr 1), (.int .i64 ro2), (.int .i64 co2), (.bool hi2)])⟩)), (37, (.one ⟨true, true, (.cells [(.int .i64 0), (.int .i64 0), (.int .i64 0), (.int .i64 0), (.bool (false)), .nils])⟩)), (229, (.one ⟨true, true, .cells [.int .i64 (rr : Int), .int .i64 (cw : Int), .int .i64 ro2, .int .i64 co2, .bool hi2, .sl 100008 0 0 L.length 3]⟩)), (100008, (.one ⟨true, false, .row (L.length * 3) 3 (fun k_ => [.int .i64 (W.ra L k_ : Int), .int .i64 (W.rb L k_ : Int), .sl 100009 k_ 0 (W.rn L k_) 4])⟩)), (100009, (.many (fun j_ => some ⟨true, false, .ig (W.rn L j_ * 4) W.ck (fun p_ => X2 (W.ra L j_) (p_ + W.rb L j_ * 4))⟩))), (190690, (.one ⟨true, true, .cells [.int .i64 (i : Int), .int .i64 (k : Int), .nils]⟩))], 200000⟩
theorem rds_cells (rr cw : Nat) (X X2 : Nat → Nat → Int) (ro co ro2 co2 : Int) (hi hi2 : Bool) (i : Nat) (L : W.Rn) (k : Nat) (hrr : 1 ≤ rr ∧ rr ≤ 60) (hcw : 1 ≤ cw ∧ cw ≤ 120) (hil : i < rr) (hk : k ≤ cw) (hL : L.length ≤ 10000) :
    CodeOk Try.prog 114 200000 (kAt (kOf Try.prog Try.f13) [true, true, true, false, true, false, false, true, false, false, true, false, false, true, false, true, true, false, false]) (LXScS rr cw X X2 ro co ro2 co2 hi hi2 i L k) (.exit 4) (LXScI rr cw X X2 ro co ro2 co2 hi hi2 i (W.stopAt X2 X i cw k) L k (W.stopAt X2 X i cw k - k) (fun p => X2 i (p + k * 4))) := by
  obtain ⟨s1, s2, s3, s4⟩ := W.stopAt_spec X2 X i hk
  generalize W.stopAt X2 X i cw k = S at s1 s2 s3 s4 ⊢
  have h : CodeOk Try.prog 114 200000 (kAt (kOf Try.prog Try.f13) [true, true, true, false, true, false, false, true, false, false, true, false, false, true, false, true, true, false, false]) (LXScI rr cw X X2 ro co ro2 co2 hi hi2 i k L k (k - k) (fun p => X2 i (p + k * 4))) (.exit 4) (LXScI rr cw X X2 ro co ro2 co2 hi hi2 i S L k (S - k) (fun p => X2 i (p + k * 4))) := by
    refine LXSc_by (fun e => LXScI rr cw X X2 ro co ro2 co2 hi hi2 i e L k (e - k) (fun p => X2 i (p + k * 4))) (fun e => k ≤ e ∧ e ≤ S) (fun e => S - e) (by simp) ?_ k ⟨Nat.le_refl _, s1⟩
    intro e he
    by_cases h0 : e < S
    · have hq : W.eqc X X2 i e = false := by rw [W.eqc_comm]; exact s3 e he.1 h0
      refine .inl ⟨e + 1, ⟨by omega, by omega⟩, by omega, ?_⟩
      refine (LXSc_rtf rr cw X X2 ro co ro2 co2 hi hi2 i e L k (e - k) (fun p => X2 i (p + k * 4)) hrr hcw hil (by omega) (by omega) hL (by omega) (by show ¬ W.eqc X X2 i e = true; rw [hq]; simp)).move (Move.ren (H := 200008) (h' := 200000) (F := 200009) (f' := 200001) (by decide) (show 200000 ≤ 200016 ∧ 200008 < 200016 ∧ 200009 < 200016 by decide) (by decide) (by decide) ?_ ?_)
      · refine ⟨?_, ?_, ?_, ?_, ?_, ?_, ?_, ?_, ?_, ?_, ?_, ?_, trivial⟩
        · exact BR.gen (renRho_low (by decide)) rfl (fun h => h) rfl (fun p hp => ⟨renRho_low (by decide), rfl, rfl, rfl⟩)
        · intro j k hk; injection hk with hk; subst hk
          exact BR.ig (renRho_low (by decide)) rfl (fun h => h) rfl (fun _ _ => rfl) (fun _ _ => rfl)
        · exact BR.gen (renRho_low (by decide)) rfl (fun h => h) rfl (fun p hp => ⟨renRho_low (by decide), rfl, rfl, rfl⟩)
        · intro j k hk; injection hk with hk; subst hk
          exact BR.ig (renRho_low (by decide)) rfl (fun h => h) rfl (fun _ _ => rfl) (fun _ _ => rfl)
        · exact BR.cells (renRho_low (by decide)) rfl (fun h => h) ⟨⟨rfl, by first | rfl | omega⟩, ⟨rfl, by first | rfl | omega⟩, ⟨renRho_low (by decide), by first | rfl | omega, by first | rfl | omega, rfl⟩, ⟨rfl, by first | rfl | omega⟩, ⟨rfl, by first | rfl | omega⟩, rfl, trivial⟩
        · exact BR.cells (renRho_low (by decide)) rfl (fun h => h) ⟨⟨rfl, by first | rfl | omega⟩, ⟨rfl, by first | rfl | omega⟩, ⟨renRho_low (by decide), by first | rfl | omega, by first | rfl | omega, rfl⟩, ⟨rfl, by first | rfl | omega⟩, ⟨rfl, by first | rfl | omega⟩, rfl, trivial⟩
        · exact BR.cells (renRho_low (by decide)) rfl (fun h => h) ⟨⟨rfl, by first | rfl | omega⟩, ⟨rfl, by first | rfl | omega⟩, ⟨rfl, by first | rfl | omega⟩, ⟨rfl, by first | rfl | omega⟩, rfl, trivial, trivial⟩
        · exact BR.cells (renRho_low (by decide)) rfl (fun h => h) ⟨⟨rfl, by first | rfl | omega⟩, ⟨rfl, by first | rfl | omega⟩, ⟨rfl, by first | rfl | omega⟩, ⟨rfl, by first | rfl | omega⟩, rfl, ⟨renRho_low (by decide), by first | rfl | omega, by first | rfl | omega, rfl⟩, trivial⟩
        · exact BR.runs (renRho_low (by decide)) rfl (fun h => h) (fun j => renRho_low (by decide))
        · intro j k hk; injection hk with hk; subst hk
          exact BR.ig (renRho_low (by decide)) rfl (fun h => h) rfl (fun _ _ => rfl) (fun _ _ => rfl)
        · exact BR.cells (renRho_low (by decide)) rfl (fun h => h) ⟨⟨rfl, by first | rfl | omega⟩, ⟨rfl, by first | rfl | omega⟩, ⟨renRho_H (by decide), by first | rfl | omega, by first | rfl | omega, rfl⟩, trivial⟩
        · refine BR.ig (renRho_H (by decide)) rfl (fun h => h) (by simp only [mulE_eq]; omega) (fun p hp => ?_) (fun p hp => ?_)
          · rw [grow_ck (n := e - k) (a := X2 i (e * 4)) (b := X2 i (e * 4 + 1)) (c := X2 i (e * 4 + 2)) (d := X2 i (e * 4 + 3)) (by simp only [mulE_eq] at hp; omega)]
          · exact grow_cl (g := fun p => X2 i (p + k * 4)) (n := e - k) (by simp only [mulE_eq] at hp; omega) (fun _ _ => rfl) (by show X2 i _ = _; congr 1; omega) (by show X2 i _ = _; congr 1; omega) (by show X2 i _ = _; congr 1; omega) (by show X2 i _ = _; congr 1; omega)
      · exact ⟨rfl, ⟨renRho_low (by decide), by first | rfl | omega⟩, rfl, ⟨renRho_low (by decide), by first | rfl | omega⟩, rfl, ⟨renRho_low (by decide), by first | rfl | omega⟩, rfl, ⟨renRho_low (by decide), by first | rfl | omega⟩, rfl, ⟨rfl, by first | rfl | omega⟩, rfl, ⟨renRho_low (by decide), by first | rfl | omega⟩, rfl, ⟨rfl, by first | rfl | omega⟩, trivial⟩
    · have e' : e = S := by omega
      rw [e']
      by_cases h1 : S < cw
      · have hq : W.eqc X X2 i S = true := by
          rw [W.eqc_comm]
          rcases s4 with s4 | s4
          · omega
          · exact s4
        exact .inr (LXSc_xtt rr cw X X2 ro co ro2 co2 hi hi2 i S L k (S - k) (fun p => X2 i (p + k * 4)) hrr hcw hil (by omega) (by omega) hL (by omega) hq)
      · exact .inr (LXSc_xf rr cw X X2 ro co ro2 co2 hi hi2 i S L k (S - k) (fun p => X2 i (p + k * 4)) hrr hcw hil (by omega) (by omega) hL (by omega))
  refine CodeOk.enter (Move.begin (fun b _ => Nat.beq b 200008) (by decide) (show 200000 ≤ 200016 by decide) ?_ ?_ ?_) h
  · intro b k hb
    have hb : 200016 ≤ b := hb
    rw [beqF (by omega)]
  · refine ⟨?_, ?_, ?_, ?_, ?_, ?_, ?_, ?_, ?_, ?_, ?_, ?_, trivial⟩
    · exact BR.gen (newRho_low (by decide)) rfl (fun h => h) rfl (fun p hp => ⟨newRho_low (by decide), rfl, rfl, rfl⟩)
    · intro j k hk; injection hk with hk; subst hk
      exact BR.ig (newRho_low (by decide)) rfl (fun h => h) rfl (fun _ _ => rfl) (fun _ _ => rfl)
    · exact BR.gen (newRho_low (by decide)) rfl (fun h => h) rfl (fun p hp => ⟨newRho_low (by decide), rfl, rfl, rfl⟩)
    · intro j k hk; injection hk with hk; subst hk
      exact BR.ig (newRho_low (by decide)) rfl (fun h => h) rfl (fun _ _ => rfl) (fun _ _ => rfl)
    · exact BR.cells (newRho_low (by decide)) rfl (fun h => h) ⟨⟨rfl, by first | rfl | omega⟩, ⟨rfl, by first | rfl | omega⟩, ⟨newRho_low (by decide), by first | rfl | omega, by first | rfl | omega, rfl⟩, ⟨rfl, by first | rfl | omega⟩, ⟨rfl, by first | rfl | omega⟩, rfl, trivial⟩
    · exact BR.cells (newRho_low (by decide)) rfl (fun h => h) ⟨⟨rfl, by first | rfl | omega⟩, ⟨rfl, by first | rfl | omega⟩, ⟨newRho_low (by decide), by first | rfl | omega, by first | rfl | omega, rfl⟩, ⟨rfl, by first | rfl | omega⟩, ⟨rfl, by first | rfl | omega⟩, rfl, trivial⟩
    · exact BR.cells (newRho_low (by decide)) rfl (fun h => h) ⟨⟨rfl, by first | rfl | omega⟩, ⟨rfl, by first | rfl | omega⟩, ⟨rfl, by first | rfl | omega⟩, ⟨rfl, by first | rfl | omega⟩, rfl, trivial, trivial⟩
    · exact BR.cells (newRho_low (by decide)) rfl (fun h => h) ⟨⟨rfl, by first | rfl | omega⟩, ⟨rfl, by first | rfl | omega⟩, ⟨rfl, by first | rfl | omega⟩, ⟨rfl, by first | rfl | omega⟩, rfl, ⟨newRho_low (by decide), by first | rfl | omega, by first | rfl | omega, rfl⟩, trivial⟩
    · exact BR.runs (newRho_low (by decide)) rfl (fun h => h) (fun j => newRho_low (by decide))
    · intro j k hk; injection hk with hk; subst hk
      exact BR.ig (newRho_low (by decide)) rfl (fun h => h) rfl (fun _ _ => rfl) (fun _ _ => rfl)
    · exact BR.cells (newRho_low (by decide)) rfl (fun h => h) ⟨⟨rfl, rfl⟩, ⟨rfl, rfl⟩, Nat.sub_self k, trivial⟩
    · exact BR.none (newRho_high (by decide)) rfl rfl (by show (k - k) * 4 = 0; omega)
  · exact ⟨rfl, ⟨newRho_low (by decide), by first | rfl | omega⟩, rfl, ⟨newRho_low (by decide), by first | rfl | omega⟩, rfl, ⟨newRho_low (by decide), by first | rfl | omega⟩, rfl, ⟨newRho_low (by decide), by first | rfl | omega⟩, rfl, ⟨rfl, by first | rfl | omega⟩, rfl, ⟨newRho_low (by decide), by first | rfl | omega⟩, rfl, ⟨rfl, by first | rfl | omega⟩, trivial⟩
noncomputable def LXDcS (rr cw : Nat) (X : Nat → Nat → Int) (rr2 cw2 : Nat) (X2 : Nat → Nat → Int) (ro2 co2 : Int) (hi2 : Bool) (i : Nat) (L : W.Rn) (k : Nat) : S0 :=
  ⟨[(2, (.c (.ptr 5 0 0))), (3, (.c (.ptr 21 0 0))), (4, (.c (.ptr 37 0 0))), (5, (.c (.ptr 229 0 0))), (6, (.c (.int .i64 (i : Int)))), (8, (.c (.ptr 190690 0 0))), (7, (.c (.int .i64 (k : Int))))], [(1, (.one ⟨false, false, (.gen rr (fun j_ => (.sl 2 j_ 0 cw 4)))⟩)), (2, (.many (fun j_ => some ⟨false, false, (.ig (W.rl rr (cw * 4) j_) W.ck (fun p_ => (X j_ p_)))⟩))), (3, (.one ⟨false, false, (.gen rr2 (fun j_ => (.sl 4 j_ 0 cw2 4)))⟩)), (4, (.many (fun j_ => some ⟨false, false, (.ig (W.rl rr2 (cw2 * 4) j_) W.ck (fun p_ => (X2 j_ p_)))⟩))), (5, (.one ⟨true, true, (.cells [(.int .i64 (↑rr2)), (.int .i64 (↑cw2)), (.sl 517 0 0 rr2 1), (.int .i64 0), (.int .i64 0), (.bool (false))])⟩)), (21, (.one ⟨true, true, (.cells [(.int .i64 (↑rr2)), (.int .i64 (↑cw2)), (.sl 3 0 0 rr2 1), (.int .i64 ro2), (.int .i64 co2), (.bool hi2)])⟩)), (37, (.one ⟨true, true, (.cells [(.int .i64 0), (.int .i64 0), (.int .i64 0), (.int .i64 0), (.bool (false)), .nils])⟩)), (229, (.one ⟨true, true, .cells [.int .i64 (rr2 : Int), .int .i64 (cw2 : Int), .int .i64 ro2, .int .i64 co2, .bool hi2, .sl 100008 0 0 L.length 3]⟩)), (517, (.one ⟨true, false, (.gen rr2 (fun j_ => (.sl 518 j_ 0 cw2 4)))⟩)), (518, (.many (fun j_ => some ⟨true, true, (.ig (W.rl rr2 (cw2 * 4) j_) W.ck W.blank)⟩))), (100008, (.one ⟨true, false, .row (L.length * 3) 3 (fun k_ => [.int .i64 (W.ra L k_ : Int), .int .i64 (W.rb L k_ : Int), .sl 100009 k_ 0 (W.rn L k_) 4])⟩)), (100009, (.many (fun j_ => some ⟨true, false, .ig (W.rn L j_ * 4) W.ck (fun p_ => X2 (W.ra L j_) (p_ + W.rb L j_ * 4))⟩))), (190690, (.one ⟨true, true, .cells [.int .i64 (i : Int), .int .i64 (k : Int), .nils]⟩))], 200000⟩
theorem rdd_cells (rr cw : Nat) (X : Nat → Nat → Int) (rr2 cw2 : Nat) (X2 : Nat → Nat → Int) (ro2 co2 : Int) (hi2 : Bool) (i : Nat) (L : W.Rn) (k : Nat) (hrr2 : 1 ≤ rr2 ∧ rr2 ≤ 60) (hcw2 : 1 ≤ cw2 ∧ cw2 ≤ 120) (hd : ¬ (rr2 = rr ∧ cw2 = cw)) (hil : i < rr2) (hk : k ≤ cw2) (hL : L.length ≤ 10000) :
    CodeOk Try.prog 114 200000 (kAt (kOf Try.prog Try.f13) [true, true, true, false, true, false, false, true, false, false, true, false, false, true, false, true, true, false, false]) (LXDcS rr cw X rr2 cw2 X2 ro2 co2 hi2 i L k) (.exit 4) (LXDcI rr cw X rr2 cw2 X2 ro2 co2 hi2 i (W.stopAt X2 (fun _ => W.blank) i cw2 k) L k (W.stopAt X2 (fun _ => W.blank) i cw2 k - k) (fun p => X2 i (p + k * 4))) := by
  obtain ⟨s1, s2, s3, s4⟩ := W.stopAt_spec X2 (fun _ => W.blank) i hk
  generalize W.stopAt X2 (fun _ => W.blank) i cw2 k = S at s1 s2 s3 s4 ⊢
  have h : CodeOk Try.prog 114 200000 (kAt (kOf Try.prog Try.f13) [true, true, true, false, true, false, false, true, false, false, true, false, false, true, false, true, true, false, false]) (LXDcI rr cw X rr2 cw2 X2 ro2 co2 hi2 i k L k (k - k) (fun p => X2 i (p + k * 4))) (.exit 4) (LXDcI rr cw X rr2 cw2 X2 ro2 co2 hi2 i S L k (S - k) (fun p => X2 i (p + k * 4))) := by
    refine LXDc_by (fun e => LXDcI rr cw X rr2 cw2 X2 ro2 co2 hi2 i e L k (e - k) (fun p => X2 i (p + k * 4))) (fun e => k ≤ e ∧ e ≤ S) (fun e => S - e) (by simp) ?_ k ⟨Nat.le_refl _, s1⟩
    intro e he
    by_cases h0 : e < S
    · have hq : W.eqc (fun _ => W.blank) X2 i e = false := by rw [W.eqc_comm]; exact s3 e he.1 h0
      refine .inl ⟨e + 1, ⟨by omega, by omega⟩, by omega, ?_⟩
      refine (LXDc_rtf rr cw X rr2 cw2 X2 ro2 co2 hi2 i e L k (e - k) (fun p => X2 i (p + k * 4)) hrr2 hcw2 hd hil (by omega) (by omega) hL (by omega) (by show ¬ W.eqc (fun _ => W.blank) X2 i e = true; rw [hq]; simp)).move (Move.ren (H := 200008) (h' := 200000) (F := 200009) (f' := 200001) (by decide) (show 200000 ≤ 200016 ∧ 200008 < 200016 ∧ 200009 < 200016 by decide) (by decide) (by decide) ?_ ?_)
      · refine ⟨?_, ?_, ?_, ?_, ?_, ?_, ?_, ?_, ?_, ?_, ?_, ?_, ?_, ?_, trivial⟩
        · exact BR.gen (renRho_low (by decide)) rfl (fun h => h) rfl (fun p hp => ⟨renRho_low (by decide), rfl, rfl, rfl⟩)
        · intro j k hk; injection hk with hk; subst hk
          exact BR.ig (renRho_low (by decide)) rfl (fun h => h) rfl (fun _ _ => rfl) (fun _ _ => rfl)
        · exact BR.gen (renRho_low (by decide)) rfl (fun h => h) rfl (fun p hp => ⟨renRho_low (by decide), rfl, rfl, rfl⟩)
        · intro j k hk; injection hk with hk; subst hk
          exact BR.ig (renRho_low (by decide)) rfl (fun h => h) rfl (fun _ _ => rfl) (fun _ _ => rfl)
        · exact BR.cells (renRho_low (by decide)) rfl (fun h => h) ⟨⟨rfl, by first | rfl | omega⟩, ⟨rfl, by first | rfl | omega⟩, ⟨renRho_low (by decide), by first | rfl | omega, by first | rfl | omega, rfl⟩, ⟨rfl, by first | rfl | omega⟩, ⟨rfl, by first | rfl | omega⟩, rfl, trivial⟩
        · exact BR.cells (renRho_low (by decide)) rfl (fun h => h) ⟨⟨rfl, by first | rfl | omega⟩, ⟨rfl, by first | rfl | omega⟩, ⟨renRho_low (by decide), by first | rfl | omega, by first | rfl | omega, rfl⟩, ⟨rfl, by first | rfl | omega⟩, ⟨rfl, by first | rfl | omega⟩, rfl, trivial⟩
        · exact BR.cells (renRho_low (by decide)) rfl (fun h => h) ⟨⟨rfl, by first | rfl | omega⟩, ⟨rfl, by first | rfl | omega⟩, ⟨rfl, by first | rfl | omega⟩, ⟨rfl, by first | rfl | omega⟩, rfl, trivial, trivial⟩
        · exact BR.cells (renRho_low (by decide)) rfl (fun h => h) ⟨⟨rfl, by first | rfl | omega⟩, ⟨rfl, by first | rfl | omega⟩, ⟨rfl, by first | rfl | omega⟩, ⟨rfl, by first | rfl | omega⟩, rfl, ⟨renRho_low (by decide), by first | rfl | omega, by first | rfl | omega, rfl⟩, trivial⟩
        · exact BR.gen (renRho_low (by decide)) rfl (fun h => h) rfl (fun p hp => ⟨renRho_low (by decide), rfl, rfl, rfl⟩)
        · intro j k hk; injection hk with hk; subst hk
          exact BR.ig (renRho_low (by decide)) rfl (fun h => h) rfl (fun _ _ => rfl) (fun _ _ => rfl)
        · exact BR.runs (renRho_low (by decide)) rfl (fun h => h) (fun j => renRho_low (by decide))
        · intro j k hk; injection hk with hk; subst hk
          exact BR.ig (renRho_low (by decide)) rfl (fun h => h) rfl (fun _ _ => rfl) (fun _ _ => rfl)
        · exact BR.cells (renRho_low (by decide)) rfl (fun h => h) ⟨⟨rfl, by first | rfl | omega⟩, ⟨rfl, by first | rfl | omega⟩, ⟨renRho_H (by decide), by first | rfl | omega, by first | rfl | omega, rfl⟩, trivial⟩
        · refine BR.ig (renRho_H (by decide)) rfl (fun h => h) (by simp only [mulE_eq]; omega) (fun p hp => ?_) (fun p hp => ?_)
          · rw [grow_ck (n := e - k) (a := X2 i (e * 4)) (b := X2 i (e * 4 + 1)) (c := X2 i (e * 4 + 2)) (d := X2 i (e * 4 + 3)) (by simp only [mulE_eq] at hp; omega)]
          · exact grow_cl (g := fun p => X2 i (p + k * 4)) (n := e - k) (by simp only [mulE_eq] at hp; omega) (fun _ _ => rfl) (by show X2 i _ = _; congr 1; omega) (by show X2 i _ = _; congr 1; omega) (by show X2 i _ = _; congr 1; omega) (by show X2 i _ = _; congr 1; omega)
      · exact ⟨rfl, ⟨renRho_low (by decide), by first | rfl | omega⟩, rfl, ⟨renRho_low (by decide), by first | rfl | omega⟩, rfl, ⟨renRho_low (by decide), by first | rfl | omega⟩, rfl, ⟨renRho_low (by decide), by first | rfl | omega⟩, rfl, ⟨rfl, by first | rfl | omega⟩, rfl, ⟨renRho_low (by decide), by first | rfl | omega⟩, rfl, ⟨rfl, by first | rfl | omega⟩, trivial⟩
    · have e' : e = S := by omega
      rw [e']
      by_cases h1 : S < cw2
      · have hq : W.eqc (fun _ => W.blank) X2 i S = true := by
          rw [W.eqc_comm]
          rcases s4 with s4 | s4
          · omega
          · exact s4
        exact .inr (LXDc_xtt rr cw X rr2 cw2 X2 ro2 co2 hi2 i S L k (S - k) (fun p => X2 i (p + k * 4)) hrr2 hcw2 hd hil (by omega) (by omega) hL (by omega) hq)
      · exact .inr (LXDc_xf rr cw X rr2 cw2 X2 ro2 co2 hi2 i S L k (S - k) (fun p => X2 i (p + k * 4)) hrr2 hcw2 hd hil (by omega) (by omega) hL (by omega))
  refine CodeOk.enter (Move.begin (fun b _ => Nat.beq b 200008) (by decide) (show 200000 ≤ 200016 by decide) ?_ ?_ ?_) h
  · intro b k hb
    have hb : 200016 ≤ b := hb
    rw [beqF (by omega)]
  · refine ⟨?_, ?_, ?_, ?_, ?_, ?_, ?_, ?_, ?_, ?_, ?_, ?_, ?_, ?_, trivial⟩
    · exact BR.gen (newRho_low (by decide)) rfl (fun h => h) rfl (fun p hp => ⟨newRho_low (by decide), rfl, rfl, rfl⟩)
    · intro j k hk; injection hk with hk; subst hk
      exact BR.ig (newRho_low (by decide)) rfl (fun h => h) rfl (fun _ _ => rfl) (fun _ _ => rfl)
    · exact BR.gen (newRho_low (by decide)) rfl (fun h => h) rfl (fun p hp => ⟨newRho_low (by decide), rfl, rfl, rfl⟩)
    · intro j k hk; injection hk with hk; subst hk
      exact BR.ig (newRho_low (by decide)) rfl (fun h => h) rfl (fun _ _ => rfl) (fun _ _ => rfl)
    · exact BR.cells (newRho_low (by decide)) rfl (fun h => h) ⟨⟨rfl, by first | rfl | omega⟩, ⟨rfl, by first | rfl | omega⟩, ⟨newRho_low (by decide), by first | rfl | omega, by first | rfl | omega, rfl⟩, ⟨rfl, by first | rfl | omega⟩, ⟨rfl, by first | rfl | omega⟩, rfl, trivial⟩
    · exact BR.cells (newRho_low (by decide)) rfl (fun h => h) ⟨⟨rfl, by first | rfl | omega⟩, ⟨rfl, by first | rfl | omega⟩, ⟨newRho_low (by decide), by first | rfl | omega, by first | rfl | omega, rfl⟩, ⟨rfl, by first | rfl | omega⟩, ⟨rfl, by first | rfl | omega⟩, rfl, trivial⟩
    · exact BR.cells (newRho_low (by decide)) rfl (fun h => h) ⟨⟨rfl, by first | rfl | omega⟩, ⟨rfl, by first | rfl | omega⟩, ⟨rfl, by first | rfl | omega⟩, ⟨rfl, by first | rfl | omega⟩, rfl, trivial, trivial⟩
    · exact BR.cells (newRho_low (by decide)) rfl (fun h => h) ⟨⟨rfl, by first | rfl | omega⟩, ⟨rfl, by first | rfl | omega⟩, ⟨rfl, by first | rfl | omega⟩, ⟨rfl, by first | rfl | omega⟩, rfl, ⟨newRho_low (by decide), by first | rfl | omega, by first | rfl | omega, rfl⟩, trivial⟩
    · exact BR.gen (newRho_low (by decide)) rfl (fun h => h) rfl (fun p hp => ⟨newRho_low (by decide), rfl, rfl, rfl⟩)
    · intro j k hk; injection hk with hk; subst hk
      exact BR.ig (newRho_low (by decide)) rfl (fun h => h) rfl (fun _ _ => rfl) (fun _ _ => rfl)
    · exact BR.runs (newRho_low (by decide)) rfl (fun h => h) (fun j => newRho_low (by decide))
    · intro j k hk; injection hk with hk; subst hk
      exact BR.ig (newRho_low (by decide)) rfl (fun h => h) rfl (fun _ _ => rfl) (fun _ _ => rfl)
    · exact BR.cells (newRho_low (by decide)) rfl (fun h => h) ⟨⟨rfl, rfl⟩, ⟨rfl, rfl⟩, Nat.sub_self k, trivial⟩
    · exact BR.none (newRho_high (by decide)) rfl rfl (by show (k - k) * 4 = 0; omega)
  · exact ⟨rfl, ⟨newRho_low (by decide), by first | rfl | omega⟩, rfl, ⟨newRho_low (by decide), by first | rfl | omega⟩, rfl, ⟨newRho_low (by decide), by first | rfl | omega⟩, rfl, ⟨newRho_low (by decide), by first | rfl | omega⟩, rfl, ⟨rfl, by first | rfl | omega⟩, rfl, ⟨newRho_low (by decide), by first | rfl | omega⟩, rfl, ⟨rfl, by first | rfl | omega⟩, trivial⟩
end Go.Proofs.Ytohleiikedpmkaa.Vm

namespace Go.Proofs.Ytohleiikedpmkaa.Vm
open Go Go.Proofs Go.Proofs.Ytohleiikedpmkaa
set_option maxRecDepth 100000
noncomputable def LXSbI (rr cw : Nat) (X X2 : Nat → Nat → Int) (ro co ro2 co2 : Int) (hi hi2 : Bool) (i k : Nat) (L : W.Rn) : S0 :=
  ⟨[(2, (.c (.ptr 5 0 0))), (3, (.c (.ptr 21 0 0))), (4, (.c (.ptr 37 0 0))), (5, (.c (.ptr 229 0 0))), (6, (.c (.int .i64 (i : Int)))), (7, (.c (.int .i64 (k : Int))))], [(1, (.one ⟨false, false, (.gen rr (fun j_ => (.sl 2 j_ 0 cw 4)))⟩)), (2, (.many (fun j_ => some ⟨false, false, (.ig (W.rl rr (cw * 4) j_) W.ck (fun p_ => (X j_ p_)))⟩))), (3, (.one ⟨false, false, (.gen rr (fun j_ => (.sl 4 j_ 0 cw 4)))⟩)), (4, (.many (fun j_ => some ⟨false, false, (.ig (W.rl rr (cw * 4) j_) W.ck (fun p_ => (X2 j_ p_)))⟩))), (5, (.one ⟨true, true, (.cells [(.int .i64 (↑rr)), (.int .i64 (↑cw)), (.sl 1 0 0 rr 1), (.int .i64 ro), (.int .i64 co), (.bool hi)])⟩)), (21, (.one ⟨true, true, (.cells [(.int .i64 (↑rr)), (.int .i64 (↑cw)), (.sl 3 0 0 rr 1), (.int .i64 ro2), (.int .i64 co2), (.bool hi2)])⟩)), (37, (.one ⟨true, true, (.cells [(.int .i64 0), (.int .i64 0), (.int .i64 0), (.int .i64 0), (.bool (false)), .nils])⟩)), (229, (.one ⟨true, true, .cells [.int .i64 (rr : Int), .int .i64 (cw : Int), .int .i64 ro2, .int .i64 co2, .bool hi2, .sl 100008 0 0 L.length 3]⟩)), (100008, (.one ⟨true, false, .row (L.length * 3) 3 (fun k_ => [.int .i64 (W.ra L k_ : Int), .int .i64 (W.rb L k_ : Int), .sl 100009 k_ 0 (W.rn L k_) 4])⟩)), (100009, (.many (fun j_ => some ⟨true, false, .ig (W.rn L j_ * 4) W.ck (fun p_ => X2 (W.ra L j_) (p_ + W.rb L j_ * 4))⟩)))], 100016⟩
theorem LXSb_by {α : Type} (I : α → S0) (Inv : α → Prop) (μ : α → Nat) {ex : Ex} {s' : S0} (hex : ex ≠ .normal)
    (step : ∀ x, Inv x → (∃ y, Inv y ∧ μ y < μ x ∧ CodeOk Try.prog 114 100000 (kAt (kOf Try.prog Try.f13) [true, true, true, false, true, false, false, true, false, false, true, false, false]) (I x) .normal (I y)) ∨ CodeOk Try.prog 114 100000 (kAt (kOf Try.prog Try.f13) [true, true, true, false, true, false, false, true, false, false, true, false, false]) (I x) ex s') (x : α) (hx : Inv x) :
    CodeOk Try.prog 114 100000 (kAt (kOf Try.prog Try.f13) [true, true, true, false, true, false, false, true, false, false, true, false]) (I x) ex s' := by
  have hk : (kAt (kOf Try.prog Try.f13) [true, true, true, false, true, false, false, true, false, false, true, false]) = .loop (kAt (kOf Try.prog Try.f13) [true, true, true, false, true, false, false, true, false, false, true, false, false]) := by kernel_rfl
  rw [hk]
  exact CodeOk.loop I Inv μ hex step x hx
theorem LXSb_rtt (rr cw : Nat) (X X2 : Nat → Nat → Int) (ro co ro2 co2 : Int) (hi hi2 : Bool) (i k : Nat) (L : W.Rn)
    (hrr : 1 ≤ rr ∧ rr ≤ 60)
    (hcw : 1 ≤ cw ∧ cw ≤ 120)
    (hil : i < rr)
    (hkl : k ≤ cw)
    (hL : L.length ≤ 9000)
    (h0 : ((↑k : Int) < (↑cw : Int)))
    (h1 : ((X i (k * (4 : Nat)) == X2 i (k * (4 : Nat)) && (X i (k * (4 : Nat) + (1 : Nat)) == X2 i (k * (4 : Nat) + (1 : Nat)) && (X i (k * (4 : Nat) + (2 : Nat)) == X2 i (k * (4 : Nat) + (2 : Nat)) && (X i (k * (4 : Nat) + (3 : Nat)) == X2 i (k * (4 : Nat) + (3 : Nat)) && true)))) = true)) :
    CodeOk Try.prog 114 100000 (kAt (kOf Try.prog Try.f13) [true, true, true, false, true, false, false, true, false, false, true, false, false]) (LXSbI rr cw X X2 ro co ro2 co2 hi hi2 i k L) .normal (LXSbI rr cw X X2 ro co ro2 co2 hi hi2 i (k + 1) L) :=
  CodeOk.of_runs (fuel := 2) (v := ⟨[2, 3, 4, 5, 6, 7], [1, 2, 3, 4, 5, 21, 37, 229, 100008, 100009], [(100008, 100008), (100009, 100009)], 100016⟩) (hs := [(3, ⟨.auto, some (.c (.bool (true)))⟩), (8, ⟨.ask, none⟩), (9, ⟨.ask, none⟩), (11, ⟨.ask, none⟩), (12, ⟨.ask, some (.agg [(.int .i32 (X i (k * 4))), (.int .i64 (X i (k * 4 + 1))), (.int .i64 (X i (k * 4 + 2))), (.int .i64 (X i (k * 4 + 3)))])⟩), (16, ⟨.ask, none⟩), (17, ⟨.ask, none⟩), (19, ⟨.ask, none⟩), (20, ⟨.ask, some (.agg [(.int .i32 (X2 i (k * 4))), (.int .i64 (X2 i (k * 4 + 1))), (.int .i64 (X2 i (k * 4 + 2))), (.int .i64 (X2 i (k * 4 + 3)))])⟩), (21, ⟨.auto, some (.c (.bool (true)))⟩), (24, ⟨.auto, some (.c (.int .i64 (↑(k + 1))))⟩)])
    (cs := [EI .i64 (IntKind.wrap IntKind.i64 ((↑k : Int) + 1)) ((↑(k + 1) : Int)),
      EB (X i (k * 4) == X2 i (k * 4) && (X i (k * 4 + 1) == X2 i (k * 4 + 1) && (X i (k * 4 + 2) == X2 i (k * 4 + 2) && (X i (k * 4 + 3) == X2 i (k * 4 + 3) && true)))) true,
      ((.agg ((List.range 4).map (fun p_ => .int (W.ck (p_ + k * 4)) (X2 i (p_ + k * 4))))) : V) = (.agg [(.int .i32 (X2 i (k * 4))), (.int .i64 (X2 i (k * 4 + 1))), (.int .i64 (X2 i (k * 4 + 2))), (.int .i64 (X2 i (k * 4 + 3)))]),
      (k * (4 : Nat) + (4 : Nat) ≤ W.rl rr (cw * (4 : Nat)) i),
      ((0 : Int) ≤ (↑k : Int) ∧ (↑k : Int) < (↑cw : Int)),
      (i + (1 : Nat) ≤ rr),
      ((0 : Int) ≤ (↑i : Int) ∧ (↑i : Int) < (↑rr : Int)),
      ((.agg ((List.range 4).map (fun p_ => .int (W.ck (p_ + k * 4)) (X i (p_ + k * 4))))) : V) = (.agg [(.int .i32 (X i (k * 4))), (.int .i64 (X i (k * 4 + 1))), (.int .i64 (X i (k * 4 + 2))), (.int .i64 (X i (k * 4 + 3)))]),
      (k * (4 : Nat) + (4 : Nat) ≤ W.rl rr (cw * (4 : Nat)) i),
      ((0 : Int) ≤ (↑k : Int) ∧ (↑k : Int) < (↑cw : Int)),
      (i + (1 : Nat) ≤ rr),
      ((0 : Int) ≤ (↑i : Int) ∧ (↑i : Int) < (↑rr : Int)),
      EB (decide ((↑k : Int) < (↑cw : Int))) true])
    mixed (by kernel_rfl) ⟨.mk (by simp only [addO_eq, mulE_eq, mulE_one, Int.toNat_natCast, IntKind.wrap_i64, mmin, mmax]; omega), .mk h1, EV.ck4 (g := (fun p_ => (X2 i p_))) (o := (k * 4)) (by omega) (by omega), (by rw [rl_lt (by omega)]; omega), (by omega), (by omega), (by omega), EV.ck4 (g := (fun p_ => (X i p_))) (o := (k * 4)) (by omega) (by omega), (by rw [rl_lt (by omega)]; omega), (by omega), (by omega), (by omega), .mk (decide_eq_true h0), trivial⟩
theorem LXSb_rtf (rr cw : Nat) (X X2 : Nat → Nat → Int) (ro co ro2 co2 : Int) (hi hi2 : Bool) (i k : Nat) (L : W.Rn)
    (hrr : 1 ≤ rr ∧ rr ≤ 60)
    (hcw : 1 ≤ cw ∧ cw ≤ 120)
    (hil : i < rr)
    (hkl : k ≤ cw)
    (hL : L.length ≤ 9000)
    (h0 : ((↑k : Int) < (↑cw : Int)))
    (h1 : (¬(X i (k * (4 : Nat)) == X2 i (k * (4 : Nat)) && (X i (k * (4 : Nat) + (1 : Nat)) == X2 i (k * (4 : Nat) + (1 : Nat)) && (X i (k * (4 : Nat) + (2 : Nat)) == X2 i (k * (4 : Nat) + (2 : Nat)) && (X i (k * (4 : Nat) + (3 : Nat)) == X2 i (k * (4 : Nat) + (3 : Nat)) && true)))) = true)) :
    CodeOk Try.prog 114 100000 (kAt (kOf Try.prog Try.f13) [true, true, true, false, true, false, false, true, false, false, true, false, false]) (LXSbI rr cw X X2 ro co ro2 co2 hi hi2 i k L) .normal ⟨[(2, (.c (.ptr 5 0 0))), (3, (.c (.ptr 21 0 0))), (4, (.c (.ptr 37 0 0))), (5, (.c (.ptr 229 0 0))), (6, (.c (.int .i64 (↑i)))), (7, (.c (.int .i64 (↑(W.stopAt X2 X i cw k)))))], [(1, (.one ⟨false, false, (.gen rr (fun j_ => (.sl 2 j_ 0 cw 4)))⟩)), (2, (.many (fun j_ => some ⟨false, false, (.ig (W.rl rr (cw * 4) j_) W.ck (fun p_ => (X j_ p_)))⟩))), (3, (.one ⟨false, false, (.gen rr (fun j_ => (.sl 4 j_ 0 cw 4)))⟩)), (4, (.many (fun j_ => some ⟨false, false, (.ig (W.rl rr (cw * 4) j_) W.ck (fun p_ => (X2 j_ p_)))⟩))), (5, (.one ⟨true, true, (.cells [(.int .i64 (↑rr)), (.int .i64 (↑cw)), (.sl 1 0 0 rr 1), (.int .i64 ro), (.int .i64 co), (.bool hi)])⟩)), (21, (.one ⟨true, true, (.cells [(.int .i64 (↑rr)), (.int .i64 (↑cw)), (.sl 3 0 0 rr 1), (.int .i64 ro2), (.int .i64 co2), (.bool hi2)])⟩)), (37, (.one ⟨true, true, (.cells [(.int .i64 0), (.int .i64 0), (.int .i64 0), (.int .i64 0), (.bool (false)), .nils])⟩)), (229, (.one ⟨true, true, (.cells [(.int .i64 (↑rr)), (.int .i64 (↑cw)), (.int .i64 ro2), (.int .i64 co2), (.bool hi2), (.sl 100000 0 0 (List.length L + 1) 3)])⟩)), (100009, (.many (fun j_ => some ⟨true, false, (.ig (W.rn L j_ * 4) W.ck (fun p_ => (X2 (W.ra L j_) (p_ + W.rb L j_ * 4))))⟩))), (100000, (.one ⟨true, false, (.gen (mulE (List.length L) 3 + 3) (fun j_ => (renC [(100008, 100008), (100009, 100009), (200080, 100000), (200008, 100001)] 100000 (bif Nat.blt j_ (List.length L * 3) then recGet 3 (fun k_ => [C.int IntKind.i64 (↑(W.ra L k_) : Int), C.int IntKind.i64 (↑(W.rb L k_) : Int), C.sl 100009 k_ 0 (W.rn L k_) 4]) (0 + j_) else List.getD (List.take 3 (List.drop 0 [C.int IntKind.i64 (↑i : Int), C.int IntKind.i64 (↑k : Int), C.sl 200008 0 0 (W.stopAt X2 X i cw k - k) 4])) (j_ - List.length L * 3) C.unk))))⟩)), (100001, (.one ⟨true, false, (.ig ((W.stopAt X2 X i cw k - k) * 4) W.ck (fun p_ => (X2 i (p_ + k * 4))))⟩))], 100016⟩ :=
  CodeOk.of_runs (fuel := 2) (v := ⟨[2, 3, 4, 5, 6, 7], [1, 2, 3, 4, 5, 21, 37, 229, 100008, 100009, 200080, 200008], [(100008, 100008), (100009, 100009), (200080, 100000), (200008, 100001)], 100016⟩) (hs := [(3, ⟨.auto, some (.c (.bool (true)))⟩), (8, ⟨.ask, none⟩), (9, ⟨.ask, none⟩), (11, ⟨.ask, none⟩), (12, ⟨.ask, some (.agg [(.int .i32 (X i (k * 4))), (.int .i64 (X i (k * 4 + 1))), (.int .i64 (X i (k * 4 + 2))), (.int .i64 (X i (k * 4 + 3)))])⟩), (16, ⟨.ask, none⟩), (17, ⟨.ask, none⟩), (19, ⟨.ask, none⟩), (20, ⟨.ask, some (.agg [(.int .i32 (X2 i (k * 4))), (.int .i64 (X2 i (k * 4 + 1))), (.int .i64 (X2 i (k * 4 + 2))), (.int .i64 (X2 i (k * 4 + 3)))])⟩), (21, ⟨.auto, some (.c (.bool (false)))⟩), (28, ⟨.sum ⟨[2, 3, 4, 5, 6, 8, 7], [1, 2, 3, 4, 5, 21, 37, 229, 100008, 100009, 100400], [(100400, 190690)], 200000⟩ (.exit 4) (LXScI rr cw X X2 ro co ro2 co2 hi hi2 i (W.stopAt X2 X i cw k) L k (W.stopAt X2 X i cw k - k) fun p => X2 i (p + k * 4)), none⟩), (33, ⟨.ask, some (.c (.sl 200080 0 0 (List.length L + 1) 3))⟩)])
    (cs := [((.c (.sl 200080 0 0 (addO (List.length L) 1) 3)) : V) = (.c (.sl 200080 0 0 (List.length L + 1) 3)),
      ((3 : Nat) ≤ (3 : Nat) ∧ (41 : Nat) * (List.length L + (1 : Nat)) ≤ (4398046511104 : Nat) ∧ (0 : Nat) + List.length L * (3 : Nat) ≤ List.length L * (3 : Nat)),
      CodeOk Try.prog 114 100432 (kAt (kOf Try.prog Try.f13) [true, true, true, false, true, false, false, true, false, false, true, false, false, true, false, true, true, false, false]) (LXScS rr cw X X2 ro co ro2 co2 hi hi2 i L k) (.exit 4) (LXScI rr cw X X2 ro co ro2 co2 hi hi2 i (W.stopAt X2 X i cw k) L k (W.stopAt X2 X i cw k - k) fun p => X2 i (p + k * 4)),
      EB (X i (k * 4) == X2 i (k * 4) && (X i (k * 4 + 1) == X2 i (k * 4 + 1) && (X i (k * 4 + 2) == X2 i (k * 4 + 2) && (X i (k * 4 + 3) == X2 i (k * 4 + 3) && true)))) false,
      ((.agg ((List.range 4).map (fun p_ => .int (W.ck (p_ + k * 4)) (X2 i (p_ + k * 4))))) : V) = (.agg [(.int .i32 (X2 i (k * 4))), (.int .i64 (X2 i (k * 4 + 1))), (.int .i64 (X2 i (k * 4 + 2))), (.int .i64 (X2 i (k * 4 + 3)))]),
      (k * (4 : Nat) + (4 : Nat) ≤ W.rl rr (cw * (4 : Nat)) i),
      ((0 : Int) ≤ (↑k : Int) ∧ (↑k : Int) < (↑cw : Int)),
      (i + (1 : Nat) ≤ rr),
      ((0 : Int) ≤ (↑i : Int) ∧ (↑i : Int) < (↑rr : Int)),
      ((.agg ((List.range 4).map (fun p_ => .int (W.ck (p_ + k * 4)) (X i (p_ + k * 4))))) : V) = (.agg [(.int .i32 (X i (k * 4))), (.int .i64 (X i (k * 4 + 1))), (.int .i64 (X i (k * 4 + 2))), (.int .i64 (X i (k * 4 + 3)))]),
      (k * (4 : Nat) + (4 : Nat) ≤ W.rl rr (cw * (4 : Nat)) i),
      ((0 : Int) ≤ (↑k : Int) ∧ (↑k : Int) < (↑cw : Int)),
      (i + (1 : Nat) ≤ rr),
      ((0 : Int) ≤ (↑i : Int) ∧ (↑i : Int) < (↑rr : Int)),
      EB (decide ((↑k : Int) < (↑cw : Int))) true])
    mixed (by kernel_rfl) ⟨EV.sl (by rfl) (by simp only [addO_eq, mulE_eq, mulE_one, Int.toNat_natCast, IntKind.wrap_i64, mmin, mmax]), (by omega), (CodeOk.mono (rds_cells rr cw X X2 ro co ro2 co2 hi hi2 i L k (by omega) (by omega) (by omega) (by omega) (by omega)) (by decide)), .mk (Bool.eq_false_iff.2 h1), EV.ck4 (g := (fun p_ => (X2 i p_))) (o := (k * 4)) (by omega) (by omega), (by rw [rl_lt (by omega)]; omega), (by omega), (by omega), (by omega), EV.ck4 (g := (fun p_ => (X i p_))) (o := (k * 4)) (by omega) (by omega), (by rw [rl_lt (by omega)]; omega), (by omega), (by omega), (by omega), .mk (decide_eq_true h0), trivial⟩
theorem LXSb_xf (rr cw : Nat) (X X2 : Nat → Nat → Int) (ro co ro2 co2 : Int) (hi hi2 : Bool) (i k : Nat) (L : W.Rn)
    (hrr : 1 ≤ rr ∧ rr ≤ 60)
    (hcw : 1 ≤ cw ∧ cw ≤ 120)
    (hil : i < rr)
    (hkl : k ≤ cw)
    (hL : L.length ≤ 9000)
    (h0 : (¬(↑k : Int) < (↑cw : Int))) :
    CodeOk Try.prog 114 100000 (kAt (kOf Try.prog Try.f13) [true, true, true, false, true, false, false, true, false, false, true, false, false]) (LXSbI rr cw X X2 ro co ro2 co2 hi hi2 i k L) (.exit 2) (LXSbI rr cw X X2 ro co ro2 co2 hi hi2 i k L) :=
  CodeOk.of_runs (fuel := 2) (v := ⟨[2, 3, 4, 5, 6, 7], [1, 2, 3, 4, 5, 21, 37, 229, 100008, 100009], [(100008, 100008), (100009, 100009)], 100016⟩) (hs := [(3, ⟨.auto, some (.c (.bool (false)))⟩)])
    (cs := [EB (decide ((↑k : Int) < (↑cw : Int))) false])
    mixed (by kernel_rfl) ⟨.mk (decide_eq_false h0), trivial⟩
end Go.Proofs.Ytohleiikedpmkaa.Vm

namespace Go.Proofs.Ytohleiikedpmkaa.Vm
open Go Go.Proofs Go.Proofs.Ytohleiikedpmkaa
set_option maxRecDepth 100000
noncomputable def LXDbI (rr cw : Nat) (X : Nat → Nat → Int) (rr2 cw2 : Nat) (X2 : Nat → Nat → Int) (ro2 co2 : Int) (hi2 : Bool) (i k : Nat) (L : W.Rn) : S0 :=
  ⟨[(2, (.c (.ptr 5 0 0))), (3, (.c (.ptr 21 0 0))), (4, (.c (.ptr 37 0 0))), (5, (.c (.ptr 229 0 0))), (6, (.c (.int .i64 (i : Int)))), (7, (.c (.int .i64 (k : Int))))], [(1, (.one ⟨false, false, (.gen rr (fun j_ => (.sl 2 j_ 0 cw 4)))⟩)), (2, (.many (fun j_ => some ⟨false, false, (.ig (W.rl rr (cw * 4) j_) W.ck (fun p_ => (X j_ p_)))⟩))), (3, (.one ⟨false, false, (.gen rr2 (fun j_ => (.sl 4 j_ 0 cw2 4)))⟩)), (4, (.many (fun j_ => some ⟨false, false, (.ig (W.rl rr2 (cw2 * 4) j_) W.ck (fun p_ => (X2 j_ p_)))⟩))), (5, (.one ⟨true, true, (.cells [(.int .i64 (↑rr2)), (.int .i64 (↑cw2)), (.sl 517 0 0 rr2 1), (.int .i64 0), (.int .i64 0), (.bool (false))])⟩)), (21, (.one ⟨true, true, (.cells [(.int .i64 (↑rr2)), (.int .i64 (↑cw2)), (.sl 3 0 0 rr2 1), (.int .i64 ro2), (.int .i64 co2), (.bool hi2)])⟩)), (37, (.one ⟨true, true, (.cells [(.int .i64 0), (.int .i64 0), (.int .i64 0), (.int .i64 0), (.bool (false)), .nils])⟩)), (229, (.one ⟨true, true, .cells [.int .i64 (rr2 : Int), .int .i64 (cw2 : Int), .int .i64 ro2, .int .i64 co2, .bool hi2, .sl 100008 0 0 L.length 3]⟩)), (517, (.one ⟨true, false, (.gen rr2 (fun j_ => (.sl 518 j_ 0 cw2 4)))⟩)), (518, (.many (fun j_ => some ⟨true, true, (.ig (W.rl rr2 (cw2 * 4) j_) W.ck W.blank)⟩))), (100008, (.one ⟨true, false, .row (L.length * 3) 3 (fun k_ => [.int .i64 (W.ra L k_ : Int), .int .i64 (W.rb L k_ : Int), .sl 100009 k_ 0 (W.rn L k_) 4])⟩)), (100009, (.many (fun j_ => some ⟨true, false, .ig (W.rn L j_ * 4) W.ck (fun p_ => X2 (W.ra L j_) (p_ + W.rb L j_ * 4))⟩)))], 100016⟩
theorem LXDb_by {α : Type} (I : α → S0) (Inv : α → Prop) (μ : α → Nat) {ex : Ex} {s' : S0} (hex : ex ≠ .normal)
    (step : ∀ x, Inv x → (∃ y, Inv y ∧ μ y < μ x ∧ CodeOk Try.prog 114 100000 (kAt (kOf Try.prog Try.f13) [true, true, true, false, true, false, false, true, false, false, true, false, false]) (I x) .normal (I y)) ∨ CodeOk Try.prog 114 100000 (kAt (kOf Try.prog Try.f13) [true, true, true, false, true, false, false, true, false, false, true, false, false]) (I x) ex s') (x : α) (hx : Inv x) :
    CodeOk Try.prog 114 100000 (kAt (kOf Try.prog Try.f13) [true, true, true, false, true, false, false, true, false, false, true, false]) (I x) ex s' := by
  have hk : (kAt (kOf Try.prog Try.f13) [true, true, true, false, true, false, false, true, false, false, true, false]) = .loop (kAt (kOf Try.prog Try.f13) [true, true, true, false, true, false, false, true, false, false, true, false, false]) := by kernel_rfl
  rw [hk]
  exact CodeOk.loop I Inv μ hex step x hx
theorem LXDb_rtt (rr cw : Nat) (X : Nat → Nat → Int) (rr2 cw2 : Nat) (X2 : Nat → Nat → Int) (ro2 co2 : Int) (hi2 : Bool) (i k : Nat) (L : W.Rn)
    (hrr2 : 1 ≤ rr2 ∧ rr2 ≤ 60)
    (hcw2 : 1 ≤ cw2 ∧ cw2 ≤ 120)
    (hd : ¬ (rr2 = rr ∧ cw2 = cw))
    (hil : i < rr2)
    (hkl : k ≤ cw2)
    (hL : L.length ≤ 9000)
    (h0 : ((↑k : Int) < (↑cw2 : Int)))
    (h1 : ((W.blank (k * (4 : Nat)) == X2 i (k * (4 : Nat)) && (W.blank (k * (4 : Nat) + (1 : Nat)) == X2 i (k * (4 : Nat) + (1 : Nat)) && (W.blank (k * (4 : Nat) + (2 : Nat)) == X2 i (k * (4 : Nat) + (2 : Nat)) && (W.blank (k * (4 : Nat) + (3 : Nat)) == X2 i (k * (4 : Nat) + (3 : Nat)) && true)))) = true)) :
    CodeOk Try.prog 114 100000 (kAt (kOf Try.prog Try.f13) [true, true, true, false, true, false, false, true, false, false, true, false, false]) (LXDbI rr cw X rr2 cw2 X2 ro2 co2 hi2 i k L) .normal (LXDbI rr cw X rr2 cw2 X2 ro2 co2 hi2 i (k + 1) L) :=
  CodeOk.of_runs (fuel := 2) (v := ⟨[2, 3, 4, 5, 6, 7], [1, 2, 3, 4, 5, 21, 37, 229, 517, 518, 100008, 100009], [(100008, 100008), (100009, 100009)], 100016⟩) (hs := [(3, ⟨.auto, some (.c (.bool (true)))⟩), (8, ⟨.ask, none⟩), (9, ⟨.ask, none⟩), (11, ⟨.ask, none⟩), (12, ⟨.ask, some (.agg [(.int .i32 (W.blank (k * 4))), (.int .i64 (W.blank (k * 4 + 1))), (.int .i64 (W.blank (k * 4 + 2))), (.int .i64 (W.blank (k * 4 + 3)))])⟩), (16, ⟨.ask, none⟩), (17, ⟨.ask, none⟩), (19, ⟨.ask, none⟩), (20, ⟨.ask, some (.agg [(.int .i32 (X2 i (k * 4))), (.int .i64 (X2 i (k * 4 + 1))), (.int .i64 (X2 i (k * 4 + 2))), (.int .i64 (X2 i (k * 4 + 3)))])⟩), (21, ⟨.auto, some (.c (.bool (true)))⟩), (24, ⟨.auto, some (.c (.int .i64 (↑(k + 1))))⟩)])
    (cs := [EI .i64 (IntKind.wrap IntKind.i64 ((↑k : Int) + 1)) ((↑(k + 1) : Int)),
      EB (W.blank (k * 4) == X2 i (k * 4) && (W.blank (k * 4 + 1) == X2 i (k * 4 + 1) && (W.blank (k * 4 + 2) == X2 i (k * 4 + 2) && (W.blank (k * 4 + 3) == X2 i (k * 4 + 3) && true)))) true,
      ((.agg ((List.range 4).map (fun p_ => .int (W.ck (p_ + k * 4)) (X2 i (p_ + k * 4))))) : V) = (.agg [(.int .i32 (X2 i (k * 4))), (.int .i64 (X2 i (k * 4 + 1))), (.int .i64 (X2 i (k * 4 + 2))), (.int .i64 (X2 i (k * 4 + 3)))]),
      (k * (4 : Nat) + (4 : Nat) ≤ W.rl rr2 (cw2 * (4 : Nat)) i),
      ((0 : Int) ≤ (↑k : Int) ∧ (↑k : Int) < (↑cw2 : Int)),
      (i + (1 : Nat) ≤ rr2),
      ((0 : Int) ≤ (↑i : Int) ∧ (↑i : Int) < (↑rr2 : Int)),
      ((.agg ((List.range 4).map (fun p_ => .int (W.ck (p_ + k * 4)) (W.blank (p_ + k * 4))))) : V) = (.agg [(.int .i32 (W.blank (k * 4))), (.int .i64 (W.blank (k * 4 + 1))), (.int .i64 (W.blank (k * 4 + 2))), (.int .i64 (W.blank (k * 4 + 3)))]),
      (k * (4 : Nat) + (4 : Nat) ≤ W.rl rr2 (cw2 * (4 : Nat)) i),
      ((0 : Int) ≤ (↑k : Int) ∧ (↑k : Int) < (↑cw2 : Int)),
      (i + (1 : Nat) ≤ rr2),
      ((0 : Int) ≤ (↑i : Int) ∧ (↑i : Int) < (↑rr2 : Int)),
      EB (decide ((↑k : Int) < (↑cw2 : Int))) true])
    mixed (by kernel_rfl) ⟨.mk (by simp only [addO_eq, mulE_eq, mulE_one, Int.toNat_natCast, IntKind.wrap_i64, mmin, mmax]; omega), .mk h1, EV.ck4 (g := (fun p_ => (X2 i p_))) (o := (k * 4)) (by omega) (by omega), (by rw [rl_lt (by omega)]; omega), (by omega), (by omega), (by omega), EV.ck4 (g := (fun p_ => (W.blank p_))) (o := (k * 4)) (by omega) (by omega), (by rw [rl_lt (by omega)]; omega), (by omega), (by omega), (by omega), .mk (decide_eq_true h0), trivial⟩
theorem LXDb_rtf (rr cw : Nat) (X : Nat → Nat → Int) (rr2 cw2 : Nat) (X2 : Nat → Nat → Int) (ro2 co2 : Int) (hi2 : Bool) (i k : Nat) (L : W.Rn)
    (hrr2 : 1 ≤ rr2 ∧ rr2 ≤ 60)
    (hcw2 : 1 ≤ cw2 ∧ cw2 ≤ 120)
    (hd : ¬ (rr2 = rr ∧ cw2 = cw))
    (hil : i < rr2)
    (hkl : k ≤ cw2)
    (hL : L.length ≤ 9000)
    (h0 : ((↑k : Int) < (↑cw2 : Int)))
    (h1 : (¬(W.blank (k * (4 : Nat)) == X2 i (k * (4 : Nat)) && (W.blank (k * (4 : Nat) + (1 : Nat)) == X2 i (k * (4 : Nat) + (1 : Nat)) && (W.blank (k * (4 : Nat) + (2 : Nat)) == X2 i (k * (4 : Nat) + (2 : Nat)) && (W.blank (k * (4 : Nat) + (3 : Nat)) == X2 i (k * (4 : Nat) + (3 : Nat)) && true)))) = true)) :
    CodeOk Try.prog 114 100000 (kAt (kOf Try.prog Try.f13) [true, true, true, false, true, false, false, true, false, false, true, false, false]) (LXDbI rr cw X rr2 cw2 X2 ro2 co2 hi2 i k L) .normal ⟨[(2, (.c (.ptr 5 0 0))), (3, (.c (.ptr 21 0 0))), (4, (.c (.ptr 37 0 0))), (5, (.c (.ptr 229 0 0))), (6, (.c (.int .i64 (↑i)))), (7, (.c (.int .i64 (↑(W.stopAt X2 (fun x => W.blank) i cw2 k)))))], [(1, (.one ⟨false, false, (.gen rr (fun j_ => (.sl 2 j_ 0 cw 4)))⟩)), (2, (.many (fun j_ => some ⟨false, false, (.ig (W.rl rr (cw * 4) j_) W.ck (fun p_ => (X j_ p_)))⟩))), (3, (.one ⟨false, false, (.gen rr2 (fun j_ => (.sl 4 j_ 0 cw2 4)))⟩)), (4, (.many (fun j_ => some ⟨false, false, (.ig (W.rl rr2 (cw2 * 4) j_) W.ck (fun p_ => (X2 j_ p_)))⟩))), (5, (.one ⟨true, true, (.cells [(.int .i64 (↑rr2)), (.int .i64 (↑cw2)), (.sl 517 0 0 rr2 1), (.int .i64 0), (.int .i64 0), (.bool (false))])⟩)), (21, (.one ⟨true, true, (.cells [(.int .i64 (↑rr2)), (.int .i64 (↑cw2)), (.sl 3 0 0 rr2 1), (.int .i64 ro2), (.int .i64 co2), (.bool hi2)])⟩)), (37, (.one ⟨true, true, (.cells [(.int .i64 0), (.int .i64 0), (.int .i64 0), (.int .i64 0), (.bool (false)), .nils])⟩)), (229, (.one ⟨true, true, (.cells [(.int .i64 (↑rr2)), (.int .i64 (↑cw2)), (.int .i64 ro2), (.int .i64 co2), (.bool hi2), (.sl 100000 0 0 (List.length L + 1) 3)])⟩)), (517, (.one ⟨true, false, (.gen rr2 (fun j_ => (.sl 518 j_ 0 cw2 4)))⟩)), (518, (.many (fun j_ => some ⟨true, true, (.ig (W.rl rr2 (cw2 * 4) j_) W.ck W.blank)⟩))), (100009, (.many (fun j_ => some ⟨true, false, (.ig (W.rn L j_ * 4) W.ck (fun p_ => (X2 (W.ra L j_) (p_ + W.rb L j_ * 4))))⟩))), (100000, (.one ⟨true, false, (.gen (mulE (List.length L) 3 + 3) (fun j_ => (renC [(100008, 100008), (100009, 100009), (200080, 100000), (200008, 100001)] 100000 (bif Nat.blt j_ (List.length L * 3) then recGet 3 (fun k_ => [C.int IntKind.i64 (↑(W.ra L k_) : Int), C.int IntKind.i64 (↑(W.rb L k_) : Int), C.sl 100009 k_ 0 (W.rn L k_) 4]) (0 + j_) else List.getD (List.take 3 (List.drop 0 [C.int IntKind.i64 (↑i : Int), C.int IntKind.i64 (↑k : Int), C.sl 200008 0 0 (W.stopAt X2 (fun x => W.blank) i cw2 k - k) 4])) (j_ - List.length L * 3) C.unk))))⟩)), (100001, (.one ⟨true, false, (.ig ((W.stopAt X2 (fun x => W.blank) i cw2 k - k) * 4) W.ck (fun p_ => (X2 i (p_ + k * 4))))⟩))], 100016⟩ :=
  CodeOk.of_runs (fuel := 2) (v := ⟨[2, 3, 4, 5, 6, 7], [1, 2, 3, 4, 5, 21, 37, 229, 517, 518, 100008, 100009, 200080, 200008], [(100008, 100008), (100009, 100009), (200080, 100000), (200008, 100001)], 100016⟩) (hs := [(3, ⟨.auto, some (.c (.bool (true)))⟩), (8, ⟨.ask, none⟩), (9, ⟨.ask, none⟩), (11, ⟨.ask, none⟩), (12, ⟨.ask, some (.agg [(.int .i32 (W.blank (k * 4))), (.int .i64 (W.blank (k * 4 + 1))), (.int .i64 (W.blank (k * 4 + 2))), (.int .i64 (W.blank (k * 4 + 3)))])⟩), (16, ⟨.ask, none⟩), (17, ⟨.ask, none⟩), (19, ⟨.ask, none⟩), (20, ⟨.ask, some (.agg [(.int .i32 (X2 i (k * 4))), (.int .i64 (X2 i (k * 4 + 1))), (.int .i64 (X2 i (k * 4 + 2))), (.int .i64 (X2 i (k * 4 + 3)))])⟩), (21, ⟨.auto, some (.c (.bool (false)))⟩), (28, ⟨.sum ⟨[2, 3, 4, 5, 6, 8, 7], [1, 2, 3, 4, 5, 21, 37, 229, 517, 518, 100008, 100009, 100400], [(100400, 190690)], 200000⟩ (.exit 4) (LXDcI rr cw X rr2 cw2 X2 ro2 co2 hi2 i (W.stopAt X2 (fun x => W.blank) i cw2 k) L k (W.stopAt X2 (fun x => W.blank) i cw2 k - k) fun p => X2 i (p + k * 4)), none⟩), (33, ⟨.ask, some (.c (.sl 200080 0 0 (List.length L + 1) 3))⟩)])
    (cs := [((.c (.sl 200080 0 0 (addO (List.length L) 1) 3)) : V) = (.c (.sl 200080 0 0 (List.length L + 1) 3)),
      ((3 : Nat) ≤ (3 : Nat) ∧ (41 : Nat) * (List.length L + (1 : Nat)) ≤ (4398046511104 : Nat) ∧ (0 : Nat) + List.length L * (3 : Nat) ≤ List.length L * (3 : Nat)),
      CodeOk Try.prog 114 100432 (kAt (kOf Try.prog Try.f13) [true, true, true, false, true, false, false, true, false, false, true, false, false, true, false, true, true, false, false]) (LXDcS rr cw X rr2 cw2 X2 ro2 co2 hi2 i L k) (.exit 4) (LXDcI rr cw X rr2 cw2 X2 ro2 co2 hi2 i (W.stopAt X2 (fun x => W.blank) i cw2 k) L k (W.stopAt X2 (fun x => W.blank) i cw2 k - k) fun p => X2 i (p + k * 4)),
      EB (W.blank (k * 4) == X2 i (k * 4) && (W.blank (k * 4 + 1) == X2 i (k * 4 + 1) && (W.blank (k * 4 + 2) == X2 i (k * 4 + 2) && (W.blank (k * 4 + 3) == X2 i (k * 4 + 3) && true)))) false,
      ((.agg ((List.range 4).map (fun p_ => .int (W.ck (p_ + k * 4)) (X2 i (p_ + k * 4))))) : V) = (.agg [(.int .i32 (X2 i (k * 4))), (.int .i64 (X2 i (k * 4 + 1))), (.int .i64 (X2 i (k * 4 + 2))), (.int .i64 (X2 i (k * 4 + 3)))]),
      (k * (4 : Nat) + (4 : Nat) ≤ W.rl rr2 (cw2 * (4 : Nat)) i),
      ((0 : Int) ≤ (↑k : Int) ∧ (↑k : Int) < (↑cw2 : Int)),
      (i + (1 : Nat) ≤ rr2),
      ((0 : Int) ≤ (↑i : Int) ∧ (↑i : Int) < (↑rr2 : Int)),
      ((.agg ((List.range 4).map (fun p_ => .int (W.ck (p_ + k * 4)) (W.blank (p_ + k * 4))))) : V) = (.agg [(.int .i32 (W.blank (k * 4))), (.int .i64 (W.blank (k * 4 + 1))), (.int .i64 (W.blank (k * 4 + 2))), (.int .i64 (W.blank (k * 4 + 3)))]),
      (k * (4 : Nat) + (4 : Nat) ≤ W.rl rr2 (cw2 * (4 : Nat)) i),
      ((0 : Int) ≤ (↑k : Int) ∧ (↑k : Int) < (↑cw2 : Int)),
      (i + (1 : Nat) ≤ rr2),
      ((0 : Int) ≤ (↑i : Int) ∧ (↑i : Int) < (↑rr2 : Int)),
      EB (decide ((↑k : Int) < (↑cw2 : Int))) true])
    mixed (by kernel_rfl) ⟨EV.sl (by rfl) (by simp only [addO_eq, mulE_eq, mulE_one, Int.toNat_natCast, IntKind.wrap_i64, mmin, mmax]), (by omega), (CodeOk.mono (rdd_cells rr cw X rr2 cw2 X2 ro2 co2 hi2 i L k (by omega) (by omega) (by omega) (by omega) (by omega) (by omega)) (by decide)), .mk (Bool.eq_false_iff.2 h1), EV.ck4 (g := (fun p_ => (X2 i p_))) (o := (k * 4)) (by omega) (by omega), (by rw [rl_lt (by omega)]; omega), (by omega), (by omega), (by omega), EV.ck4 (g := (fun p_ => (W.blank p_))) (o := (k * 4)) (by omega) (by omega), (by rw [rl_lt (by omega)]; omega), (by omega), (by omega), (by omega), .mk (decide_eq_true h0), trivial⟩
theorem LXDb_xf (rr cw : Nat) (X : Nat → Nat → Int) (rr2 cw2 : Nat) (X2 : Nat → Nat → Int) (ro2 co2 : Int) (hi2 : Bool) (i k : Nat) (L : W.Rn)
    (hrr2 : 1 ≤ rr2 ∧ rr2 ≤ 60)
    (hcw2 : 1 ≤ cw2 ∧ cw2 ≤ 120)
    (hd : ¬ (rr2 = rr ∧ cw2 = cw))
    (hil : i < rr2)
    (hkl : k ≤ cw2)
    (hL : L.length ≤ 9000)
    (h0 : (¬(↑k : Int) < (↑cw2 : Int))) :
    CodeOk Try.prog 114 100000 (kAt (kOf Try.prog Try.f13) [true, true, true, false, true, false, false, true, false, false, true, false, false]) (LXDbI rr cw X rr2 cw2 X2 ro2 co2 hi2 i k L) (.exit 2) (LXDbI rr cw X rr2 cw2 X2 ro2 co2 hi2 i k L) :=
  CodeOk.of_runs (fuel := 2) (v := ⟨[2, 3, 4, 5, 6, 7], [1, 2, 3, 4, 5, 21, 37, 229, 517, 518, 100008, 100009], [(100008, 100008), (100009, 100009)], 100016⟩) (hs := [(3, ⟨.auto, some (.c (.bool (false)))⟩)])
    (cs := [EB (decide ((↑k : Int) < (↑cw2 : Int))) false])
    mixed (by kernel_rfl) ⟨.mk (decide_eq_false h0), trivial⟩
end Go.Proofs.Ytohleiikedpmkaa.Vm

namespace Go.Proofs.Ytohleiikedpmkaa.W
open Go Go.Proofs.Ytohleiikedpmkaa.Vm
theorem rowRuns_fuel (Y Z : Nat → Nat → Int) (j cw : Nat) : ∀ n m k L, cw - k ≤ n → cw - k ≤ m → rowRuns Y Z j cw n k L = rowRuns Y Z j cw m k L
  | 0, m, k, L, h, _ => by rw [rowRuns_ge (by omega), rowRuns_ge (by omega)]
  | n + 1, 0, k, L, _, h => by rw [rowRuns_ge (by omega), rowRuns_ge (by omega)]
  | n + 1, m + 1, k, L, h1, h2 => by
    show (bif Nat.blt k cw then rowRuns Y Z j cw n (stopAt Y Z j cw k + 1) (bif Nat.blt k (stopAt Y Z j cw k) then L ++ [(j, k, stopAt Y Z j cw k - k)] else L) else L) = (bif Nat.blt k cw then rowRuns Y Z j cw m (stopAt Y Z j cw k + 1) (bif Nat.blt k (stopAt Y Z j cw k) then L ++ [(j, k, stopAt Y Z j cw k - k)] else L) else L)
    by_cases h : k < cw
    · have s := (stopAt_spec Y Z j (Nat.le_of_lt h)).1
      rw [rowRuns_fuel Y Z j cw n m _ _ (by omega) (by omega)]
    · rw [bltF h]; rfl
theorem rowRuns_eq {Y Z : Nat → Nat → Int} {j cw k : Nat} {L : Rn} (h : k < cw) (he : eqc Y Z j k = true) : rowRuns Y Z j cw cw k L = rowRuns Y Z j cw cw (k + 1) L := by
  have hs : stopAt Y Z j cw k = k := by
    obtain ⟨s1, s2, s3, s4⟩ := stopAt_spec Y Z j (Nat.le_of_lt h)
    by_cases e : k < stopAt Y Z j cw k
    · have := s3 k (Nat.le_refl _) e
      rw [he] at this; simp at this
    · omega
  obtain ⟨c, rfl⟩ : ∃ c, cw = c + 1 := ⟨cw - 1, by omega⟩
  have e : rowRuns Y Z j (c + 1) (c + 1) k L = rowRuns Y Z j (c + 1) c (k + 1) L := by
    show (bif Nat.blt k (c + 1) then rowRuns Y Z j (c + 1) c (stopAt Y Z j (c + 1) k + 1) (bif Nat.blt k (stopAt Y Z j (c + 1) k) then L ++ [(j, k, stopAt Y Z j (c + 1) k - k)] else L) else L) = _
    rw [bltT h, hs, bltF (by omega)]; rfl
  rw [e]
  exact rowRuns_fuel Y Z j _ _ _ _ _ (by omega) (by omega)
theorem rowRuns_ne {Y Z : Nat → Nat → Int} {j cw k : Nat} {L : Rn} (h : k < cw) (he : eqc Y Z j k = false) : k < stopAt Y Z j cw k ∧ rowRuns Y Z j cw cw k L = rowRuns Y Z j cw cw (stopAt Y Z j cw k) (L ++ [(j, k, stopAt Y Z j cw k - k)]) := by
  obtain ⟨s1, s2, s3, s4⟩ := stopAt_spec Y Z j (Nat.le_of_lt h)
  have hs : k < stopAt Y Z j cw k := by
    rcases (by omega : k < stopAt Y Z j cw k ∨ stopAt Y Z j cw k = k) with e | e
    · exact e
    · rw [e] at s4
      rcases s4 with s4 | s4
      · omega
      · rw [he] at s4; simp at s4
  refine ⟨hs, ?_⟩
  obtain ⟨c, rfl⟩ : ∃ c, cw = c + 1 := ⟨cw - 1, by omega⟩
  have e : rowRuns Y Z j (c + 1) (c + 1) k L = rowRuns Y Z j (c + 1) c (stopAt Y Z j (c + 1) k + 1) (L ++ [(j, k, stopAt Y Z j (c + 1) k - k)]) := by
    show (bif Nat.blt k (c + 1) then rowRuns Y Z j (c + 1) c (stopAt Y Z j (c + 1) k + 1) (bif Nat.blt k (stopAt Y Z j (c + 1) k) then L ++ [(j, k, stopAt Y Z j (c + 1) k - k)] else L) else L) = _
    rw [bltT h, bltT hs]; rfl
  rw [e]
  by_cases hl : stopAt Y Z j (c + 1) k < c + 1
  · rw [rowRuns_eq hl (s4.resolve_left (by omega))]
    exact rowRuns_fuel Y Z j _ _ _ _ _ (by omega) (by omega)
  · rw [rowRuns_ge (by omega), rowRuns_ge (by omega)]
end Go.Proofs.Ytohleiikedpmkaa.W
namespace Go.Proofs.Ytohleiikedpmkaa.Vm
open Go Go.Proofs Go.Proofs.Ytohleiikedpmkaa
theorem rds_mid (rr cw : Nat) (X X2 : Nat → Nat → Int) (ro co ro2 co2 : Int) (hi hi2 : Bool) (i : Nat) (L : W.Rn) (hrr : 1 ≤ rr ∧ rr ≤ 60) (hcw : 1 ≤ cw ∧ cw ≤ 120) (hil : i < rr) (hL : L.length ≤ 122 * i) :
    CodeOk Try.prog 114 100000 (kAt (kOf Try.prog Try.f13) [true, true, true, false, true, false, false, true, false, false, true, false]) (LXSbI rr cw X X2 ro co ro2 co2 hi hi2 i 0 L) (.exit 2) (LXSbI rr cw X X2 ro co ro2 co2 hi hi2 i cw (W.rowRuns X2 X i cw cw 0 L)) := by
  have hfin : ∀ k M, k = cw → W.rowRuns X2 X i cw cw k M = M := fun k M e => W.rowRuns_ge (by omega)
  generalize hG : W.rowRuns X2 X i cw cw 0 L = G
  refine LXSb_by (fun x : Nat × W.Rn => LXSbI rr cw X X2 ro co ro2 co2 hi hi2 i x.1 x.2) (fun x => x.1 ≤ cw ∧ x.2.length ≤ 122 * i + x.1 ∧ W.rowRuns X2 X i cw cw x.1 x.2 = G) (fun x => cw - x.1) (by simp) ?_ (0, L) ⟨Nat.zero_le _, hL, hG⟩
  intro ⟨k, M⟩ ⟨hk, hM, hq⟩
  have hk : k ≤ cw := hk
  have hM : M.length ≤ 122 * i + k := hM
  have hq : W.rowRuns X2 X i cw cw k M = G := hq
  by_cases h0 : k < cw
  · cases he : W.eqc X2 X i k with
    | true =>
      refine .inl ⟨(k + 1, M), ⟨h0, by show M.length ≤ 122 * i + (k + 1); omega, by rw [← hq]; exact (W.rowRuns_eq h0 he).symm⟩, by show cw - (k + 1) < cw - k; omega, ?_⟩
      exact LXSb_rtt rr cw X X2 ro co ro2 co2 hi hi2 i k M hrr hcw hil (by omega) (by omega) (by omega) (by show W.eqc X X2 i k = true; rw [W.eqc_comm]; exact he)
    | false =>
      obtain ⟨g1, g2⟩ := W.rowRuns_ne (L := M) h0 he
      have g3 := (W.stopAt_spec X2 X i (Nat.le_of_lt h0)).2.1
      have key := LXSb_rtf rr cw X X2 ro co ro2 co2 hi hi2 i k M hrr hcw hil (by omega) (by omega) (by omega) (by show ¬ W.eqc X X2 i k = true; rw [W.eqc_comm, he]; simp)
      generalize W.stopAt X2 X i cw k = S at g1 g2 g3 key
      refine .inl ⟨(S, M ++ [(i, k, S - k)]), ⟨g3, by show (M ++ [(i, k, S - k)]).length ≤ 122 * i + S; rw [List.length_append]; simp; omega, by rw [← hq]; exact g2.symm⟩, by show cw - S < cw - k; omega, ?_⟩
      show CodeOk Try.prog 114 100000 (kAt (kOf Try.prog Try.f13) [true, true, true, false, true, false, false, true, false, false, true, false, false]) (LXSbI rr cw X X2 ro co ro2 co2 hi hi2 i k M) .normal (LXSbI rr cw X X2 ro co ro2 co2 hi hi2 i S (M ++ [(i, k, S - k)]))
      refine key.move (Move.grow (H := 100008) (h' := 100000) (F := 100009) (N := 100001) (i := M.length) (by decide) (show 100000 ≤ 100016 ∧ 100008 < 100016 ∧ 100009 < 100016 by decide) (by decide) (by decide) ?_ ?_)
      · refine ⟨?_, ?_, ?_, ?_, ?_, ?_, ?_, ?_, ?_, ?_, trivial⟩
        · exact BR.gen (growRho_low (by decide)) rfl (fun h => h) rfl (fun p hp => ⟨growRho_low (by decide), rfl, rfl, rfl⟩)
        · intro j k hk; injection hk with hk; subst hk
          exact BR.ig (growRho_low (by decide)) rfl (fun h => h) rfl (fun _ _ => rfl) (fun _ _ => rfl)
        · exact BR.gen (growRho_low (by decide)) rfl (fun h => h) rfl (fun p hp => ⟨growRho_low (by decide), rfl, rfl, rfl⟩)
        · intro j k hk; injection hk with hk; subst hk
          exact BR.ig (growRho_low (by decide)) rfl (fun h => h) rfl (fun _ _ => rfl) (fun _ _ => rfl)
        · exact BR.cells (growRho_low (by decide)) rfl (fun h => h) ⟨⟨rfl, by first | rfl | omega⟩, ⟨rfl, by first | rfl | omega⟩, ⟨growRho_low (by decide), by first | rfl | omega, by first | rfl | omega, rfl⟩, ⟨rfl, by first | rfl | omega⟩, ⟨rfl, by first | rfl | omega⟩, rfl, trivial⟩
        · exact BR.cells (growRho_low (by decide)) rfl (fun h => h) ⟨⟨rfl, by first | rfl | omega⟩, ⟨rfl, by first | rfl | omega⟩, ⟨growRho_low (by decide), by first | rfl | omega, by first | rfl | omega, rfl⟩, ⟨rfl, by first | rfl | omega⟩, ⟨rfl, by first | rfl | omega⟩, rfl, trivial⟩
        · exact BR.cells (growRho_low (by decide)) rfl (fun h => h) ⟨⟨rfl, by first | rfl | omega⟩, ⟨rfl, by first | rfl | omega⟩, ⟨rfl, by first | rfl | omega⟩, ⟨rfl, by first | rfl | omega⟩, rfl, trivial, trivial⟩
        · exact BR.cells (growRho_low (by decide)) rfl (fun h => h) ⟨⟨rfl, rfl⟩, ⟨rfl, rfl⟩, ⟨rfl, rfl⟩, ⟨rfl, rfl⟩, rfl, ⟨growRho_H (by decide), rfl, by rw [List.length_append]; rfl, rfl⟩, trivial⟩
        · refine .inl ⟨100000, 0, _, growRho_H (by decide), rfl, rfl, fun h => h, ?_, fun j hj => ?_⟩
          · show (M ++ [(i, k, S - k)]).length * 3 = M.length * 3 + 3
            rw [List.length_append]; simp; omega
          · have hj : j < M.length * 3 + 3 := hj
            exact run_cell (by omega) (by decide) (by decide) rfl rfl
        · exact run_row (by decide) (by decide) (fun j => rfl) rfl (fun h => h)
      · exact ⟨rfl, ⟨growRho_low (by decide), by first | rfl | omega⟩, rfl, ⟨growRho_low (by decide), by first | rfl | omega⟩, rfl, ⟨growRho_low (by decide), by first | rfl | omega⟩, rfl, ⟨growRho_low (by decide), by first | rfl | omega⟩, rfl, ⟨rfl, by first | rfl | omega⟩, rfl, ⟨rfl, by first | rfl | omega⟩, trivial⟩
  · have e : k = cw := by omega
    have e2 := hfin k M e
    rw [e2] at hq
    have x := LXSb_xf rr cw X X2 ro co ro2 co2 hi hi2 i k M hrr hcw hil (by omega) (by omega) (by omega)
    refine .inr ?_
    show CodeOk Try.prog 114 100000 (kAt (kOf Try.prog Try.f13) [true, true, true, false, true, false, false, true, false, false, true, false, false]) (LXSbI rr cw X X2 ro co ro2 co2 hi hi2 i k M) _ _
    rw [← hq]
    rw [e] at x ⊢
    exact x
theorem rdd_mid (rr cw : Nat) (X : Nat → Nat → Int) (rr2 cw2 : Nat) (X2 : Nat → Nat → Int) (ro2 co2 : Int) (hi2 : Bool) (i : Nat) (L : W.Rn) (hrr2 : 1 ≤ rr2 ∧ rr2 ≤ 60) (hcw2 : 1 ≤ cw2 ∧ cw2 ≤ 120) (hd : ¬ (rr2 = rr ∧ cw2 = cw)) (hil : i < rr2) (hL : L.length ≤ 122 * i) :
    CodeOk Try.prog 114 100000 (kAt (kOf Try.prog Try.f13) [true, true, true, false, true, false, false, true, false, false, true, false]) (LXDbI rr cw X rr2 cw2 X2 ro2 co2 hi2 i 0 L) (.exit 2) (LXDbI rr cw X rr2 cw2 X2 ro2 co2 hi2 i cw2 (W.rowRuns X2 (fun _ => W.blank) i cw2 cw2 0 L)) := by
  have hfin : ∀ k M, k = cw2 → W.rowRuns X2 (fun _ => W.blank) i cw2 cw2 k M = M := fun k M e => W.rowRuns_ge (by omega)
  generalize hG : W.rowRuns X2 (fun _ => W.blank) i cw2 cw2 0 L = G
  refine LXDb_by (fun x : Nat × W.Rn => LXDbI rr cw X rr2 cw2 X2 ro2 co2 hi2 i x.1 x.2) (fun x => x.1 ≤ cw2 ∧ x.2.length ≤ 122 * i + x.1 ∧ W.rowRuns X2 (fun _ => W.blank) i cw2 cw2 x.1 x.2 = G) (fun x => cw2 - x.1) (by simp) ?_ (0, L) ⟨Nat.zero_le _, hL, hG⟩
  intro ⟨k, M⟩ ⟨hk, hM, hq⟩
  have hk : k ≤ cw2 := hk
  have hM : M.length ≤ 122 * i + k := hM
  have hq : W.rowRuns X2 (fun _ => W.blank) i cw2 cw2 k M = G := hq
  by_cases h0 : k < cw2
  · cases he : W.eqc X2 (fun _ => W.blank) i k with
    | true =>
      refine .inl ⟨(k + 1, M), ⟨h0, by show M.length ≤ 122 * i + (k + 1); omega, by rw [← hq]; exact (W.rowRuns_eq h0 he).symm⟩, by show cw2 - (k + 1) < cw2 - k; omega, ?_⟩
      exact LXDb_rtt rr cw X rr2 cw2 X2 ro2 co2 hi2 i k M hrr2 hcw2 hd hil (by omega) (by omega) (by omega) (by show W.eqc (fun _ => W.blank) X2 i k = true; rw [W.eqc_comm]; exact he)
    | false =>
      obtain ⟨g1, g2⟩ := W.rowRuns_ne (L := M) h0 he
      have g3 := (W.stopAt_spec X2 (fun _ => W.blank) i (Nat.le_of_lt h0)).2.1
      have key := LXDb_rtf rr cw X rr2 cw2 X2 ro2 co2 hi2 i k M hrr2 hcw2 hd hil (by omega) (by omega) (by omega) (by show ¬ W.eqc (fun _ => W.blank) X2 i k = true; rw [W.eqc_comm, he]; simp)
      generalize W.stopAt X2 (fun _ => W.blank) i cw2 k = S at g1 g2 g3 key
      refine .inl ⟨(S, M ++ [(i, k, S - k)]), ⟨g3, by show (M ++ [(i, k, S - k)]).length ≤ 122 * i + S; rw [List.length_append]; simp; omega, by rw [← hq]; exact g2.symm⟩, by show cw2 - S < cw2 - k; omega, ?_⟩
      show CodeOk Try.prog 114 100000 (kAt (kOf Try.prog Try.f13) [true, true, true, false, true, false, false, true, false, false, true, false, false]) (LXDbI rr cw X rr2 cw2 X2 ro2 co2 hi2 i k M) .normal (LXDbI rr cw X rr2 cw2 X2 ro2 co2 hi2 i S (M ++ [(i, k, S - k)]))
      refine key.move (Move.grow (H := 100008) (h' := 100000) (F := 100009) (N := 100001) (i := M.length) (by decide) (show 100000 ≤ 100016 ∧ 100008 < 100016 ∧ 100009 < 100016 by decide) (by decide) (by decide) ?_ ?_)
      · refine ⟨?_, ?_, ?_, ?_, ?_, ?_, ?_, ?_, ?_, ?_, ?_, ?_, trivial⟩
        · exact BR.gen (growRho_low (by decide)) rfl (fun h => h) rfl (fun p hp => ⟨growRho_low (by decide), rfl, rfl, rfl⟩)
        · intro j k hk; injection hk with hk; subst hk
          exact BR.ig (growRho_low (by decide)) rfl (fun h => h) rfl (fun _ _ => rfl) (fun _ _ => rfl)
        · exact BR.gen (growRho_low (by decide)) rfl (fun h => h) rfl (fun p hp => ⟨growRho_low (by decide), rfl, rfl, rfl⟩)
        · intro j k hk; injection hk with hk; subst hk
          exact BR.ig (growRho_low (by decide)) rfl (fun h => h) rfl (fun _ _ => rfl) (fun _ _ => rfl)
        · exact BR.cells (growRho_low (by decide)) rfl (fun h => h) ⟨⟨rfl, by first | rfl | omega⟩, ⟨rfl, by first | rfl | omega⟩, ⟨growRho_low (by decide), by first | rfl | omega, by first | rfl | omega, rfl⟩, ⟨rfl, by first | rfl | omega⟩, ⟨rfl, by first | rfl | omega⟩, rfl, trivial⟩
        · exact BR.cells (growRho_low (by decide)) rfl (fun h => h) ⟨⟨rfl, by first | rfl | omega⟩, ⟨rfl, by first | rfl | omega⟩, ⟨growRho_low (by decide), by first | rfl | omega, by first | rfl | omega, rfl⟩, ⟨rfl, by first | rfl | omega⟩, ⟨rfl, by first | rfl | omega⟩, rfl, trivial⟩
        · exact BR.cells (growRho_low (by decide)) rfl (fun h => h) ⟨⟨rfl, by first | rfl | omega⟩, ⟨rfl, by first | rfl | omega⟩, ⟨rfl, by first | rfl | omega⟩, ⟨rfl, by first | rfl | omega⟩, rfl, trivial, trivial⟩
        · exact BR.cells (growRho_low (by decide)) rfl (fun h => h) ⟨⟨rfl, rfl⟩, ⟨rfl, rfl⟩, ⟨rfl, rfl⟩, ⟨rfl, rfl⟩, rfl, ⟨growRho_H (by decide), rfl, by rw [List.length_append]; rfl, rfl⟩, trivial⟩
        · exact BR.gen (growRho_low (by decide)) rfl (fun h => h) rfl (fun p hp => ⟨growRho_low (by decide), rfl, rfl, rfl⟩)
        · intro j k hk; injection hk with hk; subst hk
          exact BR.ig (growRho_low (by decide)) rfl (fun h => h) rfl (fun _ _ => rfl) (fun _ _ => rfl)
        · refine .inl ⟨100000, 0, _, growRho_H (by decide), rfl, rfl, fun h => h, ?_, fun j hj => ?_⟩
          · show (M ++ [(i, k, S - k)]).length * 3 = M.length * 3 + 3
            rw [List.length_append]; simp; omega
          · have hj : j < M.length * 3 + 3 := hj
            exact run_cell (by omega) (by decide) (by decide) rfl rfl
        · exact run_row (by decide) (by decide) (fun j => rfl) rfl (fun h => h)
      · exact ⟨rfl, ⟨growRho_low (by decide), by first | rfl | omega⟩, rfl, ⟨growRho_low (by decide), by first | rfl | omega⟩, rfl, ⟨growRho_low (by decide), by first | rfl | omega⟩, rfl, ⟨growRho_low (by decide), by first | rfl | omega⟩, rfl, ⟨rfl, by first | rfl | omega⟩, rfl, ⟨rfl, by first | rfl | omega⟩, trivial⟩
  · have e : k = cw2 := by omega
    have e2 := hfin k M e
    rw [e2] at hq
    have x := LXDb_xf rr cw X rr2 cw2 X2 ro2 co2 hi2 i k M hrr2 hcw2 hd hil (by omega) (by omega) (by omega)
    refine .inr ?_
    show CodeOk Try.prog 114 100000 (kAt (kOf Try.prog Try.f13) [true, true, true, false, true, false, false, true, false, false, true, false, false]) (LXDbI rr cw X rr2 cw2 X2 ro2 co2 hi2 i k M) _ _
    rw [← hq]
    rw [e] at x ⊢
    exact x
end Go.Proofs.Ytohleiikedpmkaa.Vm

namespace Go.Proofs.Ytohleiikedpmkaa.Vm
open Go Go.Proofs Go.Proofs.Ytohleiikedpmkaa
set_option maxRecDepth 100000
noncomputable def LXSaI (rr cw : Nat) (X X2 : Nat → Nat → Int) (ro co ro2 co2 : Int) (hi hi2 : Bool) (i : Nat) (L : W.Rn) : S0 :=
  ⟨[(2, (.c (.ptr 5 0 0))), (3, (.c (.ptr 21 0 0))), (4, (.c (.ptr 37 0 0))), (5, (.c (.ptr 229 0 0))), (6, (.c (.int .i64 (i : Int))))], [(1, (.one ⟨false, false, (.gen rr (fun j_ => (.sl 2 j_ 0 cw 4)))⟩)), (2, (.many (fun j_ => some ⟨false, false, (.ig (W.rl rr (cw * 4) j_) W.ck (fun p_ => (X j_ p_)))⟩))), (3, (.one ⟨false, false, (.gen rr (fun j_ => (.sl 4 j_ 0 cw 4)))⟩)), (4, (.many (fun j_ => some ⟨false, false, (.ig (W.rl rr (cw * 4) j_) W.ck (fun p_ => (X2 j_ p_)))⟩))), (5, (.one ⟨true, true, (.cells [(.int .i64 (↑rr)), (.int .i64 (↑cw)), (.sl 1 0 0 rr 1), (.int .i64 ro), (.int .i64 co), (.bool hi)])⟩)), (21, (.one ⟨true, true, (.cells [(.int .i64 (↑rr)), (.int .i64 (↑cw)), (.sl 3 0 0 rr 1), (.int .i64 ro2), (.int .i64 co2), (.bool hi2)])⟩)), (37, (.one ⟨true, true, (.cells [(.int .i64 0), (.int .i64 0), (.int .i64 0), (.int .i64 0), (.bool (false)), .nils])⟩)), (229, (.one ⟨true, true, .cells [.int .i64 (rr : Int), .int .i64 (cw : Int), .int .i64 ro2, .int .i64 co2, .bool hi2, .sl 477 0 0 L.length 3]⟩)), (477, (.one ⟨true, false, .row (L.length * 3) 3 (fun k_ => [.int .i64 (W.ra L k_ : Int), .int .i64 (W.rb L k_ : Int), .sl 478 k_ 0 (W.rn L k_) 4])⟩)), (478, (.many (fun j_ => some ⟨true, false, .ig (W.rn L j_ * 4) W.ck (fun p_ => X2 (W.ra L j_) (p_ + W.rb L j_ * 4))⟩)))], 485⟩
theorem LXSa_by {α : Type} (I : α → S0) (Inv : α → Prop) (μ : α → Nat) {ex : Ex} {s' : S0} (hex : ex ≠ .normal)
    (step : ∀ x, Inv x → (∃ y, Inv y ∧ μ y < μ x ∧ CodeOk Try.prog 114 469 (kAt (kOf Try.prog Try.f13) [true, true, true, false, true, false, false]) (I x) .normal (I y)) ∨ CodeOk Try.prog 114 469 (kAt (kOf Try.prog Try.f13) [true, true, true, false, true, false, false]) (I x) ex s') (x : α) (hx : Inv x) :
    CodeOk Try.prog 114 469 (kAt (kOf Try.prog Try.f13) [true, true, true, false, true, false]) (I x) ex s' := by
  have hk : (kAt (kOf Try.prog Try.f13) [true, true, true, false, true, false]) = .loop (kAt (kOf Try.prog Try.f13) [true, true, true, false, true, false, false]) := by kernel_rfl
  rw [hk]
  exact CodeOk.loop I Inv μ hex step x hx
noncomputable def LXSa0 (rr cw : Nat) (X X2 : Nat → Nat → Int) (ro co ro2 co2 : Int) (hi hi2 : Bool) : S0 :=
  ⟨[(2, (.c (.ptr 5 0 0))), (3, (.c (.ptr 21 0 0))), (4, (.c (.ptr 37 0 0))), (5, (.c (.ptr 229 0 0))), (6, (.c (.int .i64 0)))], [(1, (.one ⟨false, false, (.gen rr (fun j_ => (.sl 2 j_ 0 cw 4)))⟩)), (2, (.many (fun j_ => some ⟨false, false, (.ig (W.rl rr (cw * 4) j_) W.ck (fun p_ => (X j_ p_)))⟩))), (3, (.one ⟨false, false, (.gen rr (fun j_ => (.sl 4 j_ 0 cw 4)))⟩)), (4, (.many (fun j_ => some ⟨false, false, (.ig (W.rl rr (cw * 4) j_) W.ck (fun p_ => (X2 j_ p_)))⟩))), (5, (.one ⟨true, true, (.cells [(.int .i64 (↑rr)), (.int .i64 (↑cw)), (.sl 1 0 0 rr 1), (.int .i64 ro), (.int .i64 co), (.bool hi)])⟩)), (21, (.one ⟨true, true, (.cells [(.int .i64 (↑rr)), (.int .i64 (↑cw)), (.sl 3 0 0 rr 1), (.int .i64 ro2), (.int .i64 co2), (.bool hi2)])⟩)), (37, (.one ⟨true, true, (.cells [(.int .i64 0), (.int .i64 0), (.int .i64 0), (.int .i64 0), (.bool (false)), .nils])⟩)), (229, (.one ⟨true, true, (.cells [(.int .i64 (↑rr)), (.int .i64 (↑cw)), (.int .i64 ro2), (.int .i64 co2), (.bool hi2), .nils])⟩))], 469⟩
theorem LXSa_rt (rr cw : Nat) (X X2 : Nat → Nat → Int) (ro co ro2 co2 : Int) (hi hi2 : Bool) (i : Nat) (L : W.Rn)
    (hrr : 1 ≤ rr ∧ rr ≤ 60)
    (hcw : 1 ≤ cw ∧ cw ≤ 120)
    (hil : i ≤ rr)
    (hL : L.length ≤ 122 * i)
    (h0 : ((↑i : Int) < (↑rr : Int))) :
    CodeOk Try.prog 114 469 (kAt (kOf Try.prog Try.f13) [true, true, true, false, true, false, false]) (LXSaI rr cw X X2 ro co ro2 co2 hi hi2 i L) .normal ⟨[(2, (.c (.ptr 5 0 0))), (3, (.c (.ptr 21 0 0))), (4, (.c (.ptr 37 0 0))), (5, (.c (.ptr 229 0 0))), (6, (.c (.int .i64 (↑(i + 1)))))], [(1, (.one ⟨false, false, (.gen rr (fun j_ => (.sl 2 j_ 0 cw 4)))⟩)), (2, (.many (fun j_ => some ⟨false, false, (.ig (W.rl rr (cw * 4) j_) W.ck (fun p_ => (X j_ p_)))⟩))), (3, (.one ⟨false, false, (.gen rr (fun j_ => (.sl 4 j_ 0 cw 4)))⟩)), (4, (.many (fun j_ => some ⟨false, false, (.ig (W.rl rr (cw * 4) j_) W.ck (fun p_ => (X2 j_ p_)))⟩))), (5, (.one ⟨true, true, (.cells [(.int .i64 (↑rr)), (.int .i64 (↑cw)), (.sl 1 0 0 rr 1), (.int .i64 ro), (.int .i64 co), (.bool hi)])⟩)), (21, (.one ⟨true, true, (.cells [(.int .i64 (↑rr)), (.int .i64 (↑cw)), (.sl 3 0 0 rr 1), (.int .i64 ro2), (.int .i64 co2), (.bool hi2)])⟩)), (37, (.one ⟨true, true, (.cells [(.int .i64 0), (.int .i64 0), (.int .i64 0), (.int .i64 0), (.bool (false)), .nils])⟩)), (229, (.one ⟨true, true, (.cells [(.int .i64 (↑rr)), (.int .i64 (↑cw)), (.int .i64 ro2), (.int .i64 co2), (.bool hi2), (.sl 469 0 0 (List.length (W.rowRuns X2 X i cw cw 0 L)) 3)])⟩)), (469, (.one ⟨true, false, (.row (List.length (W.rowRuns X2 X i cw cw 0 L) * 3) 3 (fun j_ => [(.int .i64 (↑(W.ra (W.rowRuns X2 X i cw cw 0 L) j_))), (.int .i64 (↑(W.rb (W.rowRuns X2 X i cw cw 0 L) j_))), (.sl 470 j_ 0 (W.rn (W.rowRuns X2 X i cw cw 0 L) j_) 4)]))⟩)), (470, (.many (fun j_ => some ⟨true, false, (.ig (W.rn (W.rowRuns X2 X i cw cw 0 L) j_ * 4) W.ck (fun p_ => (X2 (W.ra (W.rowRuns X2 X i cw cw 0 L) j_) (p_ + W.rb (W.rowRuns X2 X i cw cw 0 L) j_ * 4))))⟩)))], 485⟩ :=
  CodeOk.of_runs (fuel := 300) (v := ⟨[2, 3, 4, 5, 6], [1, 2, 3, 4, 5, 21, 37, 229, 477, 478, 100008, 100009], [(477, 477), (478, 478), (100008, 469), (100009, 470)], 485⟩) (hs := [(3, ⟨.auto, some (.c (.bool (true)))⟩), (6, ⟨.sum ⟨[2, 3, 4, 5, 6, 7], [1, 2, 3, 4, 5, 21, 37, 229, 477, 478], [(477, 100008), (478, 100009)], 100016⟩ (.exit 2) (LXSbI rr cw X X2 ro co ro2 co2 hi hi2 i cw (W.rowRuns X2 X i cw cw 0 L)), none⟩), (8, ⟨.auto, some (.c (.int .i64 (↑(i + 1))))⟩)])
    (cs := [EI .i64 (IntKind.wrap IntKind.i64 ((↑i : Int) + 1)) ((↑(i + 1) : Int)),
      CodeOk Try.prog 114 565 (kAt (kOf Try.prog Try.f13) [true, true, true, false, true, false, false, true, false, false, true, false]) (LXSbI rr cw X X2 ro co ro2 co2 hi hi2 i 0 L) (.exit 2) (LXSbI rr cw X X2 ro co ro2 co2 hi hi2 i cw (W.rowRuns X2 X i cw cw 0 L)),
      EB (decide ((↑i : Int) < (↑rr : Int))) true])
    mixed (by kernel_rfl) ⟨.mk (by simp only [addO_eq, mulE_eq, mulE_one, Int.toNat_natCast, IntKind.wrap_i64, mmin, mmax]; omega), (CodeOk.mono (rds_mid rr cw X X2 ro co ro2 co2 hi hi2 i L (by omega) (by omega) (by omega) (by omega)) (by decide)), .mk (decide_eq_true h0), trivial⟩
theorem LXSa_xf (rr cw : Nat) (X X2 : Nat → Nat → Int) (ro co ro2 co2 : Int) (hi hi2 : Bool) (i : Nat) (L : W.Rn)
    (hrr : 1 ≤ rr ∧ rr ≤ 60)
    (hcw : 1 ≤ cw ∧ cw ≤ 120)
    (hil : i ≤ rr)
    (hL : L.length ≤ 122 * i)
    (h0 : (¬(↑i : Int) < (↑rr : Int))) :
    CodeOk Try.prog 114 469 (kAt (kOf Try.prog Try.f13) [true, true, true, false, true, false, false]) (LXSaI rr cw X X2 ro co ro2 co2 hi hi2 i L) (.exit 0) (LXSaI rr cw X X2 ro co ro2 co2 hi hi2 i L) :=
  CodeOk.of_runs (fuel := 300) (v := ⟨[2, 3, 4, 5, 6], [1, 2, 3, 4, 5, 21, 37, 229, 477, 478], [(477, 477), (478, 478)], 485⟩) (hs := [(3, ⟨.auto, some (.c (.bool (false)))⟩)])
    (cs := [EB (decide ((↑i : Int) < (↑rr : Int))) false])
    mixed (by kernel_rfl) ⟨.mk (decide_eq_false h0), trivial⟩
end Go.Proofs.Ytohleiikedpmkaa.Vm

namespace Go.Proofs.Ytohleiikedpmkaa.Vm
open Go Go.Proofs Go.Proofs.Ytohleiikedpmkaa
set_option maxRecDepth 100000
noncomputable def LXDaI (rr cw : Nat) (X : Nat → Nat → Int) (rr2 cw2 : Nat) (X2 : Nat → Nat → Int) (ro2 co2 : Int) (hi2 : Bool) (i : Nat) (L : W.Rn) : S0 :=
  ⟨[(2, (.c (.ptr 5 0 0))), (3, (.c (.ptr 21 0 0))), (4, (.c (.ptr 37 0 0))), (5, (.c (.ptr 229 0 0))), (6, (.c (.int .i64 (i : Int))))], [(1, (.one ⟨false, false, (.gen rr (fun j_ => (.sl 2 j_ 0 cw 4)))⟩)), (2, (.many (fun j_ => some ⟨false, false, (.ig (W.rl rr (cw * 4) j_) W.ck (fun p_ => (X j_ p_)))⟩))), (3, (.one ⟨false, false, (.gen rr2 (fun j_ => (.sl 4 j_ 0 cw2 4)))⟩)), (4, (.many (fun j_ => some ⟨false, false, (.ig (W.rl rr2 (cw2 * 4) j_) W.ck (fun p_ => (X2 j_ p_)))⟩))), (5, (.one ⟨true, true, (.cells [(.int .i64 (↑rr2)), (.int .i64 (↑cw2)), (.sl 517 0 0 rr2 1), (.int .i64 0), (.int .i64 0), (.bool (false))])⟩)), (21, (.one ⟨true, true, (.cells [(.int .i64 (↑rr2)), (.int .i64 (↑cw2)), (.sl 3 0 0 rr2 1), (.int .i64 ro2), (.int .i64 co2), (.bool hi2)])⟩)), (37, (.one ⟨true, true, (.cells [(.int .i64 0), (.int .i64 0), (.int .i64 0), (.int .i64 0), (.bool (false)), .nils])⟩)), (229, (.one ⟨true, true, .cells [.int .i64 (rr2 : Int), .int .i64 (cw2 : Int), .int .i64 ro2, .int .i64 co2, .bool hi2, .sl 573 0 0 L.length 3]⟩)), (517, (.one ⟨true, false, (.gen rr2 (fun j_ => (.sl 518 j_ 0 cw2 4)))⟩)), (518, (.many (fun j_ => some ⟨true, true, (.ig (W.rl rr2 (cw2 * 4) j_) W.ck W.blank)⟩))), (573, (.one ⟨true, false, .row (L.length * 3) 3 (fun k_ => [.int .i64 (W.ra L k_ : Int), .int .i64 (W.rb L k_ : Int), .sl 574 k_ 0 (W.rn L k_) 4])⟩)), (574, (.many (fun j_ => some ⟨true, false, .ig (W.rn L j_ * 4) W.ck (fun p_ => X2 (W.ra L j_) (p_ + W.rb L j_ * 4))⟩)))], 581⟩
theorem LXDa_by {α : Type} (I : α → S0) (Inv : α → Prop) (μ : α → Nat) {ex : Ex} {s' : S0} (hex : ex ≠ .normal)
    (step : ∀ x, Inv x → (∃ y, Inv y ∧ μ y < μ x ∧ CodeOk Try.prog 114 565 (kAt (kOf Try.prog Try.f13) [true, true, true, false, true, false, false]) (I x) .normal (I y)) ∨ CodeOk Try.prog 114 565 (kAt (kOf Try.prog Try.f13) [true, true, true, false, true, false, false]) (I x) ex s') (x : α) (hx : Inv x) :
    CodeOk Try.prog 114 565 (kAt (kOf Try.prog Try.f13) [true, true, true, false, true, false]) (I x) ex s' := by
  have hk : (kAt (kOf Try.prog Try.f13) [true, true, true, false, true, false]) = .loop (kAt (kOf Try.prog Try.f13) [true, true, true, false, true, false, false]) := by kernel_rfl
  rw [hk]
  exact CodeOk.loop I Inv μ hex step x hx
noncomputable def LXDa0 (rr cw : Nat) (X : Nat → Nat → Int) (rr2 cw2 : Nat) (X2 : Nat → Nat → Int) (ro2 co2 : Int) (hi2 : Bool) : S0 :=
  ⟨[(2, (.c (.ptr 5 0 0))), (3, (.c (.ptr 21 0 0))), (4, (.c (.ptr 37 0 0))), (5, (.c (.ptr 229 0 0))), (6, (.c (.int .i64 0)))], [(1, (.one ⟨false, false, (.gen rr (fun j_ => (.sl 2 j_ 0 cw 4)))⟩)), (2, (.many (fun j_ => some ⟨false, false, (.ig (W.rl rr (cw * 4) j_) W.ck (fun p_ => (X j_ p_)))⟩))), (3, (.one ⟨false, false, (.gen rr2 (fun j_ => (.sl 4 j_ 0 cw2 4)))⟩)), (4, (.many (fun j_ => some ⟨false, false, (.ig (W.rl rr2 (cw2 * 4) j_) W.ck (fun p_ => (X2 j_ p_)))⟩))), (5, (.one ⟨true, true, (.cells [(.int .i64 (↑rr2)), (.int .i64 (↑cw2)), (.sl 517 0 0 rr2 1), (.int .i64 0), (.int .i64 0), (.bool (false))])⟩)), (21, (.one ⟨true, true, (.cells [(.int .i64 (↑rr2)), (.int .i64 (↑cw2)), (.sl 3 0 0 rr2 1), (.int .i64 ro2), (.int .i64 co2), (.bool hi2)])⟩)), (37, (.one ⟨true, true, (.cells [(.int .i64 0), (.int .i64 0), (.int .i64 0), (.int .i64 0), (.bool (false)), .nils])⟩)), (229, (.one ⟨true, true, (.cells [(.int .i64 (↑rr2)), (.int .i64 (↑cw2)), (.int .i64 ro2), (.int .i64 co2), (.bool hi2), .nils])⟩)), (517, (.one ⟨true, false, (.gen rr2 (fun j_ => (.sl 518 j_ 0 cw2 4)))⟩)), (518, (.many (fun j_ => some ⟨true, true, (.ig (W.rl rr2 (cw2 * 4) j_) W.ck W.blank)⟩)))], 565⟩
theorem LXDa_rt (rr cw : Nat) (X : Nat → Nat → Int) (rr2 cw2 : Nat) (X2 : Nat → Nat → Int) (ro2 co2 : Int) (hi2 : Bool) (i : Nat) (L : W.Rn)
    (hrr2 : 1 ≤ rr2 ∧ rr2 ≤ 60)
    (hcw2 : 1 ≤ cw2 ∧ cw2 ≤ 120)
    (hd : ¬ (rr2 = rr ∧ cw2 = cw))
    (hil : i ≤ rr2)
    (hL : L.length ≤ 122 * i)
    (h0 : ((↑i : Int) < (↑rr2 : Int))) :
    CodeOk Try.prog 114 565 (kAt (kOf Try.prog Try.f13) [true, true, true, false, true, false, false]) (LXDaI rr cw X rr2 cw2 X2 ro2 co2 hi2 i L) .normal ⟨[(2, (.c (.ptr 5 0 0))), (3, (.c (.ptr 21 0 0))), (4, (.c (.ptr 37 0 0))), (5, (.c (.ptr 229 0 0))), (6, (.c (.int .i64 (↑(i + 1)))))], [(1, (.one ⟨false, false, (.gen rr (fun j_ => (.sl 2 j_ 0 cw 4)))⟩)), (2, (.many (fun j_ => some ⟨false, false, (.ig (W.rl rr (cw * 4) j_) W.ck (fun p_ => (X j_ p_)))⟩))), (3, (.one ⟨false, false, (.gen rr2 (fun j_ => (.sl 4 j_ 0 cw2 4)))⟩)), (4, (.many (fun j_ => some ⟨false, false, (.ig (W.rl rr2 (cw2 * 4) j_) W.ck (fun p_ => (X2 j_ p_)))⟩))), (5, (.one ⟨true, true, (.cells [(.int .i64 (↑rr2)), (.int .i64 (↑cw2)), (.sl 517 0 0 rr2 1), (.int .i64 0), (.int .i64 0), (.bool (false))])⟩)), (21, (.one ⟨true, true, (.cells [(.int .i64 (↑rr2)), (.int .i64 (↑cw2)), (.sl 3 0 0 rr2 1), (.int .i64 ro2), (.int .i64 co2), (.bool hi2)])⟩)), (37, (.one ⟨true, true, (.cells [(.int .i64 0), (.int .i64 0), (.int .i64 0), (.int .i64 0), (.bool (false)), .nils])⟩)), (229, (.one ⟨true, true, (.cells [(.int .i64 (↑rr2)), (.int .i64 (↑cw2)), (.int .i64 ro2), (.int .i64 co2), (.bool hi2), (.sl 565 0 0 (List.length (W.rowRuns X2 (fun x => W.blank) i cw2 cw2 0 L)) 3)])⟩)), (517, (.one ⟨true, false, (.gen rr2 (fun j_ => (.sl 518 j_ 0 cw2 4)))⟩)), (518, (.many (fun j_ => some ⟨true, true, (.ig (W.rl rr2 (cw2 * 4) j_) W.ck W.blank)⟩))), (565, (.one ⟨true, false, (.row (List.length (W.rowRuns X2 (fun x => W.blank) i cw2 cw2 0 L) * 3) 3 (fun j_ => [(.int .i64 (↑(W.ra (W.rowRuns X2 (fun x => W.blank) i cw2 cw2 0 L) j_))), (.int .i64 (↑(W.rb (W.rowRuns X2 (fun x => W.blank) i cw2 cw2 0 L) j_))), (.sl 566 j_ 0 (W.rn (W.rowRuns X2 (fun x => W.blank) i cw2 cw2 0 L) j_) 4)]))⟩)), (566, (.many (fun j_ => some ⟨true, false, (.ig (W.rn (W.rowRuns X2 (fun x => W.blank) i cw2 cw2 0 L) j_ * 4) W.ck (fun p_ => (X2 (W.ra (W.rowRuns X2 (fun x => W.blank) i cw2 cw2 0 L) j_) (p_ + W.rb (W.rowRuns X2 (fun x => W.blank) i cw2 cw2 0 L) j_ * 4))))⟩)))], 581⟩ :=
  CodeOk.of_runs (fuel := 300) (v := ⟨[2, 3, 4, 5, 6], [1, 2, 3, 4, 5, 21, 37, 229, 517, 518, 573, 574, 100008, 100009], [(573, 573), (574, 574), (100008, 565), (100009, 566)], 581⟩) (hs := [(3, ⟨.auto, some (.c (.bool (true)))⟩), (6, ⟨.sum ⟨[2, 3, 4, 5, 6, 7], [1, 2, 3, 4, 5, 21, 37, 229, 517, 518, 573, 574], [(573, 100008), (574, 100009)], 100016⟩ (.exit 2) (LXDbI rr cw X rr2 cw2 X2 ro2 co2 hi2 i cw2 (W.rowRuns X2 (fun x => W.blank) i cw2 cw2 0 L)), none⟩), (8, ⟨.auto, some (.c (.int .i64 (↑(i + 1))))⟩)])
    (cs := [EI .i64 (IntKind.wrap IntKind.i64 ((↑i : Int) + 1)) ((↑(i + 1) : Int)),
      CodeOk Try.prog 114 661 (kAt (kOf Try.prog Try.f13) [true, true, true, false, true, false, false, true, false, false, true, false]) (LXDbI rr cw X rr2 cw2 X2 ro2 co2 hi2 i 0 L) (.exit 2) (LXDbI rr cw X rr2 cw2 X2 ro2 co2 hi2 i cw2 (W.rowRuns X2 (fun x => W.blank) i cw2 cw2 0 L)),
      EB (decide ((↑i : Int) < (↑rr2 : Int))) true])
    mixed (by kernel_rfl) ⟨.mk (by simp only [addO_eq, mulE_eq, mulE_one, Int.toNat_natCast, IntKind.wrap_i64, mmin, mmax]; omega), (CodeOk.mono (rdd_mid rr cw X rr2 cw2 X2 ro2 co2 hi2 i L (by omega) (by omega) (by omega) (by omega) (by omega)) (by decide)), .mk (decide_eq_true h0), trivial⟩
theorem LXDa_xf (rr cw : Nat) (X : Nat → Nat → Int) (rr2 cw2 : Nat) (X2 : Nat → Nat → Int) (ro2 co2 : Int) (hi2 : Bool) (i : Nat) (L : W.Rn)
    (hrr2 : 1 ≤ rr2 ∧ rr2 ≤ 60)
    (hcw2 : 1 ≤ cw2 ∧ cw2 ≤ 120)
    (hd : ¬ (rr2 = rr ∧ cw2 = cw))
    (hil : i ≤ rr2)
    (hL : L.length ≤ 122 * i)
    (h0 : (¬(↑i : Int) < (↑rr2 : Int))) :
    CodeOk Try.prog 114 565 (kAt (kOf Try.prog Try.f13) [true, true, true, false, true, false, false]) (LXDaI rr cw X rr2 cw2 X2 ro2 co2 hi2 i L) (.exit 0) (LXDaI rr cw X rr2 cw2 X2 ro2 co2 hi2 i L) :=
  CodeOk.of_runs (fuel := 300) (v := ⟨[2, 3, 4, 5, 6], [1, 2, 3, 4, 5, 21, 37, 229, 517, 518, 573, 574], [(573, 573), (574, 574)], 581⟩) (hs := [(3, ⟨.auto, some (.c (.bool (false)))⟩)])
    (cs := [EB (decide ((↑i : Int) < (↑rr2 : Int))) false])
    mixed (by kernel_rfl) ⟨.mk (decide_eq_false h0), trivial⟩
end Go.Proofs.Ytohleiikedpmkaa.Vm

namespace Go.Proofs.Ytohleiikedpmkaa.Vm
open Go Go.Proofs Go.Proofs.Ytohleiikedpmkaa
theorem BR.runs2 {ρ : Rho} {D : Nat → Nat → Bool} {me : Mem} {b b0 i0 F F0 : Nat} {o e e0 : Bool} {L : W.Rn} (hρ : ρ b 0 = some (b0, i0)) (hl : look me b0 i0 = some ⟨o, e0, .row (List.length L * 3) 3 (fun j_ => [C.int .i64 (↑(W.ra L j_) : Int), C.int .i64 (↑(W.rb L j_) : Int), C.sl F0 j_ 0 (W.rn L j_) 4])⟩) (he : e = true → e0 = true) (hF : ∀ j, ρ F j = some (F0, j)) : BR ρ D me b 0 ⟨o, e, .row (List.length L * 3) 3 (fun j_ => [C.int .i64 (↑(W.ra L j_) : Int), C.int .i64 (↑(W.rb L j_) : Int), C.sl F j_ 0 (W.rn L j_) 4])⟩ := by
  refine .inl ⟨b0, i0, _, hρ, hl, rfl, he, rfl, fun j hj => ?_⟩
  show CR _ (recGet 3 (fun j_ => [C.int .i64 (↑(W.ra L j_) : Int), C.int .i64 (↑(W.rb L j_) : Int), C.sl F0 j_ 0 (W.rn L j_) 4]) j) (recGet 3 (fun j_ => [C.int .i64 (↑(W.ra L j_) : Int), C.int .i64 (↑(W.rb L j_) : Int), C.sl F j_ 0 (W.rn L j_) 4]) j)
  unfold recGet
  rcases (by omega : j % 3 = 0 ∨ j % 3 = 1 ∨ j % 3 = 2) with e | e | e <;> rw [e]
  · exact ⟨rfl, rfl⟩
  · exact ⟨rfl, rfl⟩
  · exact ⟨hF _, rfl, rfl, rfl⟩
theorem rds_loop (rr cw : Nat) (X X2 : Nat → Nat → Int) (ro co ro2 co2 : Int) (hi hi2 : Bool) (hrr : 1 ≤ rr ∧ rr ≤ 60) (hcw : 1 ≤ cw ∧ cw ≤ 120) :
    CodeOk Try.prog 114 469 (kAt (kOf Try.prog Try.f13) [true, true, true, false, true, false]) (LXSa0 rr cw X X2 ro co ro2 co2 hi hi2) (.exit 0) (LXSaI rr cw X X2 ro co ro2 co2 hi hi2 rr (W.runs X2 X cw rr)) := by
  have h : CodeOk Try.prog 114 469 (kAt (kOf Try.prog Try.f13) [true, true, true, false, true, false]) (LXSaI rr cw X X2 ro co ro2 co2 hi hi2 0 []) (.exit 0) (LXSaI rr cw X X2 ro co ro2 co2 hi hi2 rr (W.runs X2 X cw rr)) := by
    refine LXSa_by (fun i => LXSaI rr cw X X2 ro co ro2 co2 hi hi2 i (W.runs X2 X cw i)) (fun i => i ≤ rr) (fun i => rr - i) (by simp) ?_ 0 (Nat.zero_le _)
    intro i hil
    have hL : (W.runs X2 X cw i).length ≤ 122 * i := (by have := W.runs_len X X2 i cw; have h2 : cw * i ≤ 120 * i := Nat.mul_le_mul_right i (by omega); omega)
    by_cases h0 : (i : Int) < (rr : Int)
    · refine .inl ⟨i + 1, by omega, by omega, ?_⟩
      show CodeOk Try.prog 114 469 (kAt (kOf Try.prog Try.f13) [true, true, true, false, true, false, false]) (LXSaI rr cw X X2 ro co ro2 co2 hi hi2 i (W.runs X2 X cw i)) .normal (LXSaI rr cw X X2 ro co ro2 co2 hi hi2 (i + 1) (W.rowRuns X2 X i cw cw 0 (W.runs X2 X cw i)))
      refine (LXSa_rt rr cw X X2 ro co ro2 co2 hi hi2 i (W.runs X2 X cw i) hrr hcw hil hL h0).move (Move.tab (n0 := 469) [(477, 469), (478, 470)] (by decide) (show 469 ≤ 485 by decide) (show ∀ x ∈ ([(477, 469), (478, 470)] : List (Nat × Nat)), 469 ≤ x.1 ∧ x.1 < 485 ∧ 469 ≤ x.2 by decide) (by decide) ?_ ?_)
      · refine ⟨?_, ?_, ?_, ?_, ?_, ?_, ?_, ?_, ?_, ?_, trivial⟩
        · exact BR.gen (tabRho_low (by decide)) rfl (fun h => h) rfl (fun p hp => ⟨tabRho_low (by decide), rfl, rfl, rfl⟩)
        · intro j k hk; injection hk with hk; subst hk
          exact BR.ig (tabRho_low (by decide)) rfl (fun h => h) rfl (fun _ _ => rfl) (fun _ _ => rfl)
        · exact BR.gen (tabRho_low (by decide)) rfl (fun h => h) rfl (fun p hp => ⟨tabRho_low (by decide), rfl, rfl, rfl⟩)
        · intro j k hk; injection hk with hk; subst hk
          exact BR.ig (tabRho_low (by decide)) rfl (fun h => h) rfl (fun _ _ => rfl) (fun _ _ => rfl)
        · exact BR.cells (tabRho_low (by decide)) rfl (fun h => h) ⟨⟨rfl, by first | rfl | omega⟩, ⟨rfl, by first | rfl | omega⟩, ⟨tabRho_low (by decide), by first | rfl | omega, by first | rfl | omega, rfl⟩, ⟨rfl, by first | rfl | omega⟩, ⟨rfl, by first | rfl | omega⟩, rfl, trivial⟩
        · exact BR.cells (tabRho_low (by decide)) rfl (fun h => h) ⟨⟨rfl, by first | rfl | omega⟩, ⟨rfl, by first | rfl | omega⟩, ⟨tabRho_low (by decide), by first | rfl | omega, by first | rfl | omega, rfl⟩, ⟨rfl, by first | rfl | omega⟩, ⟨rfl, by first | rfl | omega⟩, rfl, trivial⟩
        · exact BR.cells (tabRho_low (by decide)) rfl (fun h => h) ⟨⟨rfl, by first | rfl | omega⟩, ⟨rfl, by first | rfl | omega⟩, ⟨rfl, by first | rfl | omega⟩, ⟨rfl, by first | rfl | omega⟩, rfl, trivial, trivial⟩
        · exact BR.cells (tabRho_low (by decide)) rfl (fun h => h) ⟨⟨rfl, by first | rfl | omega⟩, ⟨rfl, by first | rfl | omega⟩, ⟨rfl, by first | rfl | omega⟩, ⟨rfl, by first | rfl | omega⟩, rfl, ⟨tabRho_hi (by decide) rfl rfl, by first | rfl | omega, by first | rfl | omega, rfl⟩, trivial⟩
        · exact BR.runs2 (tabRho_hi (by decide) rfl rfl) rfl (fun h => h) (fun j => tabRho_hi (by decide) rfl rfl)
        · intro j k hk; injection hk with hk; subst hk
          exact BR.ig (tabRho_hi (by decide) rfl rfl) rfl (fun h => h) rfl (fun _ _ => rfl) (fun _ _ => rfl)
      · exact ⟨rfl, ⟨tabRho_low (by decide), by first | rfl | omega⟩, rfl, ⟨tabRho_low (by decide), by first | rfl | omega⟩, rfl, ⟨tabRho_low (by decide), by first | rfl | omega⟩, rfl, ⟨tabRho_low (by decide), by first | rfl | omega⟩, rfl, ⟨rfl, by first | rfl | omega⟩, trivial⟩
    · have e : i = rr := by omega
      have x := LXSa_xf rr cw X X2 ro co ro2 co2 hi hi2 i (W.runs X2 X cw i) hrr hcw hil hL h0
      refine .inr ?_
      rw [e] at x ⊢
      exact x
  refine CodeOk.enter (Move.begin (fun b _ => Nat.beq b 477 || Nat.beq b 478) (by decide) (show 469 ≤ 485 by decide) ?_ ?_ ?_) h
  · intro b k hb
    have hb : 485 ≤ b := hb
    rw [beqF (by omega), beqF (by omega)]; rfl
  · refine ⟨?_, ?_, ?_, ?_, ?_, ?_, ?_, ?_, ?_, ?_, trivial⟩
    · exact BR.gen (newRho_low (by decide)) rfl (fun h => h) rfl (fun p hp => ⟨newRho_low (by decide), rfl, rfl, rfl⟩)
    · intro j k hk; injection hk with hk; subst hk
      exact BR.ig (newRho_low (by decide)) rfl (fun h => h) rfl (fun _ _ => rfl) (fun _ _ => rfl)
    · exact BR.gen (newRho_low (by decide)) rfl (fun h => h) rfl (fun p hp => ⟨newRho_low (by decide), rfl, rfl, rfl⟩)
    · intro j k hk; injection hk with hk; subst hk
      exact BR.ig (newRho_low (by decide)) rfl (fun h => h) rfl (fun _ _ => rfl) (fun _ _ => rfl)
    · exact BR.cells (newRho_low (by decide)) rfl (fun h => h) ⟨⟨rfl, by first | rfl | omega⟩, ⟨rfl, by first | rfl | omega⟩, ⟨newRho_low (by decide), by first | rfl | omega, by first | rfl | omega, rfl⟩, ⟨rfl, by first | rfl | omega⟩, ⟨rfl, by first | rfl | omega⟩, rfl, trivial⟩
    · exact BR.cells (newRho_low (by decide)) rfl (fun h => h) ⟨⟨rfl, by first | rfl | omega⟩, ⟨rfl, by first | rfl | omega⟩, ⟨newRho_low (by decide), by first | rfl | omega, by first | rfl | omega, rfl⟩, ⟨rfl, by first | rfl | omega⟩, ⟨rfl, by first | rfl | omega⟩, rfl, trivial⟩
    · exact BR.cells (newRho_low (by decide)) rfl (fun h => h) ⟨⟨rfl, by first | rfl | omega⟩, ⟨rfl, by first | rfl | omega⟩, ⟨rfl, by first | rfl | omega⟩, ⟨rfl, by first | rfl | omega⟩, rfl, trivial, trivial⟩
    · exact BR.cells (newRho_low (by decide)) rfl (fun h => h) ⟨⟨rfl, rfl⟩, ⟨rfl, rfl⟩, ⟨rfl, rfl⟩, ⟨rfl, rfl⟩, rfl, rfl, trivial⟩
    · exact BR.none (newRho_high (by decide)) rfl rfl rfl
    · intro j k hk; injection hk with hk; subst hk
      exact BR.none (newRho_high (by decide)) rfl rfl (by show W.rn [] j * 4 = 0; rfl)
  · exact ⟨rfl, ⟨newRho_low (by decide), by first | rfl | omega⟩, rfl, ⟨newRho_low (by decide), by first | rfl | omega⟩, rfl, ⟨newRho_low (by decide), by first | rfl | omega⟩, rfl, ⟨newRho_low (by decide), by first | rfl | omega⟩, rfl, ⟨rfl, by first | rfl | omega⟩, trivial⟩
theorem rdd_loop (rr cw : Nat) (X : Nat → Nat → Int) (rr2 cw2 : Nat) (X2 : Nat → Nat → Int) (ro2 co2 : Int) (hi2 : Bool) (hrr2 : 1 ≤ rr2 ∧ rr2 ≤ 60) (hcw2 : 1 ≤ cw2 ∧ cw2 ≤ 120) (hd : ¬ (rr2 = rr ∧ cw2 = cw)) :
    CodeOk Try.prog 114 565 (kAt (kOf Try.prog Try.f13) [true, true, true, false, true, false]) (LXDa0 rr cw X rr2 cw2 X2 ro2 co2 hi2) (.exit 0) (LXDaI rr cw X rr2 cw2 X2 ro2 co2 hi2 rr2 (W.runs X2 (fun _ => W.blank) cw2 rr2)) := by
  have h : CodeOk Try.prog 114 565 (kAt (kOf Try.prog Try.f13) [true, true, true, false, true, false]) (LXDaI rr cw X rr2 cw2 X2 ro2 co2 hi2 0 []) (.exit 0) (LXDaI rr cw X rr2 cw2 X2 ro2 co2 hi2 rr2 (W.runs X2 (fun _ => W.blank) cw2 rr2)) := by
    refine LXDa_by (fun i => LXDaI rr cw X rr2 cw2 X2 ro2 co2 hi2 i (W.runs X2 (fun _ => W.blank) cw2 i)) (fun i => i ≤ rr2) (fun i => rr2 - i) (by simp) ?_ 0 (Nat.zero_le _)
    intro i hil
    have hL : (W.runs X2 (fun _ => W.blank) cw2 i).length ≤ 122 * i := (by have := W.runs_len (fun _ => W.blank) X2 i cw2; have h2 : cw2 * i ≤ 120 * i := Nat.mul_le_mul_right i (by omega); omega)
    by_cases h0 : (i : Int) < (rr2 : Int)
    · refine .inl ⟨i + 1, by omega, by omega, ?_⟩
      show CodeOk Try.prog 114 565 (kAt (kOf Try.prog Try.f13) [true, true, true, false, true, false, false]) (LXDaI rr cw X rr2 cw2 X2 ro2 co2 hi2 i (W.runs X2 (fun _ => W.blank) cw2 i)) .normal (LXDaI rr cw X rr2 cw2 X2 ro2 co2 hi2 (i + 1) (W.rowRuns X2 (fun _ => W.blank) i cw2 cw2 0 (W.runs X2 (fun _ => W.blank) cw2 i)))
      refine (LXDa_rt rr cw X rr2 cw2 X2 ro2 co2 hi2 i (W.runs X2 (fun _ => W.blank) cw2 i) hrr2 hcw2 hd hil hL h0).move (Move.tab (n0 := 565) [(573, 565), (574, 566)] (by decide) (show 565 ≤ 581 by decide) (show ∀ x ∈ ([(573, 565), (574, 566)] : List (Nat × Nat)), 565 ≤ x.1 ∧ x.1 < 581 ∧ 565 ≤ x.2 by decide) (by decide) ?_ ?_)
      · refine ⟨?_, ?_, ?_, ?_, ?_, ?_, ?_, ?_, ?_, ?_, ?_, ?_, trivial⟩
        · exact BR.gen (tabRho_low (by decide)) rfl (fun h => h) rfl (fun p hp => ⟨tabRho_low (by decide), rfl, rfl, rfl⟩)
        · intro j k hk; injection hk with hk; subst hk
          exact BR.ig (tabRho_low (by decide)) rfl (fun h => h) rfl (fun _ _ => rfl) (fun _ _ => rfl)
        · exact BR.gen (tabRho_low (by decide)) rfl (fun h => h) rfl (fun p hp => ⟨tabRho_low (by decide), rfl, rfl, rfl⟩)
        · intro j k hk; injection hk with hk; subst hk
          exact BR.ig (tabRho_low (by decide)) rfl (fun h => h) rfl (fun _ _ => rfl) (fun _ _ => rfl)
        · exact BR.cells (tabRho_low (by decide)) rfl (fun h => h) ⟨⟨rfl, by first | rfl | omega⟩, ⟨rfl, by first | rfl | omega⟩, ⟨tabRho_low (by decide), by first | rfl | omega, by first | rfl | omega, rfl⟩, ⟨rfl, by first | rfl | omega⟩, ⟨rfl, by first | rfl | omega⟩, rfl, trivial⟩
        · exact BR.cells (tabRho_low (by decide)) rfl (fun h => h) ⟨⟨rfl, by first | rfl | omega⟩, ⟨rfl, by first | rfl | omega⟩, ⟨tabRho_low (by decide), by first | rfl | omega, by first | rfl | omega, rfl⟩, ⟨rfl, by first | rfl | omega⟩, ⟨rfl, by first | rfl | omega⟩, rfl, trivial⟩
        · exact BR.cells (tabRho_low (by decide)) rfl (fun h => h) ⟨⟨rfl, by first | rfl | omega⟩, ⟨rfl, by first | rfl | omega⟩, ⟨rfl, by first | rfl | omega⟩, ⟨rfl, by first | rfl | omega⟩, rfl, trivial, trivial⟩
        · exact BR.cells (tabRho_low (by decide)) rfl (fun h => h) ⟨⟨rfl, by first | rfl | omega⟩, ⟨rfl, by first | rfl | omega⟩, ⟨rfl, by first | rfl | omega⟩, ⟨rfl, by first | rfl | omega⟩, rfl, ⟨tabRho_hi (by decide) rfl rfl, by first | rfl | omega, by first | rfl | omega, rfl⟩, trivial⟩
        · exact BR.gen (tabRho_low (by decide)) rfl (fun h => h) rfl (fun p hp => ⟨tabRho_low (by decide), rfl, rfl, rfl⟩)
        · intro j k hk; injection hk with hk; subst hk
          exact BR.ig (tabRho_low (by decide)) rfl (fun h => h) rfl (fun _ _ => rfl) (fun _ _ => rfl)
        · exact BR.runs2 (tabRho_hi (by decide) rfl rfl) rfl (fun h => h) (fun j => tabRho_hi (by decide) rfl rfl)
        · intro j k hk; injection hk with hk; subst hk
          exact BR.ig (tabRho_hi (by decide) rfl rfl) rfl (fun h => h) rfl (fun _ _ => rfl) (fun _ _ => rfl)
      · exact ⟨rfl, ⟨tabRho_low (by decide), by first | rfl | omega⟩, rfl, ⟨tabRho_low (by decide), by first | rfl | omega⟩, rfl, ⟨tabRho_low (by decide), by first | rfl | omega⟩, rfl, ⟨tabRho_low (by decide), by first | rfl | omega⟩, rfl, ⟨rfl, by first | rfl | omega⟩, trivial⟩
    · have e : i = rr2 := by omega
      have x := LXDa_xf rr cw X rr2 cw2 X2 ro2 co2 hi2 i (W.runs X2 (fun _ => W.blank) cw2 i) hrr2 hcw2 hd hil hL h0
      refine .inr ?_
      rw [e] at x ⊢
      exact x
  refine CodeOk.enter (Move.begin (fun b _ => Nat.beq b 573 || Nat.beq b 574) (by decide) (show 565 ≤ 581 by decide) ?_ ?_ ?_) h
  · intro b k hb
    have hb : 581 ≤ b := hb
    rw [beqF (by omega), beqF (by omega)]; rfl
  · refine ⟨?_, ?_, ?_, ?_, ?_, ?_, ?_, ?_, ?_, ?_, ?_, ?_, trivial⟩
    · exact BR.gen (newRho_low (by decide)) rfl (fun h => h) rfl (fun p hp => ⟨newRho_low (by decide), rfl, rfl, rfl⟩)
    · intro j k hk; injection hk with hk; subst hk
      exact BR.ig (newRho_low (by decide)) rfl (fun h => h) rfl (fun _ _ => rfl) (fun _ _ => rfl)
    · exact BR.gen (newRho_low (by decide)) rfl (fun h => h) rfl (fun p hp => ⟨newRho_low (by decide), rfl, rfl, rfl⟩)
    · intro j k hk; injection hk with hk; subst hk
      exact BR.ig (newRho_low (by decide)) rfl (fun h => h) rfl (fun _ _ => rfl) (fun _ _ => rfl)
    · exact BR.cells (newRho_low (by decide)) rfl (fun h => h) ⟨⟨rfl, by first | rfl | omega⟩, ⟨rfl, by first | rfl | omega⟩, ⟨newRho_low (by decide), by first | rfl | omega, by first | rfl | omega, rfl⟩, ⟨rfl, by first | rfl | omega⟩, ⟨rfl, by first | rfl | omega⟩, rfl, trivial⟩
    · exact BR.cells (newRho_low (by decide)) rfl (fun h => h) ⟨⟨rfl, by first | rfl | omega⟩, ⟨rfl, by first | rfl | omega⟩, ⟨newRho_low (by decide), by first | rfl | omega, by first | rfl | omega, rfl⟩, ⟨rfl, by first | rfl | omega⟩, ⟨rfl, by first | rfl | omega⟩, rfl, trivial⟩
    · exact BR.cells (newRho_low (by decide)) rfl (fun h => h) ⟨⟨rfl, by first | rfl | omega⟩, ⟨rfl, by first | rfl | omega⟩, ⟨rfl, by first | rfl | omega⟩, ⟨rfl, by first | rfl | omega⟩, rfl, trivial, trivial⟩
    · exact BR.cells (newRho_low (by decide)) rfl (fun h => h) ⟨⟨rfl, rfl⟩, ⟨rfl, rfl⟩, ⟨rfl, rfl⟩, ⟨rfl, rfl⟩, rfl, rfl, trivial⟩
    · exact BR.gen (newRho_low (by decide)) rfl (fun h => h) rfl (fun p hp => ⟨newRho_low (by decide), rfl, rfl, rfl⟩)
    · intro j k hk; injection hk with hk; subst hk
      exact BR.ig (newRho_low (by decide)) rfl (fun h => h) rfl (fun _ _ => rfl) (fun _ _ => rfl)
    · exact BR.none (newRho_high (by decide)) rfl rfl rfl
    · intro j k hk; injection hk with hk; subst hk
      exact BR.none (newRho_high (by decide)) rfl rfl (by show W.rn [] j * 4 = 0; rfl)
  · exact ⟨rfl, ⟨newRho_low (by decide), by first | rfl | omega⟩, rfl, ⟨newRho_low (by decide), by first | rfl | omega⟩, rfl, ⟨newRho_low (by decide), by first | rfl | omega⟩, rfl, ⟨newRho_low (by decide), by first | rfl | omega⟩, rfl, ⟨rfl, by first | rfl | omega⟩, trivial⟩
end Go.Proofs.Ytohleiikedpmkaa.Vm

namespace Go.Proofs.Ytohleiikedpmkaa.Vm
open Go Go.Proofs Go.Proofs.Ytohleiikedpmkaa
set_option maxRecDepth 100000
theorem rds_ok (rr cw : Nat) (X X2 : Nat → Nat → Int) (ro co ro2 co2 : Int) (hi hi2 : Bool)
    (hrr : 1 ≤ rr ∧ rr ≤ 60)
    (hcw : 1 ≤ cw ∧ cw ≤ 120) :
    Contract0 Try.prog 13 [(.agg [(.int .i64 (↑rr)), (.int .i64 (↑cw)), (.sl 1 0 0 rr 1), (.int .i64 ro), (.int .i64 co), (.bool hi)]), (.agg [(.int .i64 (↑rr)), (.int .i64 (↑cw)), (.sl 3 0 0 rr 1), (.int .i64 ro2), (.int .i64 co2), (.bool hi2)])] [(1, (.one ⟨false, false, (.gen rr (fun j_ => (.sl 2 j_ 0 cw 4)))⟩)), (2, (.many (fun j_ => some ⟨false, false, (.ig (W.rl rr (cw * 4) j_) W.ck (fun p_ => (X j_ p_)))⟩))), (3, (.one ⟨false, false, (.gen rr (fun j_ => (.sl 4 j_ 0 cw 4)))⟩)), (4, (.many (fun j_ => some ⟨false, false, (.ig (W.rl rr (cw * 4) j_) W.ck (fun p_ => (X2 j_ p_)))⟩)))] 5 (.agg [(.int .i64 (↑rr)), (.int .i64 (↑cw)), (.int .i64 ro2), (.int .i64 co2), (.bool hi2), (.sl 5 0 0 (List.length (W.runs X2 X cw rr)) 3)]) [] [(5, (.one ⟨true, false, (.row (List.length (W.runs X2 X cw rr) * 3) 3 (fun j_ => [(.int .i64 (↑(W.ra (W.runs X2 X cw rr) j_))), (.int .i64 (↑(W.rb (W.runs X2 X cw rr) j_))), (.sl 6 j_ 0 (W.rn (W.runs X2 X cw rr) j_) 4)]))⟩)), (6, (.many (fun j_ => some ⟨true, false, (.ig (W.rn (W.runs X2 X cw rr) j_ * 4) W.ck (fun p_ => (X2 (W.ra (W.runs X2 X cw rr) j_) (p_ + W.rb (W.runs X2 X cw rr) j_ * 4))))⟩)))] :=
  Contract0.renum (Contract0.of_frunF (res := (.agg [(.int .i64 (↑rr)), (.int .i64 (↑cw)), (.int .i64 ro2), (.int .i64 co2), (.bool hi2), (.sl 477 0 0 (List.length (W.runs X2 X cw rr)) 3)])) (up := [(477, (.one ⟨true, false, (.row (List.length (W.runs X2 X cw rr) * 3) 3 (fun j_ => [(.int .i64 (↑(W.ra (W.runs X2 X cw rr) j_))), (.int .i64 (↑(W.rb (W.runs X2 X cw rr) j_))), (.sl 478 j_ 0 (W.rn (W.runs X2 X cw rr) j_) 4)]))⟩)), (478, (.many (fun j_ => some ⟨true, false, (.ig (W.rn (W.runs X2 X cw rr) j_ * 4) W.ck (fun p_ => (X2 (W.ra (W.runs X2 X cw rr) j_) (p_ + W.rb (W.runs X2 X cw rr) j_ * 4))))⟩)))]) (kill := []) (n0 := 5) (m := [(1, (.one ⟨false, false, (.gen rr (fun j_ => (.sl 2 j_ 0 cw 4)))⟩)), (2, (.many (fun j_ => some ⟨false, false, (.ig (W.rl rr (cw * 4) j_) W.ck (fun p_ => (X j_ p_)))⟩))), (3, (.one ⟨false, false, (.gen rr (fun j_ => (.sl 4 j_ 0 cw 4)))⟩)), (4, (.many (fun j_ => some ⟨false, false, (.ig (W.rl rr (cw * 4) j_) W.ck (fun p_ => (X2 j_ p_)))⟩)))]) (args := [(.agg [(.int .i64 (↑rr)), (.int .i64 (↑cw)), (.sl 1 0 0 rr 1), (.int .i64 ro), (.int .i64 co), (.bool hi)]), (.agg [(.int .i64 (↑rr)), (.int .i64 (↑cw)), (.sl 3 0 0 rr 1), (.int .i64 ro2), (.int .i64 co2), (.bool hi2)])]) (fn := Try.f13) (c := bodyOf Try.f13) (fuel := 300) (k := kOf Try.prog Try.f13) (outs := [477, 478]) (hs := [(20, ⟨.auto, some (.c (.bool (false)))⟩), (26, ⟨.auto, some (.c (.bool (false)))⟩), (30, ⟨.sum ⟨[2, 3, 4, 5, 6], [1, 2, 3, 4, 5, 21, 37, 229], [], 469⟩ (.exit 0) (LXSaI rr cw X X2 ro co ro2 co2 hi hi2 rr (W.runs X2 X cw rr)), none⟩)])
    (cs := [OwnF (fun j_ => some ⟨true, false, (.ig (W.rn (W.runs X2 X cw rr) j_ * 4) W.ck (fun p_ => (X2 (W.ra (W.runs X2 X cw rr) j_) (p_ + W.rb (W.runs X2 X cw rr) j_ * 4))))⟩),
      CodeOk Try.prog 114 469 (kAt (kOf Try.prog Try.f13) [true, true, true, false, true, false]) (LXSa0 rr cw X X2 ro co ro2 co2 hi hi2) (.exit 0) (LXSaI rr cw X X2 ro co ro2 co2 hi hi2 rr (W.runs X2 X cw rr)),
      EB ((↑cw : Int) != (↑cw : Int)) false,
      EB ((↑rr : Int) != (↑rr : Int)) false])
    mixed Try.func13 (by kernel_rfl) (by kernel_rfl) (by kernel_rfl) ⟨rfl, (.inr (RoF.of (fun _ => rfl))), rfl, (.inr (RoF.of (fun _ => rfl))), trivial⟩ (by kernel_rfl) ⟨OwnF.of (fun _ => rfl), (rds_loop rr cw X X2 ro co ro2 co2 hi hi2 (by omega) (by omega)), .mk (bne_f (Decidable.of_not_not (by omega))), .mk (bne_f (Decidable.of_not_not (by omega))), trivial⟩) [.b 1 1 true, .b 2 2 true, .b 3 3 true, .b 4 4 true] [] [(477, 5), (478, 6)] [] (by kernel_rfl) (by kernel_rfl) (by kernel_rfl) (by kernel_rfl) (by kernel_rfl)
end Go.Proofs.Ytohleiikedpmkaa.Vm

namespace Go.Proofs.Ytohleiikedpmkaa.Vm
open Go Go.Proofs Go.Proofs.Ytohleiikedpmkaa
set_option maxRecDepth 100000
theorem rdd_ok_t (rr cw : Nat) (X : Nat → Nat → Int) (ro co : Int) (hi : Bool) (rr2 cw2 : Nat) (X2 : Nat → Nat → Int) (ro2 co2 : Int) (hi2 : Bool)
    (hrr2 : 1 ≤ rr2 ∧ rr2 ≤ 60)
    (hcw2 : 1 ≤ cw2 ∧ cw2 ≤ 120)
    (hd : ¬ (rr2 = rr ∧ cw2 = cw))
    (h0 : (¬(↑rr : Int) = (↑rr2 : Int))) :
    Contract0 Try.prog 13 [(.agg [(.int .i64 (↑rr)), (.int .i64 (↑cw)), (.sl 1 0 0 rr 1), (.int .i64 ro), (.int .i64 co), (.bool hi)]), (.agg [(.int .i64 (↑rr2)), (.int .i64 (↑cw2)), (.sl 3 0 0 rr2 1), (.int .i64 ro2), (.int .i64 co2), (.bool hi2)])] [(1, (.one ⟨false, false, (.gen rr (fun j_ => (.sl 2 j_ 0 cw 4)))⟩)), (2, (.many (fun j_ => some ⟨false, false, (.ig (W.rl rr (cw * 4) j_) W.ck (fun p_ => (X j_ p_)))⟩))), (3, (.one ⟨false, false, (.gen rr2 (fun j_ => (.sl 4 j_ 0 cw2 4)))⟩)), (4, (.many (fun j_ => some ⟨false, false, (.ig (W.rl rr2 (cw2 * 4) j_) W.ck (fun p_ => (X2 j_ p_)))⟩)))] 5 (.agg [(.int .i64 (↑rr2)), (.int .i64 (↑cw2)), (.int .i64 ro2), (.int .i64 co2), (.bool hi2), (.sl 5 0 0 (List.length (W.runs X2 (fun x => W.blank) cw2 rr2)) 3)]) [] [(5, (.one ⟨true, false, (.row (List.length (W.runs X2 (fun x => W.blank) cw2 rr2) * 3) 3 (fun j_ => [(.int .i64 (↑(W.ra (W.runs X2 (fun x => W.blank) cw2 rr2) j_))), (.int .i64 (↑(W.rb (W.runs X2 (fun x => W.blank) cw2 rr2) j_))), (.sl 6 j_ 0 (W.rn (W.runs X2 (fun x => W.blank) cw2 rr2) j_) 4)]))⟩)), (6, (.many (fun j_ => some ⟨true, false, (.ig (W.rn (W.runs X2 (fun x => W.blank) cw2 rr2) j_ * 4) W.ck (fun p_ => (X2 (W.ra (W.runs X2 (fun x => W.blank) cw2 rr2) j_) (p_ + W.rb (W.runs X2 (fun x => W.blank) cw2 rr2) j_ * 4))))⟩)))] :=
  Contract0.renum (Contract0.of_frunF (res := (.agg [(.int .i64 (↑rr2)), (.int .i64 (↑cw2)), (.int .i64 ro2), (.int .i64 co2), (.bool hi2), (.sl 573 0 0 (List.length (W.runs X2 (fun x => W.blank) cw2 rr2)) 3)])) (up := [(573, (.one ⟨true, false, (.row (List.length (W.runs X2 (fun x => W.blank) cw2 rr2) * 3) 3 (fun j_ => [(.int .i64 (↑(W.ra (W.runs X2 (fun x => W.blank) cw2 rr2) j_))), (.int .i64 (↑(W.rb (W.runs X2 (fun x => W.blank) cw2 rr2) j_))), (.sl 574 j_ 0 (W.rn (W.runs X2 (fun x => W.blank) cw2 rr2) j_) 4)]))⟩)), (574, (.many (fun j_ => some ⟨true, false, (.ig (W.rn (W.runs X2 (fun x => W.blank) cw2 rr2) j_ * 4) W.ck (fun p_ => (X2 (W.ra (W.runs X2 (fun x => W.blank) cw2 rr2) j_) (p_ + W.rb (W.runs X2 (fun x => W.blank) cw2 rr2) j_ * 4))))⟩)))]) (kill := []) (n0 := 5) (m := [(1, (.one ⟨false, false, (.gen rr (fun j_ => (.sl 2 j_ 0 cw 4)))⟩)), (2, (.many (fun j_ => some ⟨false, false, (.ig (W.rl rr (cw * 4) j_) W.ck (fun p_ => (X j_ p_)))⟩))), (3, (.one ⟨false, false, (.gen rr2 (fun j_ => (.sl 4 j_ 0 cw2 4)))⟩)), (4, (.many (fun j_ => some ⟨false, false, (.ig (W.rl rr2 (cw2 * 4) j_) W.ck (fun p_ => (X2 j_ p_)))⟩)))]) (args := [(.agg [(.int .i64 (↑rr)), (.int .i64 (↑cw)), (.sl 1 0 0 rr 1), (.int .i64 ro), (.int .i64 co), (.bool hi)]), (.agg [(.int .i64 (↑rr2)), (.int .i64 (↑cw2)), (.sl 3 0 0 rr2 1), (.int .i64 ro2), (.int .i64 co2), (.bool hi2)])]) (fn := Try.f13) (c := bodyOf Try.f13) (fuel := 300) (k := kOf Try.prog Try.f13) (outs := [573, 574]) (hs := [(21, ⟨.auto, some (.c (.bool (true)))⟩), (33, ⟨.call [] (.agg [(.int .i64 (↑rr2)), (.int .i64 (↑cw2)), (.sl 517 0 0 rr2 1), (.int .i64 0), (.int .i64 0), (.bool (false))]) [] [(517, (.one ⟨true, false, (.gen rr2 (fun j_ => (.sl 518 j_ 0 cw2 4)))⟩)), (518, (.many (fun j_ => some ⟨true, true, (.ig (W.rl rr2 (cw2 * 4) j_) W.ck W.blank)⟩)))], none⟩), (36, ⟨.sum ⟨[2, 3, 4, 5, 6], [1, 2, 3, 4, 5, 21, 37, 229, 517, 518], [], 565⟩ (.exit 0) (LXDaI rr cw X rr2 cw2 X2 ro2 co2 hi2 rr2 (W.runs X2 (fun x => W.blank) cw2 rr2)), none⟩)])
    (cs := [OwnF (fun j_ => some ⟨true, false, (.ig (W.rn (W.runs X2 (fun x => W.blank) cw2 rr2) j_ * 4) W.ck (fun p_ => (X2 (W.ra (W.runs X2 (fun x => W.blank) cw2 rr2) j_) (p_ + W.rb (W.runs X2 (fun x => W.blank) cw2 rr2) j_ * 4))))⟩),
      CodeOk Try.prog 114 565 (kAt (kOf Try.prog Try.f13) [true, true, true, false, true, false]) (LXDa0 rr cw X rr2 cw2 X2 ro2 co2 hi2) (.exit 0) (LXDaI rr cw X rr2 cw2 X2 ro2 co2 hi2 rr2 (W.runs X2 (fun x => W.blank) cw2 rr2)),
      Contract Try.prog 23 [(.c (.int .i64 (↑rr2))), (.c (.int .i64 (↑cw2)))] [] 517 (.agg [(.int .i64 (↑rr2)), (.int .i64 (↑cw2)), (.sl 517 0 0 rr2 1), (.int .i64 0), (.int .i64 0), (.bool (false))]) [] [(517, (.one ⟨true, false, (.gen rr2 (fun j_ => (.sl 518 j_ 0 cw2 4)))⟩)), (518, (.many (fun j_ => some ⟨true, true, (.ig (W.rl rr2 (cw2 * 4) j_) W.ck W.blank)⟩)))],
      EB ((↑rr : Int) != (↑rr2 : Int)) true])
    mixed Try.func13 (by kernel_rfl) (by kernel_rfl) (by kernel_rfl) ⟨rfl, (.inr (RoF.of (fun _ => rfl))), rfl, (.inr (RoF.of (fun _ => rfl))), trivial⟩ (by kernel_rfl) ⟨OwnF.of (fun _ => rfl), (rdd_loop rr cw X rr2 cw2 X2 ro2 co2 hi2 (by omega) (by omega) (by omega)), Contract0.in1 (bs_ok rr2 cw2 (by omega) (by omega)) [] [none, none] [(1, 517), (2, 518)] [] (by kernel_rfl), .mk (bne_t h0), trivial⟩) [.b 1 1 true, .b 2 2 true, .b 3 3 true, .b 4 4 true] [] [(573, 5), (574, 6)] [] (by kernel_rfl) (by kernel_rfl) (by kernel_rfl) (by kernel_rfl) (by kernel_rfl)
theorem rdd_ok_f (rr cw : Nat) (X : Nat → Nat → Int) (ro co : Int) (hi : Bool) (rr2 cw2 : Nat) (X2 : Nat → Nat → Int) (ro2 co2 : Int) (hi2 : Bool)
    (hrr2 : 1 ≤ rr2 ∧ rr2 ≤ 60)
    (hcw2 : 1 ≤ cw2 ∧ cw2 ≤ 120)
    (hd : ¬ (rr2 = rr ∧ cw2 = cw))
    (h0 : (¬¬(↑rr : Int) = (↑rr2 : Int))) :
    Contract0 Try.prog 13 [(.agg [(.int .i64 (↑rr)), (.int .i64 (↑cw)), (.sl 1 0 0 rr 1), (.int .i64 ro), (.int .i64 co), (.bool hi)]), (.agg [(.int .i64 (↑rr2)), (.int .i64 (↑cw2)), (.sl 3 0 0 rr2 1), (.int .i64 ro2), (.int .i64 co2), (.bool hi2)])] [(1, (.one ⟨false, false, (.gen rr (fun j_ => (.sl 2 j_ 0 cw 4)))⟩)), (2, (.many (fun j_ => some ⟨false, false, (.ig (W.rl rr (cw * 4) j_) W.ck (fun p_ => (X j_ p_)))⟩))), (3, (.one ⟨false, false, (.gen rr2 (fun j_ => (.sl 4 j_ 0 cw2 4)))⟩)), (4, (.many (fun j_ => some ⟨false, false, (.ig (W.rl rr2 (cw2 * 4) j_) W.ck (fun p_ => (X2 j_ p_)))⟩)))] 5 (.agg [(.int .i64 (↑rr2)), (.int .i64 (↑cw2)), (.int .i64 ro2), (.int .i64 co2), (.bool hi2), (.sl 5 0 0 (List.length (W.runs X2 (fun x => W.blank) cw2 rr2)) 3)]) [] [(5, (.one ⟨true, false, (.row (List.length (W.runs X2 (fun x => W.blank) cw2 rr2) * 3) 3 (fun j_ => [(.int .i64 (↑(W.ra (W.runs X2 (fun x => W.blank) cw2 rr2) j_))), (.int .i64 (↑(W.rb (W.runs X2 (fun x => W.blank) cw2 rr2) j_))), (.sl 6 j_ 0 (W.rn (W.runs X2 (fun x => W.blank) cw2 rr2) j_) 4)]))⟩)), (6, (.many (fun j_ => some ⟨true, false, (.ig (W.rn (W.runs X2 (fun x => W.blank) cw2 rr2) j_ * 4) W.ck (fun p_ => (X2 (W.ra (W.runs X2 (fun x => W.blank) cw2 rr2) j_) (p_ + W.rb (W.runs X2 (fun x => W.blank) cw2 rr2) j_ * 4))))⟩)))] :=
  Contract0.renum (Contract0.of_frunF (res := (.agg [(.int .i64 (↑rr2)), (.int .i64 (↑cw2)), (.int .i64 ro2), (.int .i64 co2), (.bool hi2), (.sl 573 0 0 (List.length (W.runs X2 (fun x => W.blank) cw2 rr2)) 3)])) (up := [(573, (.one ⟨true, false, (.row (List.length (W.runs X2 (fun x => W.blank) cw2 rr2) * 3) 3 (fun j_ => [(.int .i64 (↑(W.ra (W.runs X2 (fun x => W.blank) cw2 rr2) j_))), (.int .i64 (↑(W.rb (W.runs X2 (fun x => W.blank) cw2 rr2) j_))), (.sl 574 j_ 0 (W.rn (W.runs X2 (fun x => W.blank) cw2 rr2) j_) 4)]))⟩)), (574, (.many (fun j_ => some ⟨true, false, (.ig (W.rn (W.runs X2 (fun x => W.blank) cw2 rr2) j_ * 4) W.ck (fun p_ => (X2 (W.ra (W.runs X2 (fun x => W.blank) cw2 rr2) j_) (p_ + W.rb (W.runs X2 (fun x => W.blank) cw2 rr2) j_ * 4))))⟩)))]) (kill := []) (n0 := 5) (m := [(1, (.one ⟨false, false, (.gen rr (fun j_ => (.sl 2 j_ 0 cw 4)))⟩)), (2, (.many (fun j_ => some ⟨false, false, (.ig (W.rl rr (cw * 4) j_) W.ck (fun p_ => (X j_ p_)))⟩))), (3, (.one ⟨false, false, (.gen rr2 (fun j_ => (.sl 4 j_ 0 cw2 4)))⟩)), (4, (.many (fun j_ => some ⟨false, false, (.ig (W.rl rr2 (cw2 * 4) j_) W.ck (fun p_ => (X2 j_ p_)))⟩)))]) (args := [(.agg [(.int .i64 (↑rr)), (.int .i64 (↑cw)), (.sl 1 0 0 rr 1), (.int .i64 ro), (.int .i64 co), (.bool hi)]), (.agg [(.int .i64 (↑rr2)), (.int .i64 (↑cw2)), (.sl 3 0 0 rr2 1), (.int .i64 ro2), (.int .i64 co2), (.bool hi2)])]) (fn := Try.f13) (c := bodyOf Try.f13) (fuel := 300) (k := kOf Try.prog Try.f13) (outs := [573, 574]) (hs := [(21, ⟨.auto, some (.c (.bool (false)))⟩), (26, ⟨.auto, some (.c (.bool (true)))⟩), (33, ⟨.call [] (.agg [(.int .i64 (↑rr2)), (.int .i64 (↑cw2)), (.sl 517 0 0 rr2 1), (.int .i64 0), (.int .i64 0), (.bool (false))]) [] [(517, (.one ⟨true, false, (.gen rr2 (fun j_ => (.sl 518 j_ 0 cw2 4)))⟩)), (518, (.many (fun j_ => some ⟨true, true, (.ig (W.rl rr2 (cw2 * 4) j_) W.ck W.blank)⟩)))], none⟩), (36, ⟨.sum ⟨[2, 3, 4, 5, 6], [1, 2, 3, 4, 5, 21, 37, 229, 517, 518], [], 565⟩ (.exit 0) (LXDaI rr cw X rr2 cw2 X2 ro2 co2 hi2 rr2 (W.runs X2 (fun x => W.blank) cw2 rr2)), none⟩)])
    (cs := [OwnF (fun j_ => some ⟨true, false, (.ig (W.rn (W.runs X2 (fun x => W.blank) cw2 rr2) j_ * 4) W.ck (fun p_ => (X2 (W.ra (W.runs X2 (fun x => W.blank) cw2 rr2) j_) (p_ + W.rb (W.runs X2 (fun x => W.blank) cw2 rr2) j_ * 4))))⟩),
      CodeOk Try.prog 114 565 (kAt (kOf Try.prog Try.f13) [true, true, true, false, true, false]) (LXDa0 rr cw X rr2 cw2 X2 ro2 co2 hi2) (.exit 0) (LXDaI rr cw X rr2 cw2 X2 ro2 co2 hi2 rr2 (W.runs X2 (fun x => W.blank) cw2 rr2)),
      Contract Try.prog 23 [(.c (.int .i64 (↑rr2))), (.c (.int .i64 (↑cw2)))] [] 517 (.agg [(.int .i64 (↑rr2)), (.int .i64 (↑cw2)), (.sl 517 0 0 rr2 1), (.int .i64 0), (.int .i64 0), (.bool (false))]) [] [(517, (.one ⟨true, false, (.gen rr2 (fun j_ => (.sl 518 j_ 0 cw2 4)))⟩)), (518, (.many (fun j_ => some ⟨true, true, (.ig (W.rl rr2 (cw2 * 4) j_) W.ck W.blank)⟩)))],
      EB ((↑cw : Int) != (↑cw2 : Int)) true,
      EB ((↑rr : Int) != (↑rr2 : Int)) false])
    mixed Try.func13 (by kernel_rfl) (by kernel_rfl) (by kernel_rfl) ⟨rfl, (.inr (RoF.of (fun _ => rfl))), rfl, (.inr (RoF.of (fun _ => rfl))), trivial⟩ (by kernel_rfl) ⟨OwnF.of (fun _ => rfl), (rdd_loop rr cw X rr2 cw2 X2 ro2 co2 hi2 (by omega) (by omega) (by omega)), Contract0.in1 (bs_ok rr2 cw2 (by omega) (by omega)) [] [none, none] [(1, 517), (2, 518)] [] (by kernel_rfl), .mk (bne_t (by omega)), .mk (bne_f (Decidable.of_not_not h0)), trivial⟩) [.b 1 1 true, .b 2 2 true, .b 3 3 true, .b 4 4 true] [] [(573, 5), (574, 6)] [] (by kernel_rfl) (by kernel_rfl) (by kernel_rfl) (by kernel_rfl) (by kernel_rfl)
end Go.Proofs.Ytohleiikedpmkaa.Vm

namespace Go.Proofs.Ytohleiikedpmkaa.W
def scB (rr cw : Nat) (X : Nat → Nat → Int) (ro co : Int) (hi : Bool) (rr2 cw2 : Nat) (X2 : Nat → Nat → Int) (ro2 co2 : Int) (hi2 : Bool) : Bool :=
  decide (rr = rr2 ∧ cw = cw2 ∧ ro = ro2 ∧ co = co2 ∧ hi = hi2) && eqS rr cw X X2
theorem scB_t {rr cw : Nat} {X : Nat → Nat → Int} {ro co : Int} {hi : Bool} {rr2 cw2 : Nat} {X2 : Nat → Nat → Int} {ro2 co2 : Int} {hi2 : Bool} (h : rr = rr2 ∧ cw = cw2 ∧ ro = ro2 ∧ co = co2 ∧ hi = hi2) : scB rr cw X ro co hi rr2 cw2 X2 ro2 co2 hi2 = eqS rr cw X X2 := by
  unfold scB; rw [decide_eq_true h]; rfl
theorem scB_f {rr cw : Nat} {X : Nat → Nat → Int} {ro co : Int} {hi : Bool} {rr2 cw2 : Nat} {X2 : Nat → Nat → Int} {ro2 co2 : Int} {hi2 : Bool} (h : ¬ (rr = rr2 ∧ cw = cw2 ∧ ro = ro2 ∧ co = co2 ∧ hi = hi2)) : scB rr cw X ro co hi rr2 cw2 X2 ro2 co2 hi2 = false := by
  unfold scB; rw [decide_eq_false h]; rfl
end Go.Proofs.Ytohleiikedpmkaa.W
namespace Go.Proofs.Ytohleiikedpmkaa.Vm
open Go Go.Proofs Go.Proofs.Ytohleiikedpmkaa
theorem rsame_any (rr cw : Nat) (X : Nat → Nat → Int) (ro co : Int) (hi : Bool) (rr2 cw2 : Nat) (X2 : Nat → Nat → Int) (ro2 co2 : Int) (hi2 : Bool) (hrr : 1 ≤ rr ∧ rr ≤ 60) (hcw : 1 ≤ cw ∧ cw ≤ 120) :
    Contract0 Try.prog 17 [(.agg [(.int .i64 (↑rr)), (.int .i64 (↑cw)), (.sl 1 0 0 rr 1), (.int .i64 ro), (.int .i64 co), (.bool hi)]), (.agg [(.int .i64 (↑rr2)), (.int .i64 (↑cw2)), (.sl 3 0 0 rr2 1), (.int .i64 ro2), (.int .i64 co2), (.bool hi2)])] [(1, (.one ⟨false, false, (.gen rr (fun j_ => (.sl 2 j_ 0 cw 4)))⟩)), (2, (.many (fun j_ => some ⟨false, false, (.ig (W.rl rr (cw * 4) j_) W.ck (X j_))⟩))), (3, (.one ⟨false, false, (.gen rr2 (fun j_ => (.sl 4 j_ 0 cw2 4)))⟩)), (4, (.many (fun j_ => some ⟨false, false, (.ig (W.rl rr2 (cw2 * 4) j_) W.ck (X2 j_))⟩)))] 5 (.c (.bool (W.scB rr cw X ro co hi rr2 cw2 X2 ro2 co2 hi2))) [] [] := by
  by_cases h0 : (rr : Int) = (rr2 : Int)
  · by_cases h1 : (cw : Int) = (cw2 : Int)
    · by_cases h2 : ro = ro2
      · by_cases h3 : co = co2
        · by_cases h4 : (hi == hi2) = true
          · rw [W.scB_t ⟨by omega, by omega, h2, h3, by simpa using h4⟩]; exact rsm_ttttt rr cw X ro co hi rr2 cw2 X2 ro2 co2 hi2 hrr hcw h0 h1 h2 h3 h4
          · rw [W.scB_f (fun h => h4 (by rw [h.2.2.2.2]; simp))]; exact rsm_ttttf rr cw X ro co hi rr2 cw2 X2 ro2 co2 hi2 hrr hcw h0 h1 h2 h3 h4
        · rw [W.scB_f (fun h => h3 h.2.2.2.1)]; exact rsm_tttf rr cw X ro co hi rr2 cw2 X2 ro2 co2 hi2 hrr hcw h0 h1 h2 h3
      · rw [W.scB_f (fun h => h2 h.2.2.1)]; exact rsm_ttf rr cw X ro co hi rr2 cw2 X2 ro2 co2 hi2 hrr hcw h0 h1 h2
    · rw [W.scB_f (fun h => h1 (by rw [h.2.1]))]; exact rsm_tf rr cw X ro co hi rr2 cw2 X2 ro2 co2 hi2 hrr hcw h0 h1
  · rw [W.scB_f (fun h => h0 (by rw [h.1]))]; exact rsm_f rr cw X ro co hi rr2 cw2 X2 ro2 co2 hi2 hrr hcw h0
theorem rsame_eq (rr cw : Nat) (X X2 : Nat → Nat → Int) (ro co : Int) (hi : Bool) (hrr : 1 ≤ rr ∧ rr ≤ 60) (hcw : 1 ≤ cw ∧ cw ≤ 120) (hE : ∀ j, j < rr → ∀ p, p < cw * 4 → X j p = X2 j p) :
    Contract0 Try.prog 17 [(.agg [(.int .i64 (↑rr)), (.int .i64 (↑cw)), (.sl 1 0 0 rr 1), (.int .i64 ro), (.int .i64 co), (.bool hi)]), (.agg [(.int .i64 (↑rr)), (.int .i64 (↑cw)), (.sl 3 0 0 rr 1), (.int .i64 ro), (.int .i64 co), (.bool hi)])] [(1, (.one ⟨false, false, (.gen rr (fun j_ => (.sl 2 j_ 0 cw 4)))⟩)), (2, (.many (fun j_ => some ⟨false, false, (.ig (W.rl rr (cw * 4) j_) W.ck (X j_))⟩))), (3, (.one ⟨false, false, (.gen rr (fun j_ => (.sl 4 j_ 0 cw 4)))⟩)), (4, (.many (fun j_ => some ⟨false, false, (.ig (W.rl rr (cw * 4) j_) W.ck (X2 j_))⟩)))] 5 (.c (.bool (true))) [] [] := by
  have h := rsame_any rr cw X ro co hi rr cw X2 ro co hi hrr hcw
  rw [W.scB_t ⟨rfl, rfl, rfl, rfl, rfl⟩, show W.eqS rr cw X X2 = true from decide_eq_true hE] at h
  exact h
theorem rdiff_ok (rr cw : Nat) (X : Nat → Nat → Int) (ro co : Int) (hi : Bool) (rr2 cw2 : Nat) (X2 : Nat → Nat → Int) (ro2 co2 : Int) (hi2 : Bool) (hrr2 : 1 ≤ rr2 ∧ rr2 ≤ 60) (hcw2 : 1 ≤ cw2 ∧ cw2 ≤ 120) :
    Contract0 Try.prog 13 [(.agg [(.int .i64 (↑rr)), (.int .i64 (↑cw)), (.sl 1 0 0 rr 1), (.int .i64 ro), (.int .i64 co), (.bool hi)]), (.agg [(.int .i64 (↑rr2)), (.int .i64 (↑cw2)), (.sl 3 0 0 rr2 1), (.int .i64 ro2), (.int .i64 co2), (.bool hi2)])] [(1, (.one ⟨false, false, (.gen rr (fun j_ => (.sl 2 j_ 0 cw 4)))⟩)), (2, (.many (fun j_ => some ⟨false, false, (.ig (W.rl rr (cw * 4) j_) W.ck (X j_))⟩))), (3, (.one ⟨false, false, (.gen rr2 (fun j_ => (.sl 4 j_ 0 cw2 4)))⟩)), (4, (.many (fun j_ => some ⟨false, false, (.ig (W.rl rr2 (cw2 * 4) j_) W.ck (X2 j_))⟩)))] 5 (.agg [(.int .i64 (↑rr2)), (.int .i64 (↑cw2)), (.int .i64 ro2), (.int .i64 co2), (.bool hi2), (.sl 5 0 0 (List.length (W.runs X2 (W.frX rr cw X rr2 cw2) cw2 rr2)) 3)]) [] [(5, (.one ⟨true, false, (.row (List.length (W.runs X2 (W.frX rr cw X rr2 cw2) cw2 rr2) * 3) 3 (fun j_ => [(.int .i64 (↑(W.ra (W.runs X2 (W.frX rr cw X rr2 cw2) cw2 rr2) j_))), (.int .i64 (↑(W.rb (W.runs X2 (W.frX rr cw X rr2 cw2) cw2 rr2) j_))), (.sl 6 j_ 0 (W.rn (W.runs X2 (W.frX rr cw X rr2 cw2) cw2 rr2) j_) 4)]))⟩)), (6, (.many (fun j_ => some ⟨true, false, (.ig (W.rn (W.runs X2 (W.frX rr cw X rr2 cw2) cw2 rr2) j_ * 4) W.ck (fun p_ => (X2 (W.ra (W.runs X2 (W.frX rr cw X rr2 cw2) cw2 rr2) j_) (p_ + W.rb (W.runs X2 (W.frX rr cw X rr2 cw2) cw2 rr2) j_ * 4))))⟩)))] := by
  by_cases hd : rr2 = rr ∧ cw2 = cw
  · obtain ⟨rfl, rfl⟩ := hd
    rw [frX_self]
    exact rds_ok rr2 cw2 X X2 ro co ro2 co2 hi hi2 hrr2 hcw2
  · have e : W.frX rr cw X rr2 cw2 = fun _ => W.blank := by unfold W.frX; rw [if_neg hd]
    rw [e]
    by_cases h0 : (rr : Int) = (rr2 : Int)
    · exact rdd_ok_f rr cw X ro co hi rr2 cw2 X2 ro2 co2 hi2 hrr2 hcw2 hd (not_not_intro h0)
    · exact rdd_ok_t rr cw X ro co hi rr2 cw2 X2 ro2 co2 hi2 hrr2 hcw2 hd h0
end Go.Proofs.Ytohleiikedpmkaa.Vm

namespace Go.Proofs.Ytohleiikedpmkaa.Vm
open Go Go.Proofs Go.Proofs.Ytohleiikedpmkaa
set_option maxRecDepth 100000
theorem apg_g (rr cw : Nat) (X : Nat → Nat → Int) (ro co : Int) (hi : Bool) (rr2 cw2 : Nat) (ro2 co2 : Int) (hi2 : Bool) (A B : Nat → Int) (nn MM : Nat → Nat) (G : Nat → Nat → Int) (N m : Nat)
    (hrr : 1 ≤ rr ∧ rr ≤ 60)
    (hcw : 1 ≤ cw ∧ cw ≤ 120)
    (hro : 0 ≤ ro ∧ ro < rr)
    (hco : 0 ≤ co ∧ co < cw)
    (hX : ∀ j, j < rr → W.okRow (X j) cw)
    (hrr2 : 1 ≤ rr2 ∧ rr2 ≤ 60)
    (hcw2 : 1 ≤ cw2 ∧ cw2 ≤ 120)
    (hro2 : 0 ≤ ro2 ∧ ro2 < rr2)
    (hco2 : 0 ≤ co2 ∧ co2 < cw2)
    (hm : m ≤ N)
    (hms : m ≤ 1048576)
    (hnM : ∀ j, nn j ≤ MM j)
    (hMs : ∀ j, MM j ≤ 1048576)
    (hA : ∀ j, -9223372036854775808 ≤ A j ∧ A j < 9223372036854775808)
    (hB : ∀ j, -9223372036854775808 ≤ B j ∧ B j < 9223372036854775808)
    (hE : ∀ i, i < m → W.okRun rr2 cw2 (A i) (B i) (nn i) (G i)) :
    Contract0 Try.prog 15 [(.agg [(.int .i64 (↑rr)), (.int .i64 (↑cw)), (.sl 1 0 0 rr 1), (.int .i64 ro), (.int .i64 co), (.bool hi)]), (.agg [(.int .i64 (↑rr2)), (.int .i64 (↑cw2)), (.int .i64 ro2), (.int .i64 co2), (.bool hi2), (.sl 3 0 0 m 3)])] [(1, (.one ⟨false, false, (.gen rr (fun j_ => (.sl 2 j_ 0 cw 4)))⟩)), (2, (.many (fun j_ => some ⟨false, false, (.ig (W.rl rr (cw * 4) j_) W.ck (fun p_ => (X j_ p_)))⟩))), (3, (.one ⟨false, false, (.row (N * 3) 3 (fun j_ => [(.int .i64 (A j_)), (.int .i64 (B j_)), (.sl 4 j_ 0 (nn j_) 4)]))⟩)), (4, (.many (fun j_ => some ⟨false, false, (.ig (MM j_ * 4) W.ck (fun p_ => (G j_ p_)))⟩)))] 5 (.tup [(.agg [(.int .i64 (↑rr2)), (.int .i64 (↑cw2)), (.sl 5 0 0 rr2 1), (.int .i64 ro2), (.int .i64 co2), (.bool hi2)]), (.c (.int .i64 0))]) [] [(5, (.one ⟨true, false, (.gen rr2 (fun j_ => (.sl 6 j_ 0 cw2 4)))⟩)), (6, (.many (fun j_ => some ⟨true, false, (.ig (W.rl rr2 (cw2 * 4) j_) W.ck (fun p_ => (W.apG A B nn G (W.frX rr cw X rr2 cw2) m j_ p_)))⟩)))] :=
  Contract0.renum (Contract0.of_frunF (res := (.tup [(.agg [(.int .i64 (↑rr2)), (.int .i64 (↑cw2)), (.sl 453 0 0 rr2 1), (.int .i64 ro2), (.int .i64 co2), (.bool hi2)]), (.c (.int .i64 0))])) (up := [(453, (.one ⟨true, false, (.gen rr2 (fun j_ => (.sl 454 j_ 0 cw2 4)))⟩)), (454, (.many (fun j_ => some ⟨true, false, (.ig (W.rl rr2 (cw2 * 4) j_) W.ck (fun p_ => (W.apG A B nn G (W.frX rr cw X rr2 cw2) m j_ p_)))⟩)))]) (kill := []) (n0 := 5) (m := [(1, (.one ⟨false, false, (.gen rr (fun j_ => (.sl 2 j_ 0 cw 4)))⟩)), (2, (.many (fun j_ => some ⟨false, false, (.ig (W.rl rr (cw * 4) j_) W.ck (fun p_ => (X j_ p_)))⟩))), (3, (.one ⟨false, false, (.row (N * 3) 3 (fun j_ => [(.int .i64 (A j_)), (.int .i64 (B j_)), (.sl 4 j_ 0 (nn j_) 4)]))⟩)), (4, (.many (fun j_ => some ⟨false, false, (.ig (MM j_ * 4) W.ck (fun p_ => (G j_ p_)))⟩)))]) (args := [(.agg [(.int .i64 (↑rr)), (.int .i64 (↑cw)), (.sl 1 0 0 rr 1), (.int .i64 ro), (.int .i64 co), (.bool hi)]), (.agg [(.int .i64 (↑rr2)), (.int .i64 (↑cw2)), (.int .i64 ro2), (.int .i64 co2), (.bool hi2), (.sl 3 0 0 m 3)])]) (fn := Try.f15) (c := bodyOf Try.f15) (fuel := 300) (k := kOf Try.prog Try.f15) (outs := [453, 454]) (hs := [(5, ⟨.call [1, 2] (.c (.bool (true))) [] [], none⟩), (16, ⟨.call [] (.c (.bool (true))) [] [], none⟩), (29, ⟨.call [1, 2] (.c (.sl 453 0 0 rr2 1)) [] [(453, (.one ⟨true, false, (.gen rr2 (fun j_ => (.sl 454 j_ 0 cw2 4)))⟩)), (454, (.many (fun j_ => some ⟨true, false, (.ig (W.rl rr2 (cw2 * 4) j_) W.ck (fun p_ => (W.frX rr cw (fun j_ p_ => X j_ p_) rr2 cw2 j_ p_)))⟩)))], none⟩), (43, ⟨.sum ⟨[3, 4, 6, 44, 45, 5, 46], [1, 2, 3, 4, 21, 37, 453, 454, 581], [], 677⟩ (.exit 0) (LGzI rr cw X rr2 cw2 ro2 co2 hi2 A B nn MM G N m m (W.apG A B nn G (W.frX rr cw X rr2 cw2) m)), none⟩)])
    (cs := [OwnF (fun j_ => some ⟨true, false, (.ig (W.rl rr2 (cw2 * 4) j_) W.ck (fun p_ => (W.apG A B nn G (W.frX rr cw X rr2 cw2) m j_ p_)))⟩),
      CodeOk Try.prog 108 677 (kAt (kOf Try.prog Try.f15) [true, true, true, false, true, false]) (LGz0 rr cw X rr2 cw2 ro2 co2 hi2 A B nn MM G N m) (.exit 0) (LGzI rr cw X rr2 cw2 ro2 co2 hi2 A B nn MM G N m m (W.apG A B nn G (W.frX rr cw X rr2 cw2) m)),
      Contract Try.prog 30 [(.agg [(.int .i64 (↑rr)), (.int .i64 (↑cw)), (.sl 1 0 0 rr 1), (.int .i64 ro), (.int .i64 co), (.bool hi)]), (.c (.int .i64 (↑rr2))), (.c (.int .i64 (↑cw2)))] [(1, (.one ⟨false, false, (.gen rr (fun j_ => (.sl 2 j_ 0 cw 4)))⟩)), (2, (.many (fun j_ => some ⟨false, false, (.ig (W.rl rr (cw * 4) j_) W.ck (fun p_ => (X j_ p_)))⟩)))] 453 (.c (.sl 453 0 0 rr2 1)) [] [(453, (.one ⟨true, false, (.gen rr2 (fun j_ => (.sl 454 j_ 0 cw2 4)))⟩)), (454, (.many (fun j_ => some ⟨true, false, (.ig (W.rl rr2 (cw2 * 4) j_) W.ck (fun p_ => (W.frX rr cw (fun j_ p_ => X j_ p_) rr2 cw2 j_ p_)))⟩)))],
      Contract Try.prog 32 [(.c (.int .i64 (↑rr2))), (.c (.int .i64 (↑cw2))), (.c (.int .i64 ro2)), (.c (.int .i64 co2))] [] 261 (.c (.bool (true))) [] [],
      Contract Try.prog 19 [(.agg [(.int .i64 (↑rr)), (.int .i64 (↑cw)), (.sl 1 0 0 rr 1), (.int .i64 ro), (.int .i64 co), (.bool hi)])] [(1, (.one ⟨false, false, (.gen rr (fun j_ => (.sl 2 j_ 0 cw 4)))⟩)), (2, (.many (fun j_ => some ⟨false, false, (.ig (W.rl rr (cw * 4) j_) W.ck (fun p_ => (X j_ p_)))⟩)))] 85 (.c (.bool (true))) [] []])
    mixed Try.func15 (by kernel_rfl) (by kernel_rfl) (by kernel_rfl) ⟨rfl, (.inr (RoF.of (fun _ => rfl))), rfl, (.inr (RoF.of (fun _ => rfl))), trivial⟩ (by kernel_rfl) ⟨OwnF.of (fun _ => rfl), (apg_ok rr cw X rr2 cw2 ro2 co2 hi2 A B nn MM G N m (by omega) (by omega) (by omega) (by omega) (by omega) (by omega) (by omega) (by omega) (by omega) (by omega) (by omega) (by omega) (by omega) (by omega)), Contract0.in1 (from_ok rr cw (fun j_ p_ => X j_ p_) ro co hi rr2 cw2 (by omega) (by omega) (by omega) (by omega) (by omega) (by omega) (by omega)) [.b 1 1 true [], .b 2 2 true []] [none, none, none] [(3, 453), (4, 454)] [] (by kernel_rfl), Contract0.in1 (size_ok ((↑rr2 : Int)) ((↑cw2 : Int)) ro2 co2 (by omega) (by omega) (by omega) (by omega)) [] [none, none, none, none] [] [] (by kernel_rfl), Contract0.in1 (right_ok rr cw (fun j_ p_ => X j_ p_) ro co hi (by omega) (by omega) (by omega) (by omega) (by omega)) [.b 1 1 true [], .b 2 2 true []] [none] [] [] (by kernel_rfl), trivial⟩) [.b 1 1 true, .b 2 2 true, .b 3 3 true, .b 4 4 true] [] [(453, 5), (454, 6)] [] (by kernel_rfl) (by kernel_rfl) (by kernel_rfl) (by kernel_rfl) (by kernel_rfl)
theorem apg_b (rr cw : Nat) (X : Nat → Nat → Int) (ro co : Int) (hi : Bool) (rr2 cw2 : Nat) (ro2 co2 : Int) (hi2 : Bool) (A B : Nat → Int) (nn MM : Nat → Nat) (G : Nat → Nat → Int) (N m : Nat)
    (hrr : 1 ≤ rr ∧ rr ≤ 60)
    (hcw : 1 ≤ cw ∧ cw ≤ 120)
    (hro : 0 ≤ ro ∧ ro < rr)
    (hco : 0 ≤ co ∧ co < cw)
    (hX : ∀ j, j < rr → W.okRow (X j) cw)
    (hrr2 : 1 ≤ rr2 ∧ rr2 ≤ 60)
    (hcw2 : 1 ≤ cw2 ∧ cw2 ≤ 120)
    (hro2 : 0 ≤ ro2 ∧ ro2 < rr2)
    (hco2 : 0 ≤ co2 ∧ co2 < cw2)
    (hm : m ≤ N)
    (hms : m ≤ 1048576)
    (hnM : ∀ j, nn j ≤ MM j)
    (hMs : ∀ j, MM j ≤ 1048576)
    (hA : ∀ j, -9223372036854775808 ≤ A j ∧ A j < 9223372036854775808)
    (hB : ∀ j, -9223372036854775808 ≤ B j ∧ B j < 9223372036854775808)
    (hE : ¬ ∀ i, i < m → W.okRun rr2 cw2 (A i) (B i) (nn i) (G i)) :
    Contract0 Try.prog 15 [(.agg [(.int .i64 (↑rr)), (.int .i64 (↑cw)), (.sl 1 0 0 rr 1), (.int .i64 ro), (.int .i64 co), (.bool hi)]), (.agg [(.int .i64 (↑rr2)), (.int .i64 (↑cw2)), (.int .i64 ro2), (.int .i64 co2), (.bool hi2), (.sl 3 0 0 m 3)])] [(1, (.one ⟨false, false, (.gen rr (fun j_ => (.sl 2 j_ 0 cw 4)))⟩)), (2, (.many (fun j_ => some ⟨false, false, (.ig (W.rl rr (cw * 4) j_) W.ck (fun p_ => (X j_ p_)))⟩))), (3, (.one ⟨false, false, (.row (N * 3) 3 (fun j_ => [(.int .i64 (A j_)), (.int .i64 (B j_)), (.sl 4 j_ 0 (nn j_) 4)]))⟩)), (4, (.many (fun j_ => some ⟨false, false, (.ig (MM j_ * 4) W.ck (fun p_ => (G j_ p_)))⟩)))] 5 (.tup [(.agg [(.int .i64 0), (.int .i64 0), .nils, (.int .i64 0), (.int .i64 0), (.bool (false))]), (.c (.int .i64 1))]) [] [] :=
  Contract0.of_frunF (res := (.tup [(.agg [(.int .i64 0), (.int .i64 0), .nils, (.int .i64 0), (.int .i64 0), (.bool (false))]), (.c (.int .i64 1))])) (up := []) (kill := []) (n0 := 5) (m := [(1, (.one ⟨false, false, (.gen rr (fun j_ => (.sl 2 j_ 0 cw 4)))⟩)), (2, (.many (fun j_ => some ⟨false, false, (.ig (W.rl rr (cw * 4) j_) W.ck (fun p_ => (X j_ p_)))⟩))), (3, (.one ⟨false, false, (.row (N * 3) 3 (fun j_ => [(.int .i64 (A j_)), (.int .i64 (B j_)), (.sl 4 j_ 0 (nn j_) 4)]))⟩)), (4, (.many (fun j_ => some ⟨false, false, (.ig (MM j_ * 4) W.ck (fun p_ => (G j_ p_)))⟩)))]) (args := [(.agg [(.int .i64 (↑rr)), (.int .i64 (↑cw)), (.sl 1 0 0 rr 1), (.int .i64 ro), (.int .i64 co), (.bool hi)]), (.agg [(.int .i64 (↑rr2)), (.int .i64 (↑cw2)), (.int .i64 ro2), (.int .i64 co2), (.bool hi2), (.sl 3 0 0 m 3)])]) (fn := Try.f15) (c := bodyOf Try.f15) (fuel := 300) (k := kOf Try.prog Try.f15) (outs := []) (hs := [(5, ⟨.call [1, 2] (.c (.bool (true))) [] [], none⟩), (16, ⟨.call [] (.c (.bool (true))) [] [], none⟩), (29, ⟨.call [1, 2] (.c (.sl 453 0 0 rr2 1)) [] [(453, (.one ⟨true, false, (.gen rr2 (fun j_ => (.sl 454 j_ 0 cw2 4)))⟩)), (454, (.many (fun j_ => some ⟨true, false, (.ig (W.rl rr2 (cw2 * 4) j_) W.ck (fun p_ => (W.frX rr cw (fun j_ p_ => X j_ p_) rr2 cw2 j_ p_)))⟩)))], none⟩), (43, ⟨.sum ⟨[3, 4, 6, 44, 45, 5, 46], [1, 2, 3, 4, 21, 37, 453, 454, 581], [], 677⟩ (.ret) ({ tm := [(4, V.c (C.ptr 37 0 0)), (5, V.c (C.int IntKind.i64 1))], me := [(37, Ent.one { own := true, ex := true, body := Body.cells [C.int IntKind.i64 0, C.int IntKind.i64 0, C.nils, C.int IntKind.i64 0, C.int IntKind.i64 0, C.bool false] })], nx := 693 }), none⟩)])
    (cs := [CodeOk Try.prog 108 677 (kAt (kOf Try.prog Try.f15) [true, true, true, false, true, false]) (LGz0 rr cw X rr2 cw2 ro2 co2 hi2 A B nn MM G N m) (.ret) ({ tm := [(4, V.c (C.ptr 37 0 0)), (5, V.c (C.int IntKind.i64 1))], me := [(37, Ent.one { own := true, ex := true, body := Body.cells [C.int IntKind.i64 0, C.int IntKind.i64 0, C.nils, C.int IntKind.i64 0, C.int IntKind.i64 0, C.bool false] })], nx := 693 }),
      Contract Try.prog 30 [(.agg [(.int .i64 (↑rr)), (.int .i64 (↑cw)), (.sl 1 0 0 rr 1), (.int .i64 ro), (.int .i64 co), (.bool hi)]), (.c (.int .i64 (↑rr2))), (.c (.int .i64 (↑cw2)))] [(1, (.one ⟨false, false, (.gen rr (fun j_ => (.sl 2 j_ 0 cw 4)))⟩)), (2, (.many (fun j_ => some ⟨false, false, (.ig (W.rl rr (cw * 4) j_) W.ck (fun p_ => (X j_ p_)))⟩)))] 453 (.c (.sl 453 0 0 rr2 1)) [] [(453, (.one ⟨true, false, (.gen rr2 (fun j_ => (.sl 454 j_ 0 cw2 4)))⟩)), (454, (.many (fun j_ => some ⟨true, false, (.ig (W.rl rr2 (cw2 * 4) j_) W.ck (fun p_ => (W.frX rr cw (fun j_ p_ => X j_ p_) rr2 cw2 j_ p_)))⟩)))],
      Contract Try.prog 32 [(.c (.int .i64 (↑rr2))), (.c (.int .i64 (↑cw2))), (.c (.int .i64 ro2)), (.c (.int .i64 co2))] [] 261 (.c (.bool (true))) [] [],
      Contract Try.prog 19 [(.agg [(.int .i64 (↑rr)), (.int .i64 (↑cw)), (.sl 1 0 0 rr 1), (.int .i64 ro), (.int .i64 co), (.bool hi)])] [(1, (.one ⟨false, false, (.gen rr (fun j_ => (.sl 2 j_ 0 cw 4)))⟩)), (2, (.many (fun j_ => some ⟨false, false, (.ig (W.rl rr (cw * 4) j_) W.ck (fun p_ => (X j_ p_)))⟩)))] 85 (.c (.bool (true))) [] []])
    mixed Try.func15 (by kernel_rfl) (by kernel_rfl) (by kernel_rfl) ⟨rfl, (.inr (RoF.of (fun _ => rfl))), rfl, (.inr (RoF.of (fun _ => rfl))), trivial⟩ (by kernel_rfl) ⟨(apg_bad rr cw X rr2 cw2 ro2 co2 hi2 A B nn MM G N m (by omega) (by omega) (by omega) (by omega) (by omega) (by omega) (by omega) (by omega) (by omega) (by omega) (by omega) (by omega) (by omega) (by omega)), Contract0.in1 (from_ok rr cw (fun j_ p_ => X j_ p_) ro co hi rr2 cw2 (by omega) (by omega) (by omega) (by omega) (by omega) (by omega) (by omega)) [.b 1 1 true [], .b 2 2 true []] [none, none, none] [(3, 453), (4, 454)] [] (by kernel_rfl), Contract0.in1 (size_ok ((↑rr2 : Int)) ((↑cw2 : Int)) ro2 co2 (by omega) (by omega) (by omega) (by omega)) [] [none, none, none, none] [] [] (by kernel_rfl), Contract0.in1 (right_ok rr cw (fun j_ p_ => X j_ p_) ro co hi (by omega) (by omega) (by omega) (by omega) (by omega)) [.b 1 1 true [], .b 2 2 true []] [none] [] [] (by kernel_rfl), trivial⟩
end Go.Proofs.Ytohleiikedpmkaa.Vm

namespace Go.Proofs.Ytohleiikedpmkaa.Vm
open Go Go.Proofs Go.Proofs.Ytohleiikedpmkaa
set_option maxRecDepth 100000
theorem apz (rr cw : Nat) (X : Nat → Nat → Int) (ro co : Int) (hi : Bool) (pr pc po pq : Int) (hi2 : Bool) (A B : Nat → Int) (nn MM : Nat → Nat) (G : Nat → Nat → Int) (N m : Nat)
    (hrr : 1 ≤ rr ∧ rr ≤ 60)
    (hcw : 1 ≤ cw ∧ cw ≤ 120)
    (hro : 0 ≤ ro ∧ ro < rr)
    (hco : 0 ≤ co ∧ co < cw)
    (hX : ∀ j, j < rr → W.okRow (X j) cw)
    (hm : m ≤ N)
    (hms : m ≤ 1048576)
    (hnM : ∀ j, nn j ≤ MM j)
    (hMs : ∀ j, MM j ≤ 1048576)
    (hA : ∀ j, -9223372036854775808 ≤ A j ∧ A j < 9223372036854775808)
    (hB : ∀ j, -9223372036854775808 ≤ B j ∧ B j < 9223372036854775808)
    (hz : W.szB pr pc po pq = false) :
    Contract0 Try.prog 15 [(.agg [(.int .i64 (↑rr)), (.int .i64 (↑cw)), (.sl 1 0 0 rr 1), (.int .i64 ro), (.int .i64 co), (.bool hi)]), (.agg [(.int .i64 pr), (.int .i64 pc), (.int .i64 po), (.int .i64 pq), (.bool hi2), (.sl 3 0 0 m 3)])] [(1, (.one ⟨false, false, (.gen rr (fun j_ => (.sl 2 j_ 0 cw 4)))⟩)), (2, (.many (fun j_ => some ⟨false, false, (.ig (W.rl rr (cw * 4) j_) W.ck (fun p_ => (X j_ p_)))⟩))), (3, (.one ⟨false, false, (.row (N * 3) 3 (fun j_ => [(.int .i64 (A j_)), (.int .i64 (B j_)), (.sl 4 j_ 0 (nn j_) 4)]))⟩)), (4, (.many (fun j_ => some ⟨false, false, (.ig (MM j_ * 4) W.ck (fun p_ => (G j_ p_)))⟩)))] 5 (.tup [(.agg [(.int .i64 0), (.int .i64 0), .nils, (.int .i64 0), (.int .i64 0), (.bool (false))]), (.c (.int .i64 1))]) [] [] :=
  Contract0.of_frunF (res := (.tup [(.agg [(.int .i64 0), (.int .i64 0), .nils, (.int .i64 0), (.int .i64 0), (.bool (false))]), (.c (.int .i64 1))])) (up := []) (kill := []) (n0 := 5) (m := [(1, (.one ⟨false, false, (.gen rr (fun j_ => (.sl 2 j_ 0 cw 4)))⟩)), (2, (.many (fun j_ => some ⟨false, false, (.ig (W.rl rr (cw * 4) j_) W.ck (fun p_ => (X j_ p_)))⟩))), (3, (.one ⟨false, false, (.row (N * 3) 3 (fun j_ => [(.int .i64 (A j_)), (.int .i64 (B j_)), (.sl 4 j_ 0 (nn j_) 4)]))⟩)), (4, (.many (fun j_ => some ⟨false, false, (.ig (MM j_ * 4) W.ck (fun p_ => (G j_ p_)))⟩)))]) (args := [(.agg [(.int .i64 (↑rr)), (.int .i64 (↑cw)), (.sl 1 0 0 rr 1), (.int .i64 ro), (.int .i64 co), (.bool hi)]), (.agg [(.int .i64 pr), (.int .i64 pc), (.int .i64 po), (.int .i64 pq), (.bool hi2), (.sl 3 0 0 m 3)])]) (fn := Try.f15) (c := bodyOf Try.f15) (fuel := 300) (k := kOf Try.prog Try.f15) (outs := []) (hs := [(5, ⟨.call [1, 2] (.c (.bool (true))) [] [], none⟩), (16, ⟨.call [] (.c (.bool (W.szB pr pc po pq))) [] [], none⟩), (17, ⟨.auto, some (.c (.bool (true)))⟩)])
    (cs := [EB (!W.szB pr pc po pq) true,
      Contract Try.prog 32 [(.c (.int .i64 pr)), (.c (.int .i64 pc)), (.c (.int .i64 po)), (.c (.int .i64 pq))] [] 261 (.c (.bool (W.szB pr pc po pq))) [] [],
      Contract Try.prog 19 [(.agg [(.int .i64 (↑rr)), (.int .i64 (↑cw)), (.sl 1 0 0 rr 1), (.int .i64 ro), (.int .i64 co), (.bool hi)])] [(1, (.one ⟨false, false, (.gen rr (fun j_ => (.sl 2 j_ 0 cw 4)))⟩)), (2, (.many (fun j_ => some ⟨false, false, (.ig (W.rl rr (cw * 4) j_) W.ck (fun p_ => (X j_ p_)))⟩)))] 85 (.c (.bool (true))) [] []])
    mixed Try.func15 (by kernel_rfl) (by kernel_rfl) (by kernel_rfl) ⟨rfl, (.inr (RoF.of (fun _ => rfl))), rfl, (.inr (RoF.of (fun _ => rfl))), trivial⟩ (by kernel_rfl) ⟨.mk (not_t (Bool.eq_false_iff.2 (by simp_all))), Contract0.in1 (size_any pr pc po pq) [] [none, none, none, none] [] [] (by kernel_rfl), Contract0.in1 (right_ok rr cw (fun j_ p_ => X j_ p_) ro co hi (by omega) (by omega) (by omega) (by omega) (by omega)) [.b 1 1 true [], .b 2 2 true []] [none] [] [] (by kernel_rfl), trivial⟩
end Go.Proofs.Ytohleiikedpmkaa.Vm

namespace Go.Proofs.Ytohleiikedpmkaa.Vm
open Go Go.Proofs Go.Proofs.Ytohleiikedpmkaa
set_option maxRecDepth 100000
noncomputable def LHiI (rr cw : Nat) (X : Nat → Nat → Int) (rr2 cw2 : Nat) (ro2 co2 : Int) (hi2 : Bool) (A B : Nat → Int) (nn MM : Nat → Nat) (G : Nat → Nat → Int) (N m i k : Nat) (Z : Nat → Nat → Int) : S0 :=
  ⟨[(3, (.c (.ptr 21 0 0))), (4, (.c (.ptr 37 0 0))), (6, (.c (.ptr 709 0 0))), (8, (.c (.int .i64 (i : Int)))), (9, (.c (.ptr 190690 0 0))), (5, (.c (.int .i64 0))), (10, (.c (.int .i64 (k : Int))))], [(1, (.one ⟨false, false, (.gen rr (fun j_ => (.sl 2 j_ 0 cw 4)))⟩)), (2, (.many (fun j_ => some ⟨false, false, (.ig (W.rl rr (cw * 4) j_) W.ck (fun p_ => (X j_ p_)))⟩))), (3, (.one ⟨false, false, (.row (N * 3) 3 (fun j_ => [(.int .i64 (A j_)), (.int .i64 (B j_)), (.sl 4 j_ 0 (nn j_) 4)]))⟩)), (4, (.many (fun j_ => some ⟨false, false, (.ig (MM j_ * 4) W.ck (fun p_ => (G j_ p_)))⟩))), (21, (.one ⟨true, true, (.cells [(.int .i64 (↑rr2)), (.int .i64 (↑cw2)), (.int .i64 ro2), (.int .i64 co2), (.bool hi2), (.sl 3 0 0 m 3)])⟩)), (37, (.one ⟨true, true, (.cells [(.int .i64 0), (.int .i64 0), .nils, (.int .i64 0), (.int .i64 0), (.bool (false))])⟩)), (693, (.one ⟨true, false, (.gen rr2 (fun j_ => (.sl 694 j_ 0 cw2 4)))⟩)), (694, (.many (fun j_ => some ⟨true, true, .ig (W.rl rr2 (cw2 * 4) j_) W.ck (Z j_)⟩))), (709, (.one ⟨true, true, (.cells [(.int .i64 (↑rr2)), (.int .i64 (↑cw2)), (.sl 693 0 0 rr2 1), (.int .i64 ro2), (.int .i64 co2), (.bool hi2)])⟩)), (190690, (.one ⟨true, true, .cells [.int .i64 (A i), .int .i64 (B i), .sl 4 i 0 (nn i) 4]⟩))], 200016⟩
theorem LHi_by {α : Type} (I : α → S0) (Inv : α → Prop) (μ : α → Nat) {ex : Ex} {s' : S0} (hex : ex ≠ .normal)
    (step : ∀ x, Inv x → (∃ y, Inv y ∧ μ y < μ x ∧ CodeOk Try.prog 174 200000 (kAt (kOf Try.prog Try.f16) [true, true, true, true, true, true, true, false, true, false, false, true, false, false, true, true, true, false, false]) (I x) .normal (I y)) ∨ CodeOk Try.prog 174 200000 (kAt (kOf Try.prog Try.f16) [true, true, true, true, true, true, true, false, true, false, false, true, false, false, true, true, true, false, false]) (I x) ex s') (x : α) (hx : Inv x) :
    CodeOk Try.prog 174 200000 (kAt (kOf Try.prog Try.f16) [true, true, true, true, true, true, true, false, true, false, false, true, false, false, true, true, true, false]) (I x) ex s' := by
  have hk : (kAt (kOf Try.prog Try.f16) [true, true, true, true, true, true, true, false, true, false, false, true, false, false, true, true, true, false]) = .loop (kAt (kOf Try.prog Try.f16) [true, true, true, true, true, true, true, false, true, false, false, true, false, false, true, true, true, false, false]) := by kernel_rfl
  rw [hk]
  exact CodeOk.loop I Inv μ hex step x hx
theorem LHi_rtt (rr cw : Nat) (X : Nat → Nat → Int) (ro co : Int) (rr2 cw2 : Nat) (ro2 co2 : Int) (hi2 : Bool) (A B : Nat → Int) (nn MM : Nat → Nat) (G : Nat → Nat → Int) (N m i k : Nat) (Z : Nat → Nat → Int)
    (hrr : 1 ≤ rr ∧ rr ≤ 60)
    (hcw : 1 ≤ cw ∧ cw ≤ 120)
    (hro : 0 ≤ ro ∧ ro < rr)
    (hco : 0 ≤ co ∧ co < cw)
    (hX : ∀ j, j < rr → W.okRow (X j) cw)
    (hrr2 : 1 ≤ rr2 ∧ rr2 ≤ 60)
    (hcw2 : 1 ≤ cw2 ∧ cw2 ≤ 120)
    (hro2 : 0 ≤ ro2 ∧ ro2 < rr2)
    (hco2 : 0 ≤ co2 ∧ co2 < cw2)
    (hm : m ≤ N)
    (hms : m ≤ 1048576)
    (hnM : ∀ j, nn j ≤ MM j)
    (hMs : ∀ j, MM j ≤ 1048576)
    (hA : ∀ j, -9223372036854775808 ≤ A j ∧ A j < 9223372036854775808)
    (hB : ∀ j, -9223372036854775808 ≤ B j ∧ B j < 9223372036854775808)
    (hil : i < m)
    (hk : k ≤ nn i)
    (ha : 0 ≤ A i ∧ A i < (rr2 : Int))
    (hb : 0 ≤ B i ∧ B i + (nn i : Int) ≤ (cw2 : Int))
    (h0 : ((↑k : Int) < (↑(nn i) : Int)))
    (c1 : (k * (4 : Nat) + (4 : Nat) ≤ MM i * (4 : Nat)))
    (h2 : (W.okCB (G i (k * (4 : Nat))) (G i (k * (4 : Nat) + (1 : Nat))) (G i (k * (4 : Nat) + (2 : Nat))) (G i (k * (4 : Nat) + (3 : Nat))) = true)) :
    CodeOk Try.prog 174 200000 (kAt (kOf Try.prog Try.f16) [true, true, true, true, true, true, true, false, true, false, false, true, false, false, true, true, true, false, false]) (LHiI rr cw X rr2 cw2 ro2 co2 hi2 A B nn MM G N m i k Z) .normal ⟨[(3, (.c (.ptr 21 0 0))), (4, (.c (.ptr 37 0 0))), (6, (.c (.ptr 709 0 0))), (8, (.c (.int .i64 (↑i)))), (9, (.c (.ptr 190690 0 0))), (5, (.c (.int .i64 0))), (10, (.c (.int .i64 (↑(k + 1)))))], [(1, (.one ⟨false, false, (.gen rr (fun j_ => (.sl 2 j_ 0 cw 4)))⟩)), (2, (.many (fun j_ => some ⟨false, false, (.ig (W.rl rr (cw * 4) j_) W.ck (fun p_ => (X j_ p_)))⟩))), (3, (.one ⟨false, false, (.row (N * 3) 3 (fun j_ => [(.int .i64 (A j_)), (.int .i64 (B j_)), (.sl 4 j_ 0 (nn j_) 4)]))⟩)), (4, (.many (fun j_ => some ⟨false, false, (.ig (MM j_ * 4) W.ck (fun p_ => (G j_ p_)))⟩))), (21, (.one ⟨true, true, (.cells [(.int .i64 (↑rr2)), (.int .i64 (↑cw2)), (.int .i64 ro2), (.int .i64 co2), (.bool hi2), (.sl 3 0 0 m 3)])⟩)), (37, (.one ⟨true, true, (.cells [(.int .i64 0), (.int .i64 0), .nils, (.int .i64 0), (.int .i64 0), (.bool (false))])⟩)), (693, (.one ⟨true, false, (.gen rr2 (fun j_ => (.sl 694 j_ 0 cw2 4)))⟩)), (694, (.many (renF [] 200000 (updF (fun j_ => some ⟨true, true, (.ig (W.rl rr2 (cw2 * 4) j_) W.ck (fun p_ => (Z j_ p_)))⟩) (Int.toNat (A i)) ⟨true, true, (.ig (W.rl rr2 (cw2 * 4) (Int.toNat (A i))) (fun p_ => (bif inR (Int.toNat (B i + (↑k : Int)) * 4) (List.length [(IntKind.i32, G i (k * 4)), (IntKind.i64, G i (k * 4 + 1)), (IntKind.i64, G i (k * 4 + 2)), (IntKind.i64, G i (k * 4 + 3))]) p_ then igK [(IntKind.i32, G i (k * 4)), (IntKind.i64, G i (k * 4 + 1)), (IntKind.i64, G i (k * 4 + 2)), (IntKind.i64, G i (k * 4 + 3))] (p_ - Int.toNat (B i + (↑k : Int)) * 4) else W.ck p_)) (fun p_ => (bif inR (Int.toNat (B i + (↑k : Int)) * 4) (List.length [(IntKind.i32, G i (k * 4)), (IntKind.i64, G i (k * 4 + 1)), (IntKind.i64, G i (k * 4 + 2)), (IntKind.i64, G i (k * 4 + 3))]) p_ then igG [(IntKind.i32, G i (k * 4)), (IntKind.i64, G i (k * 4 + 1)), (IntKind.i64, G i (k * 4 + 2)), (IntKind.i64, G i (k * 4 + 3))] (p_ - Int.toNat (B i + (↑k : Int)) * 4) else Z (Int.toNat (A i)) p_)))⟩)))), (709, (.one ⟨true, true, (.cells [(.int .i64 (↑rr2)), (.int .i64 (↑cw2)), (.sl 693 0 0 rr2 1), (.int .i64 ro2), (.int .i64 co2), (.bool hi2)])⟩)), (190690, (.one ⟨true, true, (.cells [(.int .i64 (A i)), (.int .i64 (B i)), (.sl 4 i 0 (nn i) 4)])⟩))], 200016⟩ :=
  CodeOk.of_runs (fuel := 300) (v := ⟨[3, 4, 6, 8, 9, 5, 10], [1, 2, 3, 4, 21, 37, 693, 694, 709, 190690], [], 200016⟩) (hs := [(4, ⟨.auto, some (.c (.bool (true)))⟩), (9, ⟨.ask, none⟩), (10, ⟨.ask, some (.agg [(.int .i32 (G i (k * 4))), (.int .i64 (G i (k * 4 + 1))), (.int .i64 (G i (k * 4 + 2))), (.int .i64 (G i (k * 4 + 3)))])⟩), (11, ⟨.call [] (.c (.bool (W.okCB (G i (k * 4)) (G i (k * 4 + 1)) (G i (k * 4 + 2)) (G i (k * 4 + 3))))) [] [], none⟩), (12, ⟨.auto, some (.c (.bool (false)))⟩), (18, ⟨.ask, none⟩), (19, ⟨.ask, none⟩), (23, ⟨.auto, some (.c (.int .i64 (B i + ↑k)))⟩), (27, ⟨.ask, none⟩), (28, ⟨.ask, some (.agg [(.int .i32 (G i (k * 4))), (.int .i64 (G i (k * 4 + 1))), (.int .i64 (G i (k * 4 + 2))), (.int .i64 (G i (k * 4 + 3)))])⟩), (29, ⟨.ask, none⟩), (30, ⟨.ask, none⟩), (32, ⟨.auto, some (.c (.int .i64 (↑(k + 1))))⟩)])
    (cs := [EI .i64 (IntKind.wrap IntKind.i64 ((↑k : Int) + 1)) ((↑(k + 1) : Int)),
      (Int.toNat (B i + (↑k : Int)) * (4 : Nat) + (4 : Nat) ≤ W.rl rr2 (cw2 * (4 : Nat)) (Int.toNat (A i)) ∧ (4 : Nat) = (4 : Nat)),
      ((0 : Int) ≤ B i + (↑k : Int) ∧ B i + (↑k : Int) < (↑cw2 : Int)),
      ((.agg ((List.range 4).map (fun p_ => .int (W.ck (p_ + k * 4)) (G i (p_ + k * 4))))) : V) = (.agg [(.int .i32 (G i (k * 4))), (.int .i64 (G i (k * 4 + 1))), (.int .i64 (G i (k * 4 + 2))), (.int .i64 (G i (k * 4 + 3)))]),
      (k * (4 : Nat) + (4 : Nat) ≤ MM i * (4 : Nat)),
      ((0 : Int) ≤ (↑k : Int) ∧ (↑k : Int) < (↑(nn i) : Int)),
      EI .i64 (IntKind.wrap IntKind.i64 (B i + (↑k : Int))) (B i + (↑k : Int)),
      (Int.toNat (A i) + (1 : Nat) ≤ rr2),
      ((0 : Int) ≤ A i ∧ A i < (↑rr2 : Int)),
      EB (!W.okCB (G i (k * 4)) (G i (k * 4 + 1)) (G i (k * 4 + 2)) (G i (k * 4 + 3))) false,
      Contract Try.prog 35 [(.agg [(.int .i32 (G i (k * 4))), (.int .i64 (G i (k * 4 + 1))), (.int .i64 (G i (k * 4 + 2))), (.int .i64 (G i (k * 4 + 3)))])] [] 200176 (.c (.bool (W.okCB (G i (k * 4)) (G i (k * 4 + 1)) (G i (k * 4 + 2)) (G i (k * 4 + 3))))) [] [],
      ((.agg ((List.range 4).map (fun p_ => .int (W.ck (p_ + k * 4)) (G i (p_ + k * 4))))) : V) = (.agg [(.int .i32 (G i (k * 4))), (.int .i64 (G i (k * 4 + 1))), (.int .i64 (G i (k * 4 + 2))), (.int .i64 (G i (k * 4 + 3)))]),
      (k * (4 : Nat) + (4 : Nat) ≤ MM i * (4 : Nat)),
      ((0 : Int) ≤ (↑k : Int) ∧ (↑k : Int) < (↑(nn i) : Int)),
      EB (decide ((↑k : Int) < (↑(nn i) : Int))) true])
    mixed (by kernel_rfl) ⟨.mk (by simp only [addO_eq, mulE_eq, mulE_one, Int.toNat_natCast, IntKind.wrap_i64, mmin, mmax]; omega), (by rw [rl_lt (by omega)]; omega), (by omega), EV.ck4 (g := (fun p_ => (G i p_))) (o := (k * 4)) (by omega) (by omega), (by omega), (by omega), .mk (by simp only [addO_eq, mulE_eq, mulE_one, Int.toNat_natCast, IntKind.wrap_i64, mmin, mmax]; omega), (by omega), (by omega), .mk (not_f h2), Contract0.in1 (rcell_any (G i (k * 4)) (G i (k * 4 + 1)) (G i (k * 4 + 2)) (G i (k * 4 + 3))) [] [none] [] [] (by kernel_rfl), EV.ck4 (g := (fun p_ => (G i p_))) (o := (k * 4)) (by omega) (by omega), c1, (by omega), .mk (decide_eq_true h0), trivial⟩
theorem LHi_xtf (rr cw : Nat) (X : Nat → Nat → Int) (ro co : Int) (rr2 cw2 : Nat) (ro2 co2 : Int) (hi2 : Bool) (A B : Nat → Int) (nn MM : Nat → Nat) (G : Nat → Nat → Int) (N m i k : Nat) (Z : Nat → Nat → Int)
    (hrr : 1 ≤ rr ∧ rr ≤ 60)
    (hcw : 1 ≤ cw ∧ cw ≤ 120)
    (hro : 0 ≤ ro ∧ ro < rr)
    (hco : 0 ≤ co ∧ co < cw)
    (hX : ∀ j, j < rr → W.okRow (X j) cw)
    (hrr2 : 1 ≤ rr2 ∧ rr2 ≤ 60)
    (hcw2 : 1 ≤ cw2 ∧ cw2 ≤ 120)
    (hro2 : 0 ≤ ro2 ∧ ro2 < rr2)
    (hco2 : 0 ≤ co2 ∧ co2 < cw2)
    (hm : m ≤ N)
    (hms : m ≤ 1048576)
    (hnM : ∀ j, nn j ≤ MM j)
    (hMs : ∀ j, MM j ≤ 1048576)
    (hA : ∀ j, -9223372036854775808 ≤ A j ∧ A j < 9223372036854775808)
    (hB : ∀ j, -9223372036854775808 ≤ B j ∧ B j < 9223372036854775808)
    (hil : i < m)
    (hk : k ≤ nn i)
    (ha : 0 ≤ A i ∧ A i < (rr2 : Int))
    (hb : 0 ≤ B i ∧ B i + (nn i : Int) ≤ (cw2 : Int))
    (h0 : ((↑k : Int) < (↑(nn i) : Int)))
    (c1 : (k * (4 : Nat) + (4 : Nat) ≤ MM i * (4 : Nat)))
    (h2 : (¬W.okCB (G i (k * (4 : Nat))) (G i (k * (4 : Nat) + (1 : Nat))) (G i (k * (4 : Nat) + (2 : Nat))) (G i (k * (4 : Nat) + (3 : Nat))) = true)) :
    CodeOk Try.prog 174 200000 (kAt (kOf Try.prog Try.f16) [true, true, true, true, true, true, true, false, true, false, false, true, false, false, true, true, true, false, false]) (LHiI rr cw X rr2 cw2 ro2 co2 hi2 A B nn MM G N m i k Z) .ret ⟨[(3, (.c (.ptr 21 0 0))), (4, (.c (.ptr 37 0 0))), (6, (.c (.ptr 709 0 0))), (8, (.c (.int .i64 (↑i)))), (9, (.c (.ptr 190690 0 0))), (5, (.c (.int .i64 1))), (10, (.c (.int .i64 (↑k))))], [(1, (.one ⟨false, false, (.gen rr (fun j_ => (.sl 2 j_ 0 cw 4)))⟩)), (2, (.many (fun j_ => some ⟨false, false, (.ig (W.rl rr (cw * 4) j_) W.ck (fun p_ => (X j_ p_)))⟩))), (3, (.one ⟨false, false, (.row (N * 3) 3 (fun j_ => [(.int .i64 (A j_)), (.int .i64 (B j_)), (.sl 4 j_ 0 (nn j_) 4)]))⟩)), (4, (.many (fun j_ => some ⟨false, false, (.ig (MM j_ * 4) W.ck (fun p_ => (G j_ p_)))⟩))), (21, (.one ⟨true, true, (.cells [(.int .i64 (↑rr2)), (.int .i64 (↑cw2)), (.int .i64 ro2), (.int .i64 co2), (.bool hi2), (.sl 3 0 0 m 3)])⟩)), (37, (.one ⟨true, true, (.cells [(.int .i64 0), (.int .i64 0), .nils, (.int .i64 0), (.int .i64 0), (.bool (false))])⟩)), (693, (.one ⟨true, false, (.gen rr2 (fun j_ => (.sl 694 j_ 0 cw2 4)))⟩)), (694, (.many (fun j_ => some ⟨true, true, (.ig (W.rl rr2 (cw2 * 4) j_) W.ck (fun p_ => (Z j_ p_)))⟩))), (709, (.one ⟨true, true, (.cells [(.int .i64 (↑rr2)), (.int .i64 (↑cw2)), (.sl 693 0 0 rr2 1), (.int .i64 ro2), (.int .i64 co2), (.bool hi2)])⟩)), (190690, (.one ⟨true, true, (.cells [(.int .i64 (A i)), (.int .i64 (B i)), (.sl 4 i 0 (nn i) 4)])⟩))], 200016⟩ :=
  CodeOk.of_runs (fuel := 300) (v := ⟨[3, 4, 6, 8, 9, 5, 10], [1, 2, 3, 4, 21, 37, 693, 694, 709, 190690], [], 200016⟩) (hs := [(4, ⟨.auto, some (.c (.bool (true)))⟩), (9, ⟨.ask, none⟩), (10, ⟨.ask, some (.agg [(.int .i32 (G i (k * 4))), (.int .i64 (G i (k * 4 + 1))), (.int .i64 (G i (k * 4 + 2))), (.int .i64 (G i (k * 4 + 3)))])⟩), (11, ⟨.call [] (.c (.bool (W.okCB (G i (k * 4)) (G i (k * 4 + 1)) (G i (k * 4 + 2)) (G i (k * 4 + 3))))) [] [], none⟩), (12, ⟨.auto, some (.c (.bool (true)))⟩)])
    (cs := [EB (!W.okCB (G i (k * 4)) (G i (k * 4 + 1)) (G i (k * 4 + 2)) (G i (k * 4 + 3))) true,
      Contract Try.prog 35 [(.agg [(.int .i32 (G i (k * 4))), (.int .i64 (G i (k * 4 + 1))), (.int .i64 (G i (k * 4 + 2))), (.int .i64 (G i (k * 4 + 3)))])] [] 200176 (.c (.bool (W.okCB (G i (k * 4)) (G i (k * 4 + 1)) (G i (k * 4 + 2)) (G i (k * 4 + 3))))) [] [],
      ((.agg ((List.range 4).map (fun p_ => .int (W.ck (p_ + k * 4)) (G i (p_ + k * 4))))) : V) = (.agg [(.int .i32 (G i (k * 4))), (.int .i64 (G i (k * 4 + 1))), (.int .i64 (G i (k * 4 + 2))), (.int .i64 (G i (k * 4 + 3)))]),
      (k * (4 : Nat) + (4 : Nat) ≤ MM i * (4 : Nat)),
      ((0 : Int) ≤ (↑k : Int) ∧ (↑k : Int) < (↑(nn i) : Int)),
      EB (decide ((↑k : Int) < (↑(nn i) : Int))) true])
    mixed (by kernel_rfl) ⟨.mk (not_t (Bool.eq_false_iff.2 h2)), Contract0.in1 (rcell_any (G i (k * 4)) (G i (k * 4 + 1)) (G i (k * 4 + 2)) (G i (k * 4 + 3))) [] [none] [] [] (by kernel_rfl), EV.ck4 (g := (fun p_ => (G i p_))) (o := (k * 4)) (by omega) (by omega), c1, (by omega), .mk (decide_eq_true h0), trivial⟩
theorem LHi_xf (rr cw : Nat) (X : Nat → Nat → Int) (ro co : Int) (rr2 cw2 : Nat) (ro2 co2 : Int) (hi2 : Bool) (A B : Nat → Int) (nn MM : Nat → Nat) (G : Nat → Nat → Int) (N m i k : Nat) (Z : Nat → Nat → Int)
    (hrr : 1 ≤ rr ∧ rr ≤ 60)
    (hcw : 1 ≤ cw ∧ cw ≤ 120)
    (hro : 0 ≤ ro ∧ ro < rr)
    (hco : 0 ≤ co ∧ co < cw)
    (hX : ∀ j, j < rr → W.okRow (X j) cw)
    (hrr2 : 1 ≤ rr2 ∧ rr2 ≤ 60)
    (hcw2 : 1 ≤ cw2 ∧ cw2 ≤ 120)
    (hro2 : 0 ≤ ro2 ∧ ro2 < rr2)
    (hco2 : 0 ≤ co2 ∧ co2 < cw2)
    (hm : m ≤ N)
    (hms : m ≤ 1048576)
    (hnM : ∀ j, nn j ≤ MM j)
    (hMs : ∀ j, MM j ≤ 1048576)
    (hA : ∀ j, -9223372036854775808 ≤ A j ∧ A j < 9223372036854775808)
    (hB : ∀ j, -9223372036854775808 ≤ B j ∧ B j < 9223372036854775808)
    (hil : i < m)
    (hk : k ≤ nn i)
    (ha : 0 ≤ A i ∧ A i < (rr2 : Int))
    (hb : 0 ≤ B i ∧ B i + (nn i : Int) ≤ (cw2 : Int))
    (h0 : (¬(↑k : Int) < (↑(nn i) : Int))) :
    CodeOk Try.prog 174 200000 (kAt (kOf Try.prog Try.f16) [true, true, true, true, true, true, true, false, true, false, false, true, false, false, true, true, true, false, false]) (LHiI rr cw X rr2 cw2 ro2 co2 hi2 A B nn MM G N m i k Z) (.exit 4) (LHiI rr cw X rr2 cw2 ro2 co2 hi2 A B nn MM G N m i k (fun j_ p_ => Z j_ p_)) :=
  CodeOk.of_runs (fuel := 300) (v := ⟨[3, 4, 6, 8, 9, 5, 10], [1, 2, 3, 4, 21, 37, 693, 694, 709, 190690], [], 200016⟩) (hs := [(4, ⟨.auto, some (.c (.bool (false)))⟩)])
    (cs := [EB (decide ((↑k : Int) < (↑(nn i) : Int))) false])
    mixed (by kernel_rfl) ⟨.mk (decide_eq_false h0), trivial⟩
end Go.Proofs.Ytohleiikedpmkaa.Vm

namespace Go.Proofs.Ytohleiikedpmkaa.W
open Go Go.Proofs.Ytohleiikedpmkaa.Vm
def apK (a b : Nat) (g : Nat → Int) (Z : Nat → Nat → Int) (k : Nat) : Nat → Nat → Int := fun j p => bif Nat.beq j a && inR (b * 4) (k * 4) p then g (p - b * 4) else Z j p
theorem apK_0 (a b : Nat) (g : Nat → Int) (Z : Nat → Nat → Int) : apK a b g Z 0 = Z := by
  funext j p
  unfold apK
  rw [inR_f (by omega), Bool.and_false]; rfl
theorem apK_get (a b : Nat) (g : Nat → Int) (Z : Nat → Nat → Int) (k p : Nat) :
    (bif inR ((b + k) * 4) 4 p then igG [(IntKind.i32, g (k * 4)), (IntKind.i64, g (k * 4 + 1)), (IntKind.i64, g (k * 4 + 2)), (IntKind.i64, g (k * 4 + 3))] (p - (b + k) * 4) else apK a b g Z k a p) = apK a b g Z (k + 1) a p := by
  unfold apK
  rw [Nat.beq_refl, Bool.true_and, Bool.true_and]
  cases h1 : inR ((b + k) * 4) 4 p with
  | true =>
    have g1 := inR_iff.1 h1
    rw [inR_iff.2 (show b * 4 ≤ p ∧ p < b * 4 + (k + 1) * 4 by omega)]
    show igG _ _ = g _
    rcases (by omega : p = (b + k) * 4 ∨ p = (b + k) * 4 + 1 ∨ p = (b + k) * 4 + 2 ∨ p = (b + k) * 4 + 3) with e | e | e | e <;> rw [e]
    · rw [Nat.sub_self, show (b + k) * 4 - b * 4 = k * 4 by omega]; rfl
    · rw [Nat.add_sub_cancel_left, show (b + k) * 4 + 1 - b * 4 = k * 4 + 1 by omega]; rfl
    · rw [Nat.add_sub_cancel_left, show (b + k) * 4 + 2 - b * 4 = k * 4 + 2 by omega]; rfl
    · rw [Nat.add_sub_cancel_left, show (b + k) * 4 + 3 - b * 4 = k * 4 + 3 by omega]; rfl
  | false =>
    have g1 : ¬ ((b + k) * 4 ≤ p ∧ p < (b + k) * 4 + 4) := fun h => by rw [inR_iff.2 h] at h1; simp at h1
    by_cases h2 : b * 4 ≤ p ∧ p < b * 4 + k * 4
    · rw [inR_iff.2 h2, inR_iff.2 (show b * 4 ≤ p ∧ p < b * 4 + (k + 1) * 4 by omega)]; rfl
    · rw [inR_f h2, inR_f (show ¬ (b * 4 ≤ p ∧ p < b * 4 + (k + 1) * 4) by omega)]; rfl
end Go.Proofs.Ytohleiikedpmkaa.W
namespace Go.Proofs.Ytohleiikedpmkaa.Vm
open Go Go.Proofs Go.Proofs.Ytohleiikedpmkaa
theorem rai_step (rr cw : Nat) (X : Nat → Nat → Int) (rr2 cw2 : Nat) (ro2 co2 : Int) (hi2 : Bool) (A B : Nat → Int) (nn MM : Nat → Nat) (G : Nat → Nat → Int) (N m : Nat) (i k : Nat) (Z : Nat → Nat → Int)
    (hrr : 1 ≤ rr ∧ rr ≤ 60)
    (hcw : 1 ≤ cw ∧ cw ≤ 120)
    (hX : ∀ j, j < rr → W.okRow (X j) cw)
    (hrr2 : 1 ≤ rr2 ∧ rr2 ≤ 60)
    (hcw2 : 1 ≤ cw2 ∧ cw2 ≤ 120)
    (hro2 : 0 ≤ ro2 ∧ ro2 < rr2)
    (hco2 : 0 ≤ co2 ∧ co2 < cw2)
    (hm : m ≤ N)
    (hms : m ≤ 1048576)
    (hnM : ∀ j, nn j ≤ MM j)
    (hMs : ∀ j, MM j ≤ 1048576)
    (hA : ∀ j, -9223372036854775808 ≤ A j ∧ A j < 9223372036854775808)
    (hB : ∀ j, -9223372036854775808 ≤ B j ∧ B j < 9223372036854775808)
    (hil : i < m) (ha : 0 ≤ A i ∧ A i < (rr2 : Int)) (hb : 0 ≤ B i ∧ B i + (nn i : Int) ≤ (cw2 : Int)) (h0 : (k : Int) < (nn i : Int)) (h2 : W.okAt (G i) k = true) :
    CodeOk Try.prog 174 200000 (kAt (kOf Try.prog Try.f16) [true, true, true, true, true, true, true, false, true, false, false, true, false, false, true, true, true, false, false]) (LHiI rr cw X rr2 cw2 ro2 co2 hi2 A B nn MM G N m i k (W.apK (A i).toNat (B i).toNat (G i) Z k)) .normal (LHiI rr cw X rr2 cw2 ro2 co2 hi2 A B nn MM G N m i (k + 1) (W.apK (A i).toNat (B i).toNat (G i) Z (k + 1))) := by
  have hro : (0 : Int) ≤ 0 ∧ (0 : Int) < rr := by omega
  have hco : (0 : Int) ≤ 0 ∧ (0 : Int) < cw := by omega
  have hn := hnM i
  refine (LHi_rtt rr cw X 0 0 rr2 cw2 ro2 co2 hi2 A B nn MM G N m i k (W.apK (A i).toNat (B i).toNat (G i) Z k) hrr hcw hro hco hX hrr2 hcw2 hro2 hco2 hm hms hnM hMs hA hB hil (by omega) ha hb h0 (by omega) h2).move (Move.same (by decide) (by decide) (by decide) rfl ?_)
  refine ⟨SameB.refl rfl, fun j k e => SameB.refl e, SameB.refl rfl, fun j k e => SameB.refl e, SameB.refl rfl, SameB.refl rfl, SameB.refl rfl, ?_, SameB.refl rfl, SameB.refl rfl, trivial⟩
  intro j k' e
  injection e with e
  subst e
  have ht : Int.toNat (B i + (k : Int)) = (B i).toNat + k := by omega
  by_cases hj : j = (A i).toNat
  · subst hj
    refine SameB.ig (((renF_upd _).trans (by rw [Nat.beq_refl]; rfl))) (fun h => h) (fun p _ => ?_) (fun p _ => ?_)
    · rw [ht]
      exact put4_ck four_ck _ p
    · rw [ht]
      exact W.apK_get _ _ _ _ _ _
  · refine SameB.ig (((renF_upd _).trans (by rw [beqF hj]; rfl))) (fun h => h) (fun p _ => rfl) (fun p _ => ?_)
    show W.apK _ _ _ _ _ _ _ = W.apK _ _ _ _ _ _ _
    unfold W.apK
    rw [beqF hj]
    rfl
theorem rai_ok (rr cw : Nat) (X : Nat → Nat → Int) (rr2 cw2 : Nat) (ro2 co2 : Int) (hi2 : Bool) (A B : Nat → Int) (nn MM : Nat → Nat) (G : Nat → Nat → Int) (N m : Nat) (i : Nat) (Z : Nat → Nat → Int)
    (hrr : 1 ≤ rr ∧ rr ≤ 60)
    (hcw : 1 ≤ cw ∧ cw ≤ 120)
    (hX : ∀ j, j < rr → W.okRow (X j) cw)
    (hrr2 : 1 ≤ rr2 ∧ rr2 ≤ 60)
    (hcw2 : 1 ≤ cw2 ∧ cw2 ≤ 120)
    (hro2 : 0 ≤ ro2 ∧ ro2 < rr2)
    (hco2 : 0 ≤ co2 ∧ co2 < cw2)
    (hm : m ≤ N)
    (hms : m ≤ 1048576)
    (hnM : ∀ j, nn j ≤ MM j)
    (hMs : ∀ j, MM j ≤ 1048576)
    (hA : ∀ j, -9223372036854775808 ≤ A j ∧ A j < 9223372036854775808)
    (hB : ∀ j, -9223372036854775808 ≤ B j ∧ B j < 9223372036854775808)
    (hil : i < m) (ha : 0 ≤ A i ∧ A i < (rr2 : Int)) (hb : 0 ≤ B i ∧ B i + (nn i : Int) ≤ (cw2 : Int)) (hE : ∀ k, k < nn i → W.okAt (G i) k = true) :
    CodeOk Try.prog 174 200000 (kAt (kOf Try.prog Try.f16) [true, true, true, true, true, true, true, false, true, false, false, true, false, false, true, true, true, false]) (LHiI rr cw X rr2 cw2 ro2 co2 hi2 A B nn MM G N m i 0 Z) (.exit 4) (LHiI rr cw X rr2 cw2 ro2 co2 hi2 A B nn MM G N m i (nn i) (W.apK (A i).toNat (B i).toNat (G i) Z (nn i))) := by
  have hro : (0 : Int) ≤ 0 ∧ (0 : Int) < rr := by omega
  have hco : (0 : Int) ≤ 0 ∧ (0 : Int) < cw := by omega
  have h : CodeOk Try.prog 174 200000 (kAt (kOf Try.prog Try.f16) [true, true, true, true, true, true, true, false, true, false, false, true, false, false, true, true, true, false]) (LHiI rr cw X rr2 cw2 ro2 co2 hi2 A B nn MM G N m i 0 (W.apK (A i).toNat (B i).toNat (G i) Z 0)) (.exit 4) (LHiI rr cw X rr2 cw2 ro2 co2 hi2 A B nn MM G N m i (nn i) (W.apK (A i).toNat (B i).toNat (G i) Z (nn i))) := by
    refine LHi_by (fun k => LHiI rr cw X rr2 cw2 ro2 co2 hi2 A B nn MM G N m i k (W.apK (A i).toNat (B i).toNat (G i) Z k)) (fun k => k ≤ nn i) (fun k => nn i - k) (by simp) ?_ 0 (Nat.zero_le _)
    intro k hk
    by_cases h0 : (k : Int) < (nn i : Int)
    · exact .inl ⟨k + 1, by omega, by omega, rai_step rr cw X rr2 cw2 ro2 co2 hi2 A B nn MM G N m i k Z hrr hcw hX hrr2 hcw2 hro2 hco2 hm hms hnM hMs hA hB hil ha hb h0 (hE k (by omega))⟩
    · have e : k = nn i := by omega
      have x := LHi_xf rr cw X 0 0 rr2 cw2 ro2 co2 hi2 A B nn MM G N m i k (W.apK (A i).toNat (B i).toNat (G i) Z k) hrr hcw hro hco hX hrr2 hcw2 hro2 hco2 hm hms hnM hMs hA hB hil hk ha hb h0
      refine .inr ?_
      rw [e] at x ⊢
      exact x
  rw [W.apK_0] at h
  exact h
theorem rai_bad (rr cw : Nat) (X : Nat → Nat → Int) (rr2 cw2 : Nat) (ro2 co2 : Int) (hi2 : Bool) (A B : Nat → Int) (nn MM : Nat → Nat) (G : Nat → Nat → Int) (N m : Nat) (i : Nat) (Z : Nat → Nat → Int)
    (hrr : 1 ≤ rr ∧ rr ≤ 60)
    (hcw : 1 ≤ cw ∧ cw ≤ 120)
    (hX : ∀ j, j < rr → W.okRow (X j) cw)
    (hrr2 : 1 ≤ rr2 ∧ rr2 ≤ 60)
    (hcw2 : 1 ≤ cw2 ∧ cw2 ≤ 120)
    (hro2 : 0 ≤ ro2 ∧ ro2 < rr2)
    (hco2 : 0 ≤ co2 ∧ co2 < cw2)
    (hm : m ≤ N)
    (hms : m ≤ 1048576)
    (hnM : ∀ j, nn j ≤ MM j)
    (hMs : ∀ j, MM j ≤ 1048576)
    (hA : ∀ j, -9223372036854775808 ≤ A j ∧ A j < 9223372036854775808)
    (hB : ∀ j, -9223372036854775808 ≤ B j ∧ B j < 9223372036854775808)
    (hil : i < m) (ha : 0 ≤ A i ∧ A i < (rr2 : Int)) (hb : 0 ≤ B i ∧ B i + (nn i : Int) ≤ (cw2 : Int)) (hD : ¬ ∀ k, k < nn i → W.okAt (G i) k = true) :
    CodeOk Try.prog 174 200000 (kAt (kOf Try.prog Try.f16) [true, true, true, true, true, true, true, false, true, false, false, true, false, false, true, true, true, false]) (LHiI rr cw X rr2 cw2 ro2 co2 hi2 A B nn MM G N m i 0 Z) .ret ⟨[(4, (.c (.ptr 37 0 0))), (5, (.c (.int .i64 1)))], [(37, (.one ⟨true, true, (.cells [(.int .i64 0), (.int .i64 0), .nils, (.int .i64 0), (.int .i64 0), (.bool (false))])⟩))], 200016⟩ := by
  have hro : (0 : Int) ≤ 0 ∧ (0 : Int) < rr := by omega
  have hco : (0 : Int) ≤ 0 ∧ (0 : Int) < cw := by omega
  have hn := hnM i
  have h : CodeOk Try.prog 174 200000 (kAt (kOf Try.prog Try.f16) [true, true, true, true, true, true, true, false, true, false, false, true, false, false, true, true, true, false]) (LHiI rr cw X rr2 cw2 ro2 co2 hi2 A B nn MM G N m i 0 (W.apK (A i).toNat (B i).toNat (G i) Z 0)) .ret ⟨[(4, (.c (.ptr 37 0 0))), (5, (.c (.int .i64 1)))], [(37, (.one ⟨true, true, (.cells [(.int .i64 0), (.int .i64 0), .nils, (.int .i64 0), (.int .i64 0), (.bool (false))])⟩))], 200016⟩ := by
    refine LHi_by (fun k => LHiI rr cw X rr2 cw2 ro2 co2 hi2 A B nn MM G N m i k (W.apK (A i).toNat (B i).toNat (G i) Z k)) (fun k => k ≤ nn i ∧ ∀ q, q < k → W.okAt (G i) q = true) (fun k => nn i - k) (by simp) ?_ 0 ⟨Nat.zero_le _, fun q hq => by omega⟩
    intro k ⟨hk, he⟩
    by_cases h0 : (k : Int) < (nn i : Int)
    · by_cases h1 : W.okAt (G i) k = true
      · exact .inl ⟨k + 1, ⟨by omega, fun q hq => by
          by_cases e : q = k
          · rw [e]; exact h1
          · exact he q (by omega)⟩, by omega, rai_step rr cw X rr2 cw2 ro2 co2 hi2 A B nn MM G N m i k Z hrr hcw hX hrr2 hcw2 hro2 hco2 hm hms hnM hMs hA hB hil ha hb h0 h1⟩
      · exact .inr ((LHi_xtf rr cw X 0 0 rr2 cw2 ro2 co2 hi2 A B nn MM G N m i k (W.apK (A i).toNat (B i).toNat (G i) Z k) hrr hcw hro hco hX hrr2 hcw2 hro2 hco2 hm hms hnM hMs hA hB hil hk ha hb h0 (by omega) h1).move (Move.less (by decide) (by decide) (by decide) rfl ⟨rfl, rfl, trivial⟩ ⟨SameB.refl rfl, trivial⟩))
    · have e : k = nn i := by omega
      rw [e] at he
      exact absurd he hD
  rw [W.apK_0] at h
  exact h
end Go.Proofs.Ytohleiikedpmkaa.Vm
