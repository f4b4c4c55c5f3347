/- What functions of the program come to: parts of the walk (La). -/
import Derived.Test.YtohleiikedpmkaaGe
import Derived.Test.YtohleiikedpmkaaKd
import Derived.KernelRfl
import Derived.Test.YtohleiikedpmkaaProg
set_option linter.unusedSimpArgs false
set_option linter.unusedVariables false
namespace Go.Proofs.Ytohleiikedpmkaa.W
open Go Go.Proofs.Ytohleiikedpmkaa.Vm
theorem sRo_b {rr : Nat} {l : List Int} {o : Nat} (h : 1 ≤ rr) : ∀ i, 0 ≤ sRo rr l o i ∧ sRo rr l o i < (rr : Int)
  | 0 => by show (0 : Int) ≤ 0 ∧ (0 : Int) < rr; omega
  | i + 1 => by
    have := pick_lt (a := tq (List.getD l (o + i) 0) 11) (b := (rr : Int)) (by omega)
    exact ⟨Int.natCast_nonneg _, this⟩
theorem sCo_b {cw : Nat} {l : List Int} {o : Nat} (h : 1 ≤ cw) : ∀ i, 0 ≤ sCo cw l o i ∧ sCo cw l o i < (cw : Int)
  | 0 => by show (0 : Int) ≤ 0 ∧ (0 : Int) < cw; omega
  | i + 1 => by
    have := pick_lt (a := tq (List.getD l (o + i) 0) 13) (b := (cw : Int)) (by omega)
    exact ⟨Int.natCast_nonneg _, this⟩
theorem okC_four (n : Int) : okC (igG (four n) 0) (igG (four n) 1) (igG (four n) 2) (igG (four n) 3) := by
  have h0 := pick_lt (a := tq n 70) (b := 4) (by decide)
  have h1 := pick_lt (a := tq n 300) (b := 9) (by decide)
  have h2 := pick_lt (a := tq n 3000) (b := 9) (by decide)
  have h3 := pick_lt (a := tq n 30000) (b := 8) (by decide)
  have e0 : igG (four n) 0 = List.getD [97, 98, 8364, 32] (pick (tq n 70) 4) 0 := rfl
  have e1 : igG (four n) 1 = (pick (tq n 300) 9 : Int) := rfl
  have e2 : igG (four n) 2 = (pick (tq n 3000) 9 : Int) := rfl
  have e3 : igG (four n) 3 = (pick (tq n 30000) 8 : Int) := rfl
  have hc : igG (four n) 0 = 97 ∨ igG (four n) 0 = 98 ∨ igG (four n) 0 = 8364 ∨ igG (four n) 0 = 32 := by
    rw [e0]
    generalize pick (tq n 70) 4 = q at h0
    have : q < 4 := by omega
    rcases q with _ | _ | _ | _ | q
    all_goals first | (simp; done) | omega
  rw [e1, e2, e3]
  generalize igG (four n) 0 = a at hc
  unfold okC
  omega
theorem okC_blank (k : Nat) : okC (blank (k * 4)) (blank (k * 4 + 1)) (blank (k * 4 + 2)) (blank (k * 4 + 3)) := by
  have e0 : blank (k * 4) = 32 := by unfold blank; rw [if_pos (by omega)]
  have e1 : blank (k * 4 + 1) = 0 := by unfold blank; rw [if_neg (by omega)]
  have e2 : blank (k * 4 + 2) = 0 := by unfold blank; rw [if_neg (by omega)]
  have e3 : blank (k * 4 + 3) = 0 := by unfold blank; rw [if_neg (by omega)]
  rw [e0, e1, e2, e3]
  unfold okC
  omega
theorem okRow_blank (n : Nat) : okRow blank n := fun k _ => okC_blank k
theorem okRow_put {X : Nat → Nat → Int} {j0 k0 : Nat} {n : Int} {j cw : Nat} (h : okRow (X j) cw) : okRow (putX X j0 (k0 * 4) (igG (four n)) j) cw := by
  intro k hk
  unfold putX
  cases hj : Nat.beq j j0 with
  | false => simp only [Bool.false_and, cond_false]; exact h k hk
  | true =>
    simp only [Bool.true_and]
    by_cases e : k = k0
    · subst e
      have i0 : inR (k * 4) 4 (k * 4) = true := inR_iff.2 (by omega)
      have i1 : inR (k * 4) 4 (k * 4 + 1) = true := inR_iff.2 (by omega)
      have i2 : inR (k * 4) 4 (k * 4 + 2) = true := inR_iff.2 (by omega)
      have i3 : inR (k * 4) 4 (k * 4 + 3) = true := inR_iff.2 (by omega)
      rw [i0, i1, i2, i3]
      simp only [cond_true, Nat.sub_self, Nat.add_sub_cancel_left]
      exact okC_four n
    · have i0 : inR (k0 * 4) 4 (k * 4) = false := inR_f (by omega)
      have i1 : inR (k0 * 4) 4 (k * 4 + 1) = false := inR_f (by omega)
      have i2 : inR (k0 * 4) 4 (k * 4 + 2) = false := inR_f (by omega)
      have i3 : inR (k0 * 4) 4 (k * 4 + 3) = false := inR_f (by omega)
      rw [i0, i1, i2, i3]
      simp only [cond_false]
      exact h k hk
theorem sX_ok {rr cw : Nat} {l : List Int} {o : Nat} : ∀ i j, okRow (sX rr cw l o i j) cw
  | 0, _ => okRow_blank cw
  | i + 1, j => okRow_put (sX_ok i j)
theorem frX_same {rr cw : Nat} {X : Nat → Nat → Int} : frX rr cw X rr cw = X := by unfold frX; rw [if_pos ⟨rfl, rfl⟩]
end Go.Proofs.Ytohleiikedpmkaa.W

namespace Go.Proofs.Ytohleiikedpmkaa.W
open Go Go.Proofs.Ytohleiikedpmkaa.Vm
theorem eqc_comm (X Y : Nat → Nat → Int) (j k : Nat) : eqc X Y j k = eqc Y X j k := by
  unfold eqc
  rw [Bool.beq_comm (a := X j (k * 4)), Bool.beq_comm (a := X j (k * 4 + 1)), Bool.beq_comm (a := X j (k * 4 + 2)), Bool.beq_comm (a := X j (k * 4 + 3))]
def sN (L : Rn) : Nat → Nat
  | 0 => 0
  | k + 1 => sN L k + rn L k
def cR (Y X : Nat → Nat → Int) (j : Nat) : Nat → Nat
  | 0 => 0
  | k + 1 => bif eqc Y X j k then cR Y X j k else cR Y X j k + 1
def cA (Y X : Nat → Nat → Int) (cw : Nat) : Nat → Nat
  | 0 => 0
  | i + 1 => cA Y X cw i + cR Y X i cw
def okRuns (X Y : Nat → Nat → Int) (rr cw : Nat) (L : Rn) : Prop := ∀ q, q < L.length → 1 ≤ rn L q ∧ ra L q < rr ∧ rb L q + rn L q ≤ cw ∧ (∀ p, p < rn L q → eqc Y X (ra L q) (rb L q + p) = false) ∧ (∀ q', q = q' + 1 → ra L q' < ra L q ∨ (ra L q' = ra L q ∧ rb L q' + rn L q' < rb L q))
theorem sN_app {L : Rn} {x : Nat × Nat × Nat} : ∀ k, k ≤ L.length → sN (L ++ [x]) k = sN L k
  | 0, _ => rfl
  | k + 1, h => by
    show sN (L ++ [x]) k + rn (L ++ [x]) k = sN L k + rn L k
    rw [sN_app k (by omega), (ra_old (x := x) (show k < L.length by omega)).2.2]
theorem cR_run {Y X : Nat → Nat → Int} {j k : Nat} : ∀ d, (∀ q, k ≤ q → q < k + d → eqc Y X j q = false) → cR Y X j (k + d) = cR Y X j k + d
  | 0, _ => rfl
  | d + 1, h => by
    show (bif eqc Y X j (k + d) then cR Y X j (k + d) else cR Y X j (k + d) + 1) = _
    rw [h (k + d) (by omega) (by omega), cR_run d (fun q h1 h2 => h q h1 (by omega))]
    rfl
structure Good (X Y : Nat → Nat → Int) (rr cw : Nat) (i k : Nat) (L : Rn) : Prop where
  ok : okRuns X Y rr cw L
  last : ∀ q, q + 1 = L.length → ra L q < i ∨ (ra L q = i ∧ rb L q + rn L q < k)
  sum : sN L L.length = cA Y X cw i + cR Y X i (min k cw)
theorem Good.add {X Y : Nat → Nat → Int} {rr cw i k S : Nat} {L : Rn} (h : Good X Y rr cw i k L) (hi : i < rr) (h1 : k < S) (h2 : S ≤ cw) (h3 : ∀ q, k ≤ q → q < S → eqc Y X i q = false) (h4 : S = cw ∨ eqc Y X i S = true) : Good X Y rr cw i (S + 1) (L ++ [(i, k, S - k)]) := by
  have hl : (L ++ [(i, k, S - k)]).length = L.length + 1 := by simp
  obtain ⟨n1, n2, n3⟩ := ra_new (L := L) (x := (i, k, S - k))
  have n1 : ra (L ++ [(i, k, S - k)]) L.length = i := n1
  have n2 : rb (L ++ [(i, k, S - k)]) L.length = k := n2
  have n3 : rn (L ++ [(i, k, S - k)]) L.length = S - k := n3
  refine ⟨fun q hq => ?_, fun q hq => ?_, ?_⟩
  · by_cases hlt : q < L.length
    · obtain ⟨o1, o2, o3⟩ := ra_old (x := (i, k, S - k)) hlt
      obtain ⟨g1, g2, g3, g4, g5⟩ := h.ok q hlt
      rw [o1, o2, o3]
      refine ⟨g1, g2, g3, g4, fun q' hq' => ?_⟩
      obtain ⟨p1, p2, p3⟩ := ra_old (x := (i, k, S - k)) (show q' < L.length by omega)
      rw [p1, p2, p3]
      exact g5 q' hq'
    · have e : q = L.length := by omega
      subst e
      rw [n1, n2, n3]
      refine ⟨by omega, hi, by omega, fun p hp => h3 (k + p) (by omega) (by omega), fun q' hq' => ?_⟩
      obtain ⟨p1, p2, p3⟩ := ra_old (x := (i, k, S - k)) (show q' < L.length by omega)
      rw [p1, p2, p3]
      exact h.last q' hq'.symm
  · have e : q = L.length := by omega
    subst e
    rw [n1, n2, n3]
    exact .inr ⟨rfl, by omega⟩
  · rw [hl]
    show sN (L ++ [(i, k, S - k)]) L.length + rn (L ++ [(i, k, S - k)]) L.length = _
    rw [sN_app _ (Nat.le_refl _), n3, h.sum, Nat.min_eq_left (show k ≤ cw by omega)]
    have e1 : cR Y X i S = cR Y X i k + (S - k) := by
      have := cR_run (k := k) (S - k) (fun q h5 h6 => h3 q h5 (by omega))
      rwa [show k + (S - k) = S by omega] at this
    rcases h4 with h4 | h4
    · rw [Nat.min_eq_right (by omega)]
      rw [h4] at e1 ⊢
      omega
    · by_cases hs : S < cw
      · rw [Nat.min_eq_left (by omega)]
        have e2 : cR Y X i (S + 1) = cR Y X i S := by
          show (bif eqc Y X i S then cR Y X i S else cR Y X i S + 1) = _
          rw [h4]; rfl
        omega
      · have e3 : S = cw := by omega
        rw [Nat.min_eq_right (by omega)]
        rw [e3] at e1 ⊢
        omega
theorem Good.skip {X Y : Nat → Nat → Int} {rr cw i k : Nat} {L : Rn} (h : Good X Y rr cw i k L) (h2 : k < cw) (h4 : eqc Y X i k = true) : Good X Y rr cw i (k + 1) L := by
  refine ⟨h.ok, fun q hq => ?_, ?_⟩
  · rcases h.last q hq with h5 | h5
    · exact .inl h5
    · exact .inr ⟨h5.1, by omega⟩
  · rw [h.sum, Nat.min_eq_left (by omega), Nat.min_eq_left (by omega)]
    have e2 : cR Y X i (k + 1) = cR Y X i k := by
      show (bif eqc Y X i k then cR Y X i k else cR Y X i k + 1) = _
      rw [h4]; rfl
    omega
theorem Good.rows {X Y : Nat → Nat → Int} {rr cw i : Nat} (hi : i < rr) : ∀ n k L, Good X Y rr cw i k L → k ≤ cw + 1 → cw - k ≤ n → Good X Y rr cw (i + 1) 0 (rowRuns Y X i cw n k L)
  | 0, k, L, h, hk, hn => by
    show Good X Y rr cw (i + 1) 0 L
    refine ⟨h.ok, fun q hq => ?_, ?_⟩
    · rcases h.last q hq with h5 | h5
      · exact .inl (by omega)
      · exact .inl (by omega)
    · rw [h.sum, Nat.min_eq_right (by omega), Nat.zero_min]; rfl
  | n + 1, k, L, h, hk, hn => by
    by_cases hlt : k < cw
    · obtain ⟨s1, s2, s3, s4⟩ := stopAt_spec Y X i (Nat.le_of_lt hlt)
      simp only [rowRuns, bltT hlt, cond_true]
      by_cases hs : k < stopAt Y X i cw k
      · rw [bltT hs]
        simp only [cond_true]
        exact Good.rows hi n _ _ (h.add hi hs s2 s3 s4) (by omega) (by omega)
      · rw [bltF hs]
        simp only [cond_false]
        have e : stopAt Y X i cw k = k := by omega
        rw [e] at s4 ⊢
        have h4 : eqc Y X i k = true := by
          rcases s4 with s4 | s4
          · omega
          · exact s4
        exact Good.rows hi n _ _ (h.skip hlt h4) (by omega) (by omega)
    · rw [rowRuns_ge (by omega)]
      refine ⟨h.ok, fun q hq => ?_, ?_⟩
      · rcases h.last q hq with h5 | h5
        · exact .inl (by omega)
        · exact .inl (by omega)
      · rw [h.sum, Nat.min_eq_right (by omega), Nat.zero_min]; rfl
theorem runs_good {X Y : Nat → Nat → Int} {rr cw : Nat} : ∀ i, i ≤ rr → Good X Y rr cw i 0 (runs Y X cw i)
  | 0, _ => ⟨fun q hq => by simp [runs] at hq, fun q hq => by simp [runs] at hq, by simp [runs, sN, cA, cR]⟩
  | i + 1, h => Good.rows (by omega) _ _ _ (runs_good i (by omega)) (by omega) (by omega)
theorem runs_ok (X Y : Nat → Nat → Int) (rr cw : Nat) : okRuns X Y rr cw (runs Y X cw rr) := (runs_good rr (Nat.le_refl _)).ok
theorem runs_sum (X Y : Nat → Nat → Int) (rr cw : Nat) : sN (runs Y X cw rr) (runs Y X cw rr).length = cA Y X cw rr := by
  have := (runs_good (X := X) (Y := Y) (cw := cw) rr (Nat.le_refl _)).sum
  rw [this, Nat.zero_min]; rfl
end Go.Proofs.Ytohleiikedpmkaa.W

namespace Go.Proofs.Ytohleiikedpmkaa.Vm
open Go Go.Proofs Go.Proofs.Ytohleiikedpmkaa
set_option maxRecDepth 100000
noncomputable def LQI (l : List Int) (n : Nat) (l2 : List Int) (rr cw : Nat) (X Y : Nat → Nat → Int) (ro co ro2 co2 : Int) (hi hi2 : Bool) (L : W.Rn) (nn : Nat) (rw en : Int) (i k : Nat) : S0 :=
  ⟨[(9, (.c (.ptr 83 0 0))), (10, (.c (.ptr 179 0 0))), (11, (.c (.ptr 259 0 0))), (12, (.c (.int .i64 (nn : Int)))), (13, (.c (.int .i64 rw))), (14, (.c (.int .i64 en))), (15, (.c (.int .i64 (i : Int)))), (16, (.c (.ptr 531 0 0))), (8, (.c (.bool (false)))), (17, (.c (.int .i64 (k : Int))))], [(1, (.one ⟨false, false, (.ints .i64 l)⟩)), (2, (.one ⟨false, false, (.ints .i64 l2)⟩)), (67, (.one ⟨true, false, .gen rr (fun j_ => .sl 68 j_ 0 cw 4)⟩)), (68, (.many (fun j_ => some ⟨true, true, .ig (W.rl rr (cw * 4) j_) W.ck (X j_)⟩))), (83, (.one ⟨true, true, .cells [.int .i64 (rr : Int), .int .i64 (cw : Int), .sl 67 0 0 rr 1, .int .i64 ro, .int .i64 co, .bool hi]⟩)), (163, (.one ⟨true, false, .gen rr (fun j_ => .sl 164 j_ 0 cw 4)⟩)), (164, (.many (fun j_ => some ⟨true, true, .ig (W.rl rr (cw * 4) j_) W.ck (Y j_)⟩))), (179, (.one ⟨true, true, .cells [.int .i64 (rr : Int), .int .i64 (cw : Int), .sl 163 0 0 rr 1, .int .i64 ro2, .int .i64 co2, .bool hi2]⟩)), (243, (.one ⟨true, false, .row (L.length * 3) 3 (fun k_ => [.int .i64 (W.ra L k_ : Int), .int .i64 (W.rb L k_ : Int), .sl 244 k_ 0 (W.rn L k_) 4])⟩)), (244, (.many (fun j_ => some ⟨true, false, .ig (W.rn L j_ * 4) W.ck (fun p_ => Y (W.ra L j_) (p_ + W.rb L j_ * 4))⟩))), (259, (.one ⟨true, true, .cells [.int .i64 (rr : Int), .int .i64 (cw : Int), .int .i64 ro2, .int .i64 co2, .bool hi2, .sl 243 0 0 L.length 3]⟩)), (531, (.one ⟨true, true, .cells [.int .i64 (W.ra L i : Int), .int .i64 (W.rb L i : Int), .sl 244 i 0 (W.rn L i) 4]⟩))], 100016⟩
theorem LQ_by {α : Type} (I : α → S0) (Inv : α → Prop) (μ : α → Nat) {ex : Ex} {s' : S0} (hex : ex ≠ .normal)
    (step : ∀ x, Inv x → (∃ y, Inv y ∧ μ y < μ x ∧ CodeOk Try.prog 200 100000 (kAt (kOf Try.prog Try.f3) [true, true, true, true, true, true, true, false, true, false, false, true, false, false, true, true, true, true, false, true, false, false]) (I x) .normal (I y)) ∨ CodeOk Try.prog 200 100000 (kAt (kOf Try.prog Try.f3) [true, true, true, true, true, true, true, false, true, false, false, true, false, false, true, true, true, true, false, true, false, false]) (I x) ex s') (x : α) (hx : Inv x) :
    CodeOk Try.prog 200 100000 (kAt (kOf Try.prog Try.f3) [true, true, true, true, true, true, true, false, true, false, false, true, false, false, true, true, true, true, false, true, false]) (I x) ex s' := by
  have hk : (kAt (kOf Try.prog Try.f3) [true, true, true, true, true, true, true, false, true, false, false, true, false, false, true, true, true, true, false, true, false]) = .loop (kAt (kOf Try.prog Try.f3) [true, true, true, true, true, true, true, false, true, false, false, true, false, false, true, true, true, true, false, true, false, false]) := by kernel_rfl
  rw [hk]
  exact CodeOk.loop I Inv μ hex step x hx
theorem LQ_rtft (rows cols : Int) (l : List Int) (o n : Nat) (l2 : List Int) (p m rr cw : Nat) (X Y : Nat → Nat → Int) (ro co ro2 co2 : Int) (hi hi2 : Bool) (L : W.Rn) (nn : Nat) (rw en : Int) (i k : Nat)
    (hr : -9223372036854775808 ≤ rows ∧ rows < 9223372036854775808)
    (hc : -9223372036854775808 ≤ cols ∧ cols < 9223372036854775808)
    (hl : o + n ≤ l.length)
    (hn : n ≤ 1048576)
    (hl2 : p + m ≤ l2.length)
    (hm : m ≤ 1048576)
    (h6 : W.pick rows 6 < 6)
    (h9 : W.pick cols 9 < 9)
    (hlb : ∀ j, -9223372036854775808 ≤ List.getD l j 0 ∧ List.getD l j 0 < 9223372036854775808)
    (hlb2 : ∀ j, -9223372036854775808 ≤ List.getD l2 j 0 ∧ List.getD l2 j 0 < 9223372036854775808)
    (hrr : 1 ≤ rr ∧ rr ≤ 6)
    (hcw : 1 ≤ cw ∧ cw ≤ 9)
    (hgd : W.okRuns X Y rr cw L)
    (hil : i < L.length)
    (hkl : k ≤ W.rn L i)
    (hra : W.ra L i < rr)
    (hrb : W.rb L i + W.rn L i ≤ cw)
    (h0 : ((↑k : Int) < (↑(W.rn L i) : Int)))
    (h1 : (¬(X (W.ra L i) ((W.rb L i + k) * (4 : Nat)) == Y (W.ra L i) ((W.rb L i + k) * (4 : Nat)) && (X (W.ra L i) ((W.rb L i + k) * (4 : Nat) + (1 : Nat)) == Y (W.ra L i) ((W.rb L i + k) * (4 : Nat) + (1 : Nat)) && (X (W.ra L i) ((W.rb L i + k) * (4 : Nat) + (2 : Nat)) == Y (W.ra L i) ((W.rb L i + k) * (4 : Nat) + (2 : Nat)) && (X (W.ra L i) ((W.rb L i + k) * (4 : Nat) + (3 : Nat)) == Y (W.ra L i) ((W.rb L i + k) * (4 : Nat) + (3 : Nat)) && true)))) = true))
    (h2 : ((Y (W.ra L i) (k * (4 : Nat) + W.rb L i * (4 : Nat)) == Y (W.ra L i) ((W.rb L i + k) * (4 : Nat)) && (Y (W.ra L i) (k * (4 : Nat) + (1 : Nat) + W.rb L i * (4 : Nat)) == Y (W.ra L i) ((W.rb L i + k) * (4 : Nat) + (1 : Nat)) && (Y (W.ra L i) (k * (4 : Nat) + (2 : Nat) + W.rb L i * (4 : Nat)) == Y (W.ra L i) ((W.rb L i + k) * (4 : Nat) + (2 : Nat)) && (Y (W.ra L i) (k * (4 : Nat) + (3 : Nat) + W.rb L i * (4 : Nat)) == Y (W.ra L i) ((W.rb L i + k) * (4 : Nat) + (3 : Nat)) && true)))) = true)) :
    CodeOk Try.prog 200 100000 (kAt (kOf Try.prog Try.f3) [true, true, true, true, true, true, true, false, true, false, false, true, false, false, true, true, true, true, false, true, false, false]) (LQI l n l2 rr cw X Y ro co ro2 co2 hi hi2 L nn rw en i k) .normal (LQI l n l2 rr cw (fun j_ p_ => X j_ p_) (fun j_ p_ => Y j_ p_) ro co ro2 co2 hi hi2 L nn rw en i (k + 1)) :=
  CodeOk.of_runs (fuel := 3) (v := ⟨[9, 10, 11, 12, 13, 14, 15, 16, 8, 17], [1, 2, 67, 68, 83, 163, 164, 179, 243, 244, 259, 531], [], 100016⟩) (hs := [(4, ⟨.auto, some (.c (.bool (true)))⟩), (8, ⟨.auto, some (.c (.bool (false)))⟩), (14, ⟨.auto, some (.c (.bool (false)))⟩), (20, ⟨.auto, some (.c (.int .i64 (↑(W.rb L i + k))))⟩), (21, ⟨.auto, some (.c (.bool (false)))⟩), (27, ⟨.auto, some (.c (.int .i64 (↑(W.rb L i + k))))⟩), (30, ⟨.auto, some (.c (.bool (false)))⟩), (37, ⟨.ask, none⟩), (38, ⟨.ask, none⟩), (42, ⟨.auto, some (.c (.int .i64 (↑(W.rb L i + k))))⟩), (43, ⟨.ask, none⟩), (44, ⟨.ask, some (.agg [(.int .i32 (X (W.ra L i) ((W.rb L i + k) * 4))), (.int .i64 (X (W.ra L i) ((W.rb L i + k) * 4 + 1))), (.int .i64 (X (W.ra L i) ((W.rb L i + k) * 4 + 2))), (.int .i64 (X (W.ra L i) ((W.rb L i + k) * 4 + 3)))])⟩), (49, ⟨.ask, none⟩), (50, ⟨.ask, none⟩), (54, ⟨.auto, some (.c (.int .i64 (↑(W.rb L i + k))))⟩), (55, ⟨.ask, none⟩), (56, ⟨.ask, some (.agg [(.int .i32 (Y (W.ra L i) ((W.rb L i + k) * 4))), (.int .i64 (Y (W.ra L i) ((W.rb L i + k) * 4 + 1))), (.int .i64 (Y (W.ra L i) ((W.rb L i + k) * 4 + 2))), (.int .i64 (Y (W.ra L i) ((W.rb L i + k) * 4 + 3)))])⟩), (59, ⟨.auto, some (.c (.bool (false)))⟩), (63, ⟨.ask, none⟩), (64, ⟨.ask, some (.agg [(.int .i32 (Y (W.ra L i) (k * 4 + W.rb L i * 4))), (.int .i64 (Y (W.ra L i) (k * 4 + 1 + W.rb L i * 4))), (.int .i64 (Y (W.ra L i) (k * 4 + 2 + W.rb L i * 4))), (.int .i64 (Y (W.ra L i) (k * 4 + 3 + W.rb L i * 4)))])⟩), (69, ⟨.ask, none⟩), (70, ⟨.ask, none⟩), (74, ⟨.auto, some (.c (.int .i64 (↑(W.rb L i + k))))⟩), (75, ⟨.ask, none⟩), (76, ⟨.ask, some (.agg [(.int .i32 (Y (W.ra L i) ((W.rb L i + k) * 4))), (.int .i64 (Y (W.ra L i) ((W.rb L i + k) * 4 + 1))), (.int .i64 (Y (W.ra L i) ((W.rb L i + k) * 4 + 2))), (.int .i64 (Y (W.ra L i) ((W.rb L i + k) * 4 + 3)))])⟩), (78, ⟨.auto, some (.c (.bool (false)))⟩), (81, ⟨.auto, some (.c (.int .i64 (↑(k + 1))))⟩)])
    (cs := [EI .i64 (IntKind.wrap IntKind.i64 ((↑k : Int) + 1)) ((↑(k + 1) : Int)),
      EB (!(Y (W.ra L i) (k * 4 + W.rb L i * 4) == Y (W.ra L i) ((W.rb L i + k) * 4) && (Y (W.ra L i) (k * 4 + 1 + W.rb L i * 4) == Y (W.ra L i) ((W.rb L i + k) * 4 + 1) && (Y (W.ra L i) (k * 4 + 2 + W.rb L i * 4) == Y (W.ra L i) ((W.rb L i + k) * 4 + 2) && (Y (W.ra L i) (k * 4 + 3 + W.rb L i * 4) == Y (W.ra L i) ((W.rb L i + k) * 4 + 3) && true))))) false,
      ((.agg ((List.range 4).map (fun p_ => .int (W.ck (p_ + (W.rb L i + k) * 4)) (Y (W.ra L i) (p_ + (W.rb L i + k) * 4))))) : V) = (.agg [(.int .i32 (Y (W.ra L i) ((W.rb L i + k) * 4))), (.int .i64 (Y (W.ra L i) ((W.rb L i + k) * 4 + 1))), (.int .i64 (Y (W.ra L i) ((W.rb L i + k) * 4 + 2))), (.int .i64 (Y (W.ra L i) ((W.rb L i + k) * 4 + 3)))]),
      ((W.rb L i + k) * (4 : Nat) + (4 : Nat) ≤ W.rl rr (cw * (4 : Nat)) (W.ra L i)),
      ((0 : Int) ≤ (↑(W.rb L i + k) : Int) ∧ (↑(W.rb L i + k) : Int) < (↑cw : Int)),
      EI .i64 (IntKind.wrap IntKind.i64 ((↑(W.rb L i) : Int) + (↑k : Int))) ((↑(W.rb L i + k) : Int)),
      (W.ra L i + (1 : Nat) ≤ rr),
      ((0 : Int) ≤ (↑(W.ra L i) : Int) ∧ (↑(W.ra L i) : Int) < (↑rr : Int)),
      ((.agg ((List.range 4).map (fun p_ => .int (W.ck (p_ + k * 4)) (Y (W.ra L i) (p_ + k * 4 + W.rb L i * 4))))) : V) = (.agg [(.int .i32 (Y (W.ra L i) (k * 4 + W.rb L i * 4))), (.int .i64 (Y (W.ra L i) (k * 4 + 1 + W.rb L i * 4))), (.int .i64 (Y (W.ra L i) (k * 4 + 2 + W.rb L i * 4))), (.int .i64 (Y (W.ra L i) (k * 4 + 3 + W.rb L i * 4)))]),
      (k * (4 : Nat) + (4 : Nat) ≤ W.rn L i * (4 : Nat)),
      ((0 : Int) ≤ (↑k : Int) ∧ (↑k : Int) < (↑(W.rn L i) : Int)),
      EB (X (W.ra L i) ((W.rb L i + k) * 4) == Y (W.ra L i) ((W.rb L i + k) * 4) && (X (W.ra L i) ((W.rb L i + k) * 4 + 1) == Y (W.ra L i) ((W.rb L i + k) * 4 + 1) && (X (W.ra L i) ((W.rb L i + k) * 4 + 2) == Y (W.ra L i) ((W.rb L i + k) * 4 + 2) && (X (W.ra L i) ((W.rb L i + k) * 4 + 3) == Y (W.ra L i) ((W.rb L i + k) * 4 + 3) && true)))) false,
      ((.agg ((List.range 4).map (fun p_ => .int (W.ck (p_ + (W.rb L i + k) * 4)) (Y (W.ra L i) (p_ + (W.rb L i + k) * 4))))) : V) = (.agg [(.int .i32 (Y (W.ra L i) ((W.rb L i + k) * 4))), (.int .i64 (Y (W.ra L i) ((W.rb L i + k) * 4 + 1))), (.int .i64 (Y (W.ra L i) ((W.rb L i + k) * 4 + 2))), (.int .i64 (Y (W.ra L i) ((W.rb L i + k) * 4 + 3)))]),
      ((W.rb L i + k) * (4 : Nat) + (4 : Nat) ≤ W.rl rr (cw * (4 : Nat)) (W.ra L i)),
      ((0 : Int) ≤ (↑(W.rb L i + k) : Int) ∧ (↑(W.rb L i + k) : Int) < (↑cw : Int)),
      EI .i64 (IntKind.wrap IntKind.i64 ((↑(W.rb L i) : Int) + (↑k : Int))) ((↑(W.rb L i + k) : Int)),
      (W.ra L i + (1 : Nat) ≤ rr),
      ((0 : Int) ≤ (↑(W.ra L i) : Int) ∧ (↑(W.ra L i) : Int) < (↑rr : Int)),
      ((.agg ((List.range 4).map (fun p_ => .int (W.ck (p_ + (W.rb L i + k) * 4)) (X (W.ra L i) (p_ + (W.rb L i + k) * 4))))) : V) = (.agg [(.int .i32 (X (W.ra L i) ((W.rb L i + k) * 4))), (.int .i64 (X (W.ra L i) ((W.rb L i + k) * 4 + 1))), (.int .i64 (X (W.ra L i) ((W.rb L i + k) * 4 + 2))), (.int .i64 (X (W.ra L i) ((W.rb L i + k) * 4 + 3)))]),
      ((W.rb L i + k) * (4 : Nat) + (4 : Nat) ≤ W.rl rr (cw * (4 : Nat)) (W.ra L i)),
      ((0 : Int) ≤ (↑(W.rb L i + k) : Int) ∧ (↑(W.rb L i + k) : Int) < (↑cw : Int)),
      EI .i64 (IntKind.wrap IntKind.i64 ((↑(W.rb L i) : Int) + (↑k : Int))) ((↑(W.rb L i + k) : Int)),
      (W.ra L i + (1 : Nat) ≤ rr),
      ((0 : Int) ≤ (↑(W.ra L i) : Int) ∧ (↑(W.ra L i) : Int) < (↑rr : Int)),
      EB (decide ((↑(W.rb L i + k) : Int) ≥ (↑cw : Int))) false,
      EI .i64 (IntKind.wrap IntKind.i64 ((↑(W.rb L i) : Int) + (↑k : Int))) ((↑(W.rb L i + k) : Int)),
      EB (decide ((↑(W.rb L i + k) : Int) < 0)) false,
      EI .i64 (IntKind.wrap IntKind.i64 ((↑(W.rb L i) : Int) + (↑k : Int))) ((↑(W.rb L i + k) : Int)),
      EB (decide ((↑(W.ra L i) : Int) ≥ (↑rr : Int))) false,
      EB (decide ((↑(W.ra L i) : Int) < 0)) false,
      EB (decide ((↑k : Int) < (↑(W.rn L i) : Int))) true])
    mixed (by kernel_rfl) ⟨.mk (by simp only [addO_eq, mulE_eq, mulE_one, Int.toNat_natCast, IntKind.wrap_i64, mmin, mmax]; omega), .mk (not_f h2), EV.ck4 (g := (fun p_ => (Y (W.ra L i) p_))) (o := ((W.rb L i + k) * 4)) (by omega) (by omega), (by rw [rl_lt (by omega)]; omega), (by omega), .mk (by simp only [addO_eq, mulE_eq, mulE_one, Int.toNat_natCast, IntKind.wrap_i64, mmin, mmax]; omega), (by omega), (by omega), EV.ck4 (g := (fun p_ => (Y (W.ra L i) (p_ + W.rb L i * 4)))) (o := (k * 4)) (by omega) (by omega), (by omega), (by omega), .mk (Bool.eq_false_iff.2 h1), EV.ck4 (g := (fun p_ => (Y (W.ra L i) p_))) (o := ((W.rb L i + k) * 4)) (by omega) (by omega), (by rw [rl_lt (by omega)]; omega), (by omega), .mk (by simp only [addO_eq, mulE_eq, mulE_one, Int.toNat_natCast, IntKind.wrap_i64, mmin, mmax]; omega), (by omega), (by omega), EV.ck4 (g := (fun p_ => (X (W.ra L i) p_))) (o := ((W.rb L i + k) * 4)) (by omega) (by omega), (by rw [rl_lt (by omega)]; omega), (by omega), .mk (by simp only [addO_eq, mulE_eq, mulE_one, Int.toNat_natCast, IntKind.wrap_i64, mmin, mmax]; omega), (by omega), (by omega), .mk (decide_eq_false (by omega)), .mk (by simp only [addO_eq, mulE_eq, mulE_one, Int.toNat_natCast, IntKind.wrap_i64, mmin, mmax]; omega), .mk (decide_eq_false (by omega)), .mk (by simp only [addO_eq, mulE_eq, mulE_one, Int.toNat_natCast, IntKind.wrap_i64, mmin, mmax]; omega), .mk (decide_eq_false (by omega)), .mk (decide_eq_false (by omega)), .mk (decide_eq_true h0), trivial⟩
theorem LQ_xf (rows cols : Int) (l : List Int) (o n : Nat) (l2 : List Int) (p m rr cw : Nat) (X Y : Nat → Nat → Int) (ro co ro2 co2 : Int) (hi hi2 : Bool) (L : W.Rn) (nn : Nat) (rw en : Int) (i k : Nat)
    (hr : -9223372036854775808 ≤ rows ∧ rows < 9223372036854775808)
    (hc : -9223372036854775808 ≤ cols ∧ cols < 9223372036854775808)
    (hl : o + n ≤ l.length)
    (hn : n ≤ 1048576)
    (hl2 : p + m ≤ l2.length)
    (hm : m ≤ 1048576)
    (h6 : W.pick rows 6 < 6)
    (h9 : W.pick cols 9 < 9)
    (hlb : ∀ j, -9223372036854775808 ≤ List.getD l j 0 ∧ List.getD l j 0 < 9223372036854775808)
    (hlb2 : ∀ j, -9223372036854775808 ≤ List.getD l2 j 0 ∧ List.getD l2 j 0 < 9223372036854775808)
    (hrr : 1 ≤ rr ∧ rr ≤ 6)
    (hcw : 1 ≤ cw ∧ cw ≤ 9)
    (hgd : W.okRuns X Y rr cw L)
    (hil : i < L.length)
    (hkl : k ≤ W.rn L i)
    (hra : W.ra L i < rr)
    (hrb : W.rb L i + W.rn L i ≤ cw)
    (h0 : (¬(↑k : Int) < (↑(W.rn L i) : Int))) :
    CodeOk Try.prog 200 100000 (kAt (kOf Try.prog Try.f3) [true, true, true, true, true, true, true, false, true, false, false, true, false, false, true, true, true, true, false, true, false, false]) (LQI l n l2 rr cw X Y ro co ro2 co2 hi hi2 L nn rw en i k) (.exit 2) (LQI l n l2 rr cw (fun j_ p_ => X j_ p_) (fun j_ p_ => Y j_ p_) ro co ro2 co2 hi hi2 L nn rw en i k) :=
  CodeOk.of_runs (fuel := 3) (v := ⟨[9, 10, 11, 12, 13, 14, 15, 16, 8, 17], [1, 2, 67, 68, 83, 163, 164, 179, 243, 244, 259, 531], [], 100016⟩) (hs := [(4, ⟨.auto, some (.c (.bool (false)))⟩)])
    (cs := [EB (decide ((↑k : Int) < (↑(W.rn L i) : Int))) false])
    mixed (by kernel_rfl) ⟨.mk (decide_eq_false h0), trivial⟩
end Go.Proofs.Ytohleiikedpmkaa.Vm

namespace Go.Proofs.Ytohleiikedpmkaa.Vm
open Go Go.Proofs Go.Proofs.Ytohleiikedpmkaa
theorem eqc_self {Y : Nat → Nat → Int} {a k r : Nat} : (Y a (k * 4 + r * 4) == Y a ((r + k) * 4) && (Y a (k * 4 + 1 + r * 4) == Y a ((r + k) * 4 + 1) && (Y a (k * 4 + 2 + r * 4) == Y a ((r + k) * 4 + 2) && (Y a (k * 4 + 3 + r * 4) == Y a ((r + k) * 4 + 3) && true)))) = true := by
  rw [show k * 4 + r * 4 = (r + k) * 4 by omega, show k * 4 + 1 + r * 4 = (r + k) * 4 + 1 by omega, show k * 4 + 2 + r * 4 = (r + k) * 4 + 2 by omega, show k * 4 + 3 + r * 4 = (r + k) * 4 + 3 by omega]
  simp
theorem least_inner (rows cols : Int) (l : List Int) (o n : Nat) (l2 : List Int) (p m : Nat) (rr cw : Nat) (X Y : Nat → Nat → Int) (ro co ro2 co2 : Int) (hi hi2 : Bool) (L : W.Rn) (nn : Nat) (rw en : Int) (i : Nat)
    (hr : -9223372036854775808 ≤ rows ∧ rows < 9223372036854775808) (hc : -9223372036854775808 ≤ cols ∧ cols < 9223372036854775808) (hl : o + n ≤ l.length) (hn : n ≤ 1048576) (hl2 : p + m ≤ l2.length) (hm : m ≤ 1048576) (h6 : W.pick rows 6 < 6) (h9 : W.pick cols 9 < 9)
    (hlb : ∀ j, -9223372036854775808 ≤ List.getD l j 0 ∧ List.getD l j 0 < 9223372036854775808) (hlb2 : ∀ j, -9223372036854775808 ≤ List.getD l2 j 0 ∧ List.getD l2 j 0 < 9223372036854775808)
    (hrr : 1 ≤ rr ∧ rr ≤ 6) (hcw : 1 ≤ cw ∧ cw ≤ 9) (hgd : W.okRuns X Y rr cw L) (hil : i < L.length) :
    CodeOk Try.prog 200 100000 (kAt (kOf Try.prog Try.f3) [true, true, true, true, true, true, true, false, true, false, false, true, false, false, true, true, true, true, false, true, false]) (LQI l n l2 rr cw X Y ro co ro2 co2 hi hi2 L nn rw en i 0) (.exit 2) (LQI l n l2 rr cw X Y ro co ro2 co2 hi hi2 L nn rw en i (W.rn L i)) := by
  obtain ⟨_, hra, hrb, hdf, _⟩ := hgd i hil
  refine LQ_by (fun k => LQI l n l2 rr cw X Y ro co ro2 co2 hi hi2 L nn rw en i k) (fun k => k ≤ W.rn L i) (fun k => W.rn L i - k) (by simp) ?_ 0 (Nat.zero_le _)
  intro k hkl
  by_cases h0 : (k : Int) < (W.rn L i : Int)
  · have hd := hdf k (by omega)
    rw [W.eqc_comm] at hd
    refine .inl ⟨k + 1, by omega, by omega, LQ_rtft rows cols l o n l2 p m rr cw X Y ro co ro2 co2 hi hi2 L nn rw en i k hr hc hl hn hl2 hm h6 h9 hlb hlb2 hrr hcw hgd hil hkl hra hrb h0 ?_ eqc_self⟩
    unfold W.eqc at hd
    rw [hd]; simp
  · have e : k = W.rn L i := by omega
    subst e
    exact .inr (LQ_xf rows cols l o n l2 p m rr cw X Y ro co ro2 co2 hi hi2 L nn rw en i (W.rn L i) hr hc hl hn hl2 hm h6 h9 hlb hlb2 hrr hcw hgd hil hkl hra hrb h0)
end Go.Proofs.Ytohleiikedpmkaa.Vm

namespace Go.Proofs.Ytohleiikedpmkaa.Vm
open Go Go.Proofs Go.Proofs.Ytohleiikedpmkaa
set_option maxRecDepth 100000
noncomputable def LPI (l : List Int) (n : Nat) (l2 : List Int) (rr cw : Nat) (X Y : Nat → Nat → Int) (ro co ro2 co2 : Int) (hi hi2 : Bool) (L : W.Rn) (nn : Nat) (rw en : Int) (i : Nat) : S0 :=
  ⟨[(9, (.c (.ptr 83 0 0))), (10, (.c (.ptr 179 0 0))), (11, (.c (.ptr 259 0 0))), (8, (.c (.bool (false)))), (12, (.c (.int .i64 (nn : Int)))), (13, (.c (.int .i64 rw))), (14, (.c (.int .i64 en))), (15, (.c (.int .i64 (i : Int))))], [(1, (.one ⟨false, false, (.ints .i64 l)⟩)), (2, (.one ⟨false, false, (.ints .i64 l2)⟩)), (67, (.one ⟨true, false, .gen rr (fun j_ => .sl 68 j_ 0 cw 4)⟩)), (68, (.many (fun j_ => some ⟨true, true, .ig (W.rl rr (cw * 4) j_) W.ck (X j_)⟩))), (83, (.one ⟨true, true, .cells [.int .i64 (rr : Int), .int .i64 (cw : Int), .sl 67 0 0 rr 1, .int .i64 ro, .int .i64 co, .bool hi]⟩)), (163, (.one ⟨true, false, .gen rr (fun j_ => .sl 164 j_ 0 cw 4)⟩)), (164, (.many (fun j_ => some ⟨true, true, .ig (W.rl rr (cw * 4) j_) W.ck (Y j_)⟩))), (179, (.one ⟨true, true, .cells [.int .i64 (rr : Int), .int .i64 (cw : Int), .sl 163 0 0 rr 1, .int .i64 ro2, .int .i64 co2, .bool hi2]⟩)), (243, (.one ⟨true, false, .row (L.length * 3) 3 (fun k_ => [.int .i64 (W.ra L k_ : Int), .int .i64 (W.rb L k_ : Int), .sl 244 k_ 0 (W.rn L k_) 4])⟩)), (244, (.many (fun j_ => some ⟨true, false, .ig (W.rn L j_ * 4) W.ck (fun p_ => Y (W.ra L j_) (p_ + W.rb L j_ * 4))⟩))), (259, (.one ⟨true, true, .cells [.int .i64 (rr : Int), .int .i64 (cw : Int), .int .i64 ro2, .int .i64 co2, .bool hi2, .sl 243 0 0 L.length 3]⟩))], 371⟩
theorem LP_by {α : Type} (I : α → S0) (Inv : α → Prop) (μ : α → Nat) {ex : Ex} {s' : S0} (hex : ex ≠ .normal)
    (step : ∀ x, Inv x → (∃ y, Inv y ∧ μ y < μ x ∧ CodeOk Try.prog 200 355 (kAt (kOf Try.prog Try.f3) [true, true, true, true, true, true, true, false, true, false, false]) (I x) .normal (I y)) ∨ CodeOk Try.prog 200 355 (kAt (kOf Try.prog Try.f3) [true, true, true, true, true, true, true, false, true, false, false]) (I x) ex s') (x : α) (hx : Inv x) :
    CodeOk Try.prog 200 355 (kAt (kOf Try.prog Try.f3) [true, true, true, true, true, true, true, false, true, false]) (I x) ex s' := by
  have hk : (kAt (kOf Try.prog Try.f3) [true, true, true, true, true, true, true, false, true, false]) = .loop (kAt (kOf Try.prog Try.f3) [true, true, true, true, true, true, true, false, true, false, false]) := by kernel_rfl
  rw [hk]
  exact CodeOk.loop I Inv μ hex step x hx
noncomputable def LP0 (rows cols : Int) (l : List Int) (o n : Nat) (l2 : List Int) (p m : Nat) : S0 :=
  ⟨[(9, (.c (.ptr 83 0 0))), (10, (.c (.ptr 179 0 0))), (11, (.c (.ptr 259 0 0))), (8, (.c (.bool (false)))), (12, (.c (.int .i64 0))), (13, (.c (.int .i64 (-1)))), (14, (.c (.int .i64 0))), (15, (.c (.int .i64 0)))], [(1, (.one ⟨false, false, (.ints .i64 l)⟩)), (2, (.one ⟨false, false, (.ints .i64 l2)⟩)), (67, (.one ⟨true, false, (.gen (1 + W.pick rows 6) (fun j_ => (.sl 68 j_ 0 (1 + W.pick cols 9) 4)))⟩)), (68, (.many (fun j_ => some ⟨true, true, (.ig (W.rl (1 + W.pick rows 6) ((1 + W.pick cols 9) * 4) j_) W.ck (fun p_ => (W.sX (1 + W.pick rows 6) (1 + W.pick cols 9) l o (min n 60) j_ p_)))⟩))), (83, (.one ⟨true, true, (.cells [(.int .i64 (↑(1 + W.pick rows 6))), (.int .i64 (↑(1 + W.pick cols 9))), (.sl 67 0 0 (1 + W.pick rows 6) 1), (.int .i64 (W.sRo (1 + W.pick rows 6) l o (min n 60))), (.int .i64 (W.sCo (1 + W.pick cols 9) l o (min n 60))), (.bool (W.sHi l o (min n 60)))])⟩)), (163, (.one ⟨true, false, (.gen (1 + W.pick rows 6) (fun j_ => (.sl 164 j_ 0 (1 + W.pick cols 9) 4)))⟩)), (164, (.many (fun j_ => some ⟨true, true, (.ig (W.rl (1 + W.pick rows 6) ((1 + W.pick cols 9) * 4) j_) W.ck (fun p_ => (W.sX (1 + W.pick rows 6) (1 + W.pick cols 9) l2 p (min m 60) j_ p_)))⟩))), (179, (.one ⟨true, true, (.cells [(.int .i64 (↑(1 + W.pick rows 6))), (.int .i64 (↑(1 + W.pick cols 9))), (.sl 163 0 0 (1 + W.pick rows 6) 1), (.int .i64 (W.sRo (1 + W.pick rows 6) l2 p (min m 60))), (.int .i64 (W.sCo (1 + W.pick cols 9) l2 p (min m 60))), (.bool (W.sHi l2 p (min m 60)))])⟩)), (243, (.one ⟨true, false, (.row (List.length (W.runs (fun j_ p_ => W.sX (1 + W.pick rows 6) (1 + W.pick cols 9) l2 p (min m 60) j_ p_) (W.frX (1 + W.pick rows 6) (1 + W.pick cols 9) (fun j_ p_ => W.sX (1 + W.pick rows 6) (1 + W.pick cols 9) l o (min n 60) j_ p_) (1 + W.pick rows 6) (1 + W.pick cols 9)) (1 + W.pick cols 9) (1 + W.pick rows 6)) * 3) 3 (fun j_ => [(.int .i64 (↑(W.ra (W.runs (fun j_ p_ => W.sX (1 + W.pick rows 6) (1 + W.pick cols 9) l2 p (min m 60) j_ p_) (W.frX (1 + W.pick rows 6) (1 + W.pick cols 9) (fun j_ p_ => W.sX (1 + W.pick rows 6) (1 + W.pick cols 9) l o (min n 60) j_ p_) (1 + W.pick rows 6) (1 + W.pick cols 9)) (1 + W.pick cols 9) (1 + W.pick rows 6)) j_))), (.int .i64 (↑(W.rb (W.runs (fun j_ p_ => W.sX (1 + W.pick rows 6) (1 + W.pick cols 9) l2 p (min m 60) j_ p_) (W.frX (1 + W.pick rows 6) (1 + W.pick cols 9) (fun j_ p_ => W.sX (1 + W.pick rows 6) (1 + W.pick cols 9) l o (min n 60) j_ p_) (1 + W.pick rows 6) (1 + W.pick cols 9)) (1 + W.pick cols 9) (1 + W.pick rows 6)) j_))), (.sl 244 j_ 0 (W.rn (W.runs (fun j_ p_ => W.sX (1 + W.pick rows 6) (1 + W.pick cols 9) l2 p (min m 60) j_ p_) (W.frX (1 + W.pick rows 6) (1 + W.pick cols 9) (fun j_ p_ => W.sX (1 + W.pick rows 6) (1 + W.pick cols 9) l o (min n 60) j_ p_) (1 + W.pick rows 6) (1 + W.pick cols 9)) (1 + W.pick cols 9) (1 + W.pick rows 6)) j_) 4)]))⟩)), (244, (.many (fun j_ => some ⟨true, false, (.ig (W.rn (W.runs (fun j_ p_ => W.sX (1 + W.pick rows 6) (1 + W.pick cols 9) l2 p (min m 60) j_ p_) (W.frX (1 + W.pick rows 6) (1 + W.pick cols 9) (fun j_ p_ => W.sX (1 + W.pick rows 6) (1 + W.pick cols 9) l o (min n 60) j_ p_) (1 + W.pick rows 6) (1 + W.pick cols 9)) (1 + W.pick cols 9) (1 + W.pick rows 6)) j_ * 4) W.ck (fun p_ => (W.sX (1 + W.pick rows 6) (1 + W.pick cols 9) l2 p (min m 60) (W.ra (W.runs (fun j_ p_ => W.sX (1 + W.pick rows 6) (1 + W.pick cols 9) l2 p (min m 60) j_ p_) (W.frX (1 + W.pick rows 6) (1 + W.pick cols 9) (fun j_ p_ => W.sX (1 + W.pick rows 6) (1 + W.pick cols 9) l o (min n 60) j_ p_) (1 + W.pick rows 6) (1 + W.pick cols 9)) (1 + W.pick cols 9) (1 + W.pick rows 6)) j_) (p_ + W.rb (W.runs (fun j_ p_ => W.sX (1 + W.pick rows 6) (1 + W.pick cols 9) l2 p (min m 60) j_ p_) (W.frX (1 + W.pick rows 6) (1 + W.pick cols 9) (fun j_ p_ => W.sX (1 + W.pick rows 6) (1 + W.pick cols 9) l o (min n 60) j_ p_) (1 + W.pick rows 6) (1 + W.pick cols 9)) (1 + W.pick cols 9) (1 + W.pick rows 6)) j_ * 4))))⟩))), (259, (.one ⟨true, true, (.cells [(.int .i64 (↑(1 + W.pick rows 6))), (.int .i64 (↑(1 + W.pick cols 9))), (.int .i64 (W.sRo (1 + W.pick rows 6) l2 p (min m 60))), (.int .i64 (W.sCo (1 + W.pick cols 9) l2 p (min m 60))), (.bool (W.sHi l2 p (min m 60))), (.sl 243 0 0 (List.length (W.runs (fun j_ p_ => W.sX (1 + W.pick rows 6) (1 + W.pick cols 9) l2 p (min m 60) j_ p_) (W.frX (1 + W.pick rows 6) (1 + W.pick cols 9) (fun j_ p_ => W.sX (1 + W.pick rows 6) (1 + W.pick cols 9) l o (min n 60) j_ p_) (1 + W.pick rows 6) (1 + W.pick cols 9)) (1 + W.pick cols 9) (1 + W.pick rows 6))) 3)])⟩))], 355⟩
theorem LP_rtt (rows cols : Int) (l : List Int) (o n : Nat) (l2 : List Int) (p m rr cw : Nat) (X Y : Nat → Nat → Int) (ro co ro2 co2 : Int) (hi hi2 : Bool) (L : W.Rn) (nn : Nat) (rw en : Int) (i : Nat)
    (hr : -9223372036854775808 ≤ rows ∧ rows < 9223372036854775808)
    (hc : -9223372036854775808 ≤ cols ∧ cols < 9223372036854775808)
    (hl : o + n ≤ l.length)
    (hn : n ≤ 1048576)
    (hl2 : p + m ≤ l2.length)
    (hm : m ≤ 1048576)
    (h6 : W.pick rows 6 < 6)
    (h9 : W.pick cols 9 < 9)
    (hlb : ∀ j, -9223372036854775808 ≤ List.getD l j 0 ∧ List.getD l j 0 < 9223372036854775808)
    (hlb2 : ∀ j, -9223372036854775808 ≤ List.getD l2 j 0 ∧ List.getD l2 j 0 < 9223372036854775808)
    (hrr : 1 ≤ rr ∧ rr ≤ 6)
    (hcw : 1 ≤ cw ∧ cw ≤ 9)
    (hgd : W.okRuns X Y rr cw L)
    (hil : i ≤ L.length)
    (hLl : L.length ≤ 100000)
    (hnn : nn ≤ 9 * i)
    (hst : i < L.length → (1 ≤ W.rn L i ∧ W.rn L i ≤ 9 ∧ W.ra L i < 6 ∧ W.rb L i ≤ 9 ∧ -1 ≤ rw ∧ (rw < (W.ra L i : Int) ∨ (rw = (W.ra L i : Int) ∧ en < (W.rb L i : Int)))))
    (h0 : ((↑i : Int) < (↑(List.length L) : Int)))
    (h1 : ((↑(W.ra L i) : Int) = rw)) :
    CodeOk Try.prog 200 355 (kAt (kOf Try.prog Try.f3) [true, true, true, true, true, true, true, false, true, false, false]) (LPI l n l2 rr cw X Y ro co ro2 co2 hi hi2 L nn rw en i) .normal (LPI l n l2 rr cw (fun j_ p_ => X j_ p_) (fun j_ p_ => Y j_ p_) ro co ro2 co2 hi hi2 L (nn + W.rn L i) rw ((↑(W.rb L i + W.rn L i) : Int)) (i + 1)) :=
  CodeOk.of_runs (fuel := 3) (v := ⟨[9, 10, 11, 8, 12, 13, 14, 15], [1, 2, 67, 68, 83, 163, 164, 179, 243, 244, 259], [], 371⟩) (hs := [(4, ⟨.auto, some (.c (.bool (true)))⟩), (9, ⟨.ask, none⟩), (10, ⟨.ask, some (.agg [(.int .i64 (↑(W.ra L i))), (.int .i64 (↑(W.rb L i))), (.sl 244 i 0 (W.rn L i) 4)])⟩), (16, ⟨.auto, some (.c (.bool (false)))⟩), (21, ⟨.auto, some (.c (.bool (false)))⟩), (28, ⟨.auto, some (.c (.bool (true)))⟩), (32, ⟨.auto, some (.c (.bool (false)))⟩), (39, ⟨.auto, some (.c (.bool (false)))⟩), (46, ⟨.auto, some (.c (.int .i64 (↑(W.rb L i + W.rn L i))))⟩), (49, ⟨.sum ⟨[9, 10, 11, 12, 13, 14, 15, 16, 8, 17], [1, 2, 67, 68, 83, 163, 164, 179, 243, 244, 259, 531], [], 100016⟩ (.exit 2) (LQI l n l2 rr cw (fun j_ p_ => X j_ p_) (fun j_ p_ => Y j_ p_) ro co ro2 co2 hi hi2 L nn rw (↑(W.rb L i + W.rn L i) : Int) i (W.rn L i)), none⟩), (54, ⟨.auto, some (.c (.int .i64 (↑(nn + W.rn L i))))⟩), (57, ⟨.auto, some (.c (.int .i64 (↑(i + 1))))⟩)])
    (cs := [EI .i64 (IntKind.wrap IntKind.i64 ((↑i : Int) + 1)) ((↑(i + 1) : Int)),
      EI .i64 (IntKind.wrap IntKind.i64 ((↑nn : Int) + (↑(W.rn L i) : Int))) ((↑(nn + W.rn L i) : Int)),
      CodeOk Try.prog 200 1107 (kAt (kOf Try.prog Try.f3) [true, true, true, true, true, true, true, false, true, false, false, true, false, false, true, true, true, true, false, true, false]) (LQI l n l2 rr cw (fun j_ p_ => X j_ p_) (fun j_ p_ => Y j_ p_) ro co ro2 co2 hi hi2 L nn rw (↑(W.rb L i + W.rn L i) : Int) i 0) (.exit 2) (LQI l n l2 rr cw (fun j_ p_ => X j_ p_) (fun j_ p_ => Y j_ p_) ro co ro2 co2 hi hi2 L nn rw (↑(W.rb L i + W.rn L i) : Int) i (W.rn L i)),
      EI .i64 (IntKind.wrap IntKind.i64 ((↑(W.rb L i) : Int) + (↑(W.rn L i) : Int))) ((↑(W.rb L i + W.rn L i) : Int)),
      EB ((↑(W.ra L i) : Int) != rw) false,
      EB (decide ((↑(W.rb L i) : Int) ≤ en)) false,
      EB ((↑(W.ra L i) : Int) == rw) true,
      EB (decide ((↑(W.ra L i) : Int) < rw)) false,
      EB ((↑(W.rn L i) : Int) == 0) false,
      ((.agg ((List.range 3).map (fun j_ => recGet 3 (fun j_ => [(.int .i64 (↑(W.ra L j_))), (.int .i64 (↑(W.rb L j_))), (.sl 244 j_ 0 (W.rn L j_) 4)]) (i * 3 + j_)))) : V) = (.agg [(.int .i64 (↑(W.ra L i))), (.int .i64 (↑(W.rb L i))), (.sl 244 i 0 (W.rn L i) 4)]),
      (i * (3 : Nat) + (3 : Nat) ≤ List.length L * (3 : Nat)),
      ((0 : Int) ≤ (↑i : Int) ∧ (↑i : Int) < (↑(List.length L) : Int)),
      EB (decide ((↑i : Int) < (↑(List.length L) : Int))) true])
    mixed (by kernel_rfl) ⟨.mk (by simp only [addO_eq, mulE_eq, mulE_one, Int.toNat_natCast, IntKind.wrap_i64, mmin, mmax]; omega), .mk (by simp only [addO_eq, mulE_eq, mulE_one, Int.toNat_natCast, IntKind.wrap_i64, mmin, mmax]; omega), (CodeOk.mono (least_inner rows cols l o n l2 p m rr cw (fun j_ p_ => X j_ p_) (fun j_ p_ => Y j_ p_) ro co ro2 co2 hi hi2 L nn rw ((↑(W.rb L i + W.rn L i) : Int)) i (by omega) (by omega) (by omega) (by omega) (by omega) (by omega) (by omega) (by omega) (by omega) (by omega) (by omega) (by omega) (by omega) (by omega)) (by decide)), .mk (by simp only [addO_eq, mulE_eq, mulE_one, Int.toNat_natCast, IntKind.wrap_i64, mmin, mmax]; omega), .mk (bne_f (Decidable.of_not_not (by omega))), .mk (decide_eq_false (by omega)), .mk (beq_t h1), .mk (decide_eq_false (by omega)), .mk (beq_f (by omega)), EV.recs rfl, (by omega), (by omega), .mk (decide_eq_true h0), trivial⟩
theorem LP_rtf (rows cols : Int) (l : List Int) (o n : Nat) (l2 : List Int) (p m rr cw : Nat) (X Y : Nat → Nat → Int) (ro co ro2 co2 : Int) (hi hi2 : Bool) (L : W.Rn) (nn : Nat) (rw en : Int) (i : Nat)
    (hr : -9223372036854775808 ≤ rows ∧ rows < 9223372036854775808)
    (hc : -9223372036854775808 ≤ cols ∧ cols < 9223372036854775808)
    (hl : o + n ≤ l.length)
    (hn : n ≤ 1048576)
    (hl2 : p + m ≤ l2.length)
    (hm : m ≤ 1048576)
    (h6 : W.pick rows 6 < 6)
    (h9 : W.pick cols 9 < 9)
    (hlb : ∀ j, -9223372036854775808 ≤ List.getD l j 0 ∧ List.getD l j 0 < 9223372036854775808)
    (hlb2 : ∀ j, -9223372036854775808 ≤ List.getD l2 j 0 ∧ List.getD l2 j 0 < 9223372036854775808)
    (hrr : 1 ≤ rr ∧ rr ≤ 6)
    (hcw : 1 ≤ cw ∧ cw ≤ 9)
    (hgd : W.okRuns X Y rr cw L)
    (hil : i ≤ L.length)
    (hLl : L.length ≤ 100000)
    (hnn : nn ≤ 9 * i)
    (hst : i < L.length → (1 ≤ W.rn L i ∧ W.rn L i ≤ 9 ∧ W.ra L i < 6 ∧ W.rb L i ≤ 9 ∧ -1 ≤ rw ∧ (rw < (W.ra L i : Int) ∨ (rw = (W.ra L i : Int) ∧ en < (W.rb L i : Int)))))
    (h0 : ((↑i : Int) < (↑(List.length L) : Int)))
    (h1 : (¬(↑(W.ra L i) : Int) = rw)) :
    CodeOk Try.prog 200 355 (kAt (kOf Try.prog Try.f3) [true, true, true, true, true, true, true, false, true, false, false]) (LPI l n l2 rr cw X Y ro co ro2 co2 hi hi2 L nn rw en i) .normal (LPI l n l2 rr cw (fun j_ p_ => X j_ p_) (fun j_ p_ => Y j_ p_) ro co ro2 co2 hi hi2 L (nn + W.rn L i) ((↑(W.ra L i) : Int)) ((↑(W.rb L i + W.rn L i) : Int)) (i + 1)) :=
  CodeOk.of_runs (fuel := 3) (v := ⟨[9, 10, 11, 8, 12, 13, 14, 15], [1, 2, 67, 68, 83, 163, 164, 179, 243, 244, 259], [], 371⟩) (hs := [(4, ⟨.auto, some (.c (.bool (true)))⟩), (9, ⟨.ask, none⟩), (10, ⟨.ask, some (.agg [(.int .i64 (↑(W.ra L i))), (.int .i64 (↑(W.rb L i))), (.sl 244 i 0 (W.rn L i) 4)])⟩), (16, ⟨.auto, some (.c (.bool (false)))⟩), (21, ⟨.auto, some (.c (.bool (false)))⟩), (28, ⟨.auto, some (.c (.bool (false)))⟩), (39, ⟨.auto, some (.c (.bool (true)))⟩), (49, ⟨.auto, some (.c (.int .i64 (↑(W.rb L i + W.rn L i))))⟩), (52, ⟨.sum ⟨[9, 10, 11, 12, 13, 14, 15, 16, 8, 17], [1, 2, 67, 68, 83, 163, 164, 179, 243, 244, 259, 531], [], 100016⟩ (.exit 2) (LQI l n l2 rr cw (fun j_ p_ => X j_ p_) (fun j_ p_ => Y j_ p_) ro co ro2 co2 hi hi2 L nn (↑(W.ra L i) : Int) (↑(W.rb L i + W.rn L i) : Int) i (W.rn L i)), none⟩), (57, ⟨.auto, some (.c (.int .i64 (↑(nn + W.rn L i))))⟩), (60, ⟨.auto, some (.c (.int .i64 (↑(i + 1))))⟩)])
    (cs := [EI .i64 (IntKind.wrap IntKind.i64 ((↑i : Int) + 1)) ((↑(i + 1) : Int)),
      EI .i64 (IntKind.wrap IntKind.i64 ((↑nn : Int) + (↑(W.rn L i) : Int))) ((↑(nn + W.rn L i) : Int)),
      CodeOk Try.prog 200 1155 (kAt (kOf Try.prog Try.f3) [true, true, true, true, true, true, true, false, true, false, false, true, false, false, true, true, true, true, false, true, false]) (LQI l n l2 rr cw (fun j_ p_ => X j_ p_) (fun j_ p_ => Y j_ p_) ro co ro2 co2 hi hi2 L nn (↑(W.ra L i) : Int) (↑(W.rb L i + W.rn L i) : Int) i 0) (.exit 2) (LQI l n l2 rr cw (fun j_ p_ => X j_ p_) (fun j_ p_ => Y j_ p_) ro co ro2 co2 hi hi2 L nn (↑(W.ra L i) : Int) (↑(W.rb L i + W.rn L i) : Int) i (W.rn L i)),
      EI .i64 (IntKind.wrap IntKind.i64 ((↑(W.rb L i) : Int) + (↑(W.rn L i) : Int))) ((↑(W.rb L i + W.rn L i) : Int)),
      EB ((↑(W.ra L i) : Int) != rw) true,
      EB ((↑(W.ra L i) : Int) == rw) false,
      EB (decide ((↑(W.ra L i) : Int) < rw)) false,
      EB ((↑(W.rn L i) : Int) == 0) false,
      ((.agg ((List.range 3).map (fun j_ => recGet 3 (fun j_ => [(.int .i64 (↑(W.ra L j_))), (.int .i64 (↑(W.rb L j_))), (.sl 244 j_ 0 (W.rn L j_) 4)]) (i * 3 + j_)))) : V) = (.agg [(.int .i64 (↑(W.ra L i))), (.int .i64 (↑(W.rb L i))), (.sl 244 i 0 (W.rn L i) 4)]),
      (i * (3 : Nat) + (3 : Nat) ≤ List.length L * (3 : Nat)),
      ((0 : Int) ≤ (↑i : Int) ∧ (↑i : Int) < (↑(List.length L) : Int)),
      EB (decide ((↑i : Int) < (↑(List.length L) : Int))) true])
    mixed (by kernel_rfl) ⟨.mk (by simp only [addO_eq, mulE_eq, mulE_one, Int.toNat_natCast, IntKind.wrap_i64, mmin, mmax]; omega), .mk (by simp only [addO_eq, mulE_eq, mulE_one, Int.toNat_natCast, IntKind.wrap_i64, mmin, mmax]; omega), (CodeOk.mono (least_inner rows cols l o n l2 p m rr cw (fun j_ p_ => X j_ p_) (fun j_ p_ => Y j_ p_) ro co ro2 co2 hi hi2 L nn ((↑(W.ra L i) : Int)) ((↑(W.rb L i + W.rn L i) : Int)) i (by omega) (by omega) (by omega) (by omega) (by omega) (by omega) (by omega) (by omega) (by omega) (by omega) (by omega) (by omega) (by omega) (by omega)) (by decide)), .mk (by simp only [addO_eq, mulE_eq, mulE_one, Int.toNat_natCast, IntKind.wrap_i64, mmin, mmax]; omega), .mk (bne_t (by omega)), .mk (beq_f h1), .mk (decide_eq_false (by omega)), .mk (beq_f (by omega)), EV.recs rfl, (by omega), (by omega), .mk (decide_eq_true h0), trivial⟩
theorem LP_xf (rows cols : Int) (l : List Int) (o n : Nat) (l2 : List Int) (p m rr cw : Nat) (X Y : Nat → Nat → Int) (ro co ro2 co2 : Int) (hi hi2 : Bool) (L : W.Rn) (nn : Nat) (rw en : Int) (i : Nat)
    (hr : -9223372036854775808 ≤ rows ∧ rows < 9223372036854775808)
    (hc : -9223372036854775808 ≤ cols ∧ cols < 9223372036854775808)
    (hl : o + n ≤ l.length)
    (hn : n ≤ 1048576)
    (hl2 : p + m ≤ l2.length)
    (hm : m ≤ 1048576)
    (h6 : W.pick rows 6 < 6)
    (h9 : W.pick cols 9 < 9)
    (hlb : ∀ j, -9223372036854775808 ≤ List.getD l j 0 ∧ List.getD l j 0 < 9223372036854775808)
    (hlb2 : ∀ j, -9223372036854775808 ≤ List.getD l2 j 0 ∧ List.getD l2 j 0 < 9223372036854775808)
    (hrr : 1 ≤ rr ∧ rr ≤ 6)
    (hcw : 1 ≤ cw ∧ cw ≤ 9)
    (hgd : W.okRuns X Y rr cw L)
    (hil : i ≤ L.length)
    (hLl : L.length ≤ 100000)
    (hnn : nn ≤ 9 * i)
    (hst : i < L.length → (1 ≤ W.rn L i ∧ W.rn L i ≤ 9 ∧ W.ra L i < 6 ∧ W.rb L i ≤ 9 ∧ -1 ≤ rw ∧ (rw < (W.ra L i : Int) ∨ (rw = (W.ra L i : Int) ∧ en < (W.rb L i : Int)))))
    (h0 : (¬(↑i : Int) < (↑(List.length L) : Int))) :
    CodeOk Try.prog 200 355 (kAt (kOf Try.prog Try.f3) [true, true, true, true, true, true, true, false, true, false, false]) (LPI l n l2 rr cw X Y ro co ro2 co2 hi hi2 L nn rw en i) (.exit 0) (LPI l n l2 rr cw (fun j_ p_ => X j_ p_) (fun j_ p_ => Y j_ p_) ro co ro2 co2 hi hi2 L nn rw en i) :=
  CodeOk.of_runs (fuel := 3) (v := ⟨[9, 10, 11, 8, 12, 13, 14, 15], [1, 2, 67, 68, 83, 163, 164, 179, 243, 244, 259], [], 371⟩) (hs := [(4, ⟨.auto, some (.c (.bool (false)))⟩)])
    (cs := [EB (decide ((↑i : Int) < (↑(List.length L) : Int))) false])
    mixed (by kernel_rfl) ⟨.mk (decide_eq_false h0), trivial⟩
end Go.Proofs.Ytohleiikedpmkaa.Vm

namespace Go.Proofs.Ytohleiikedpmkaa.W
open Go Go.Proofs.Ytohleiikedpmkaa.Vm
def rwS (L : Rn) : Nat → Int
  | 0 => -1
  | i + 1 => (ra L i : Int)
def enS (L : Rn) : Nat → Int
  | 0 => 0
  | i + 1 => ((rb L i + rn L i : Nat) : Int)
theorem cR_le (Y X : Nat → Nat → Int) (j : Nat) : ∀ k, cR Y X j k ≤ k
  | 0 => Nat.le_refl _
  | k + 1 => by
    have := cR_le Y X j k
    show (bif eqc Y X j k then cR Y X j k else cR Y X j k + 1) ≤ _
    cases eqc Y X j k <;> simp only [cond_true, cond_false] <;> omega
theorem cA_le (Y X : Nat → Nat → Int) (cw : Nat) : ∀ i, cA Y X cw i ≤ cw * i
  | 0 => Nat.le_refl _
  | i + 1 => by
    have h1 := cA_le Y X cw i
    have h2 := cR_le Y X i cw
    show cA Y X cw i + cR Y X i cw ≤ cw * (i + 1)
    rw [Nat.mul_succ]; omega
theorem sN_ge {X Y : Nat → Nat → Int} {rr cw : Nat} {L : Rn} (h : okRuns X Y rr cw L) : ∀ k, k ≤ L.length → k ≤ sN L k ∧ sN L k ≤ cw * k
  | 0, _ => ⟨Nat.le_refl _, Nat.le_refl _⟩
  | k + 1, hk => by
    obtain ⟨h1, _, h2, _⟩ := h k (by omega)
    have := sN_ge h k (by omega)
    show k + 1 ≤ sN L k + rn L k ∧ sN L k + rn L k ≤ _
    rw [Nat.mul_succ]
    omega
theorem runs_len (X Y : Nat → Nat → Int) (rr cw : Nat) : (runs Y X cw rr).length ≤ cw * rr := by
  have h1 := (sN_ge (runs_ok X Y rr cw) _ (Nat.le_refl _)).1
  have h2 := runs_sum X Y rr cw
  have h3 := cA_le Y X cw rr
  omega
end Go.Proofs.Ytohleiikedpmkaa.W
namespace Go.Proofs.Ytohleiikedpmkaa.Vm
open Go Go.Proofs Go.Proofs.Ytohleiikedpmkaa
theorem least_runs (rows cols : Int) (l : List Int) (o n : Nat) (l2 : List Int) (p m : Nat)
    (hr : -9223372036854775808 ≤ rows ∧ rows < 9223372036854775808) (hc : -9223372036854775808 ≤ cols ∧ cols < 9223372036854775808) (hl : o + n ≤ l.length) (hn : n ≤ 1048576) (hl2 : p + m ≤ l2.length) (hm : m ≤ 1048576) (h6 : W.pick rows 6 < 6) (h9 : W.pick cols 9 < 9)
    (hlb : ∀ j, -9223372036854775808 ≤ List.getD l j 0 ∧ List.getD l j 0 < 9223372036854775808) (hlb2 : ∀ j, -9223372036854775808 ≤ List.getD l2 j 0 ∧ List.getD l2 j 0 < 9223372036854775808)
    (rr cw : Nat) (X Y : Nat → Nat → Int) (L : W.Rn) (hR : rr = 1 + W.pick rows 6) (hC : cw = 1 + W.pick cols 9)
    (hX : X = fun j_ p_ => W.sX (1 + W.pick rows 6) (1 + W.pick cols 9) l o (min n 60) j_ p_) (hY : Y = fun j_ p_ => W.sX (1 + W.pick rows 6) (1 + W.pick cols 9) l2 p (min m 60) j_ p_)
    (hL : L = W.runs Y (W.frX rr cw X rr cw) cw rr) :
    CodeOk Try.prog 200 355 (kAt (kOf Try.prog Try.f3) [true, true, true, true, true, true, true, false, true, false]) (LP0 rows cols l o n l2 p m) (.exit 0)
      (LPI l n l2 rr cw X Y (W.sRo (1 + W.pick rows 6) l o (min n 60)) (W.sCo (1 + W.pick cols 9) l o (min n 60)) (W.sRo (1 + W.pick rows 6) l2 p (min m 60)) (W.sCo (1 + W.pick cols 9) l2 p (min m 60)) (W.sHi l o (min n 60)) (W.sHi l2 p (min m 60)) L (W.sN L L.length) (W.rwS L L.length) (W.enS L L.length) L.length) := by
  have hgd : W.okRuns X Y rr cw L := by rw [hL, W.frX_same]; exact W.runs_ok X Y rr cw
  have hrr : 1 ≤ rr ∧ rr ≤ 6 := by omega
  have hcw : 1 ≤ cw ∧ cw ≤ 9 := by omega
  have hll : L.length ≤ cw * rr := by rw [hL, W.frX_same]; exact W.runs_len X Y rr cw
  have hll2 : cw * rr ≤ 9 * 6 := Nat.mul_le_mul hcw.2 hrr.2
  have hLl : L.length ≤ 100000 := by omega
  have h : CodeOk Try.prog 200 355 (kAt (kOf Try.prog Try.f3) [true, true, true, true, true, true, true, false, true, false]) (LPI l n l2 rr cw X Y (W.sRo (1 + W.pick rows 6) l o (min n 60)) (W.sCo (1 + W.pick cols 9) l o (min n 60)) (W.sRo (1 + W.pick rows 6) l2 p (min m 60)) (W.sCo (1 + W.pick cols 9) l2 p (min m 60)) (W.sHi l o (min n 60)) (W.sHi l2 p (min m 60)) L (W.sN L 0) (W.rwS L 0) (W.enS L 0) 0) (.exit 0)
      (LPI l n l2 rr cw X Y (W.sRo (1 + W.pick rows 6) l o (min n 60)) (W.sCo (1 + W.pick cols 9) l o (min n 60)) (W.sRo (1 + W.pick rows 6) l2 p (min m 60)) (W.sCo (1 + W.pick cols 9) l2 p (min m 60)) (W.sHi l o (min n 60)) (W.sHi l2 p (min m 60)) L (W.sN L L.length) (W.rwS L L.length) (W.enS L L.length) L.length) := by
    refine LP_by (fun i => LPI l n l2 rr cw X Y (W.sRo (1 + W.pick rows 6) l o (min n 60)) (W.sCo (1 + W.pick cols 9) l o (min n 60)) (W.sRo (1 + W.pick rows 6) l2 p (min m 60)) (W.sCo (1 + W.pick cols 9) l2 p (min m 60)) (W.sHi l o (min n 60)) (W.sHi l2 p (min m 60)) L (W.sN L i) (W.rwS L i) (W.enS L i) i) (fun i => i ≤ L.length) (fun i => L.length - i) (by simp) ?_ 0 (Nat.zero_le _)
    intro i hi
    have hnn : W.sN L i ≤ 9 * i := Nat.le_trans (W.sN_ge hgd i hi).2 (Nat.mul_le_mul hcw.2 (Nat.le_refl i))
    have hst : i < L.length → (1 ≤ W.rn L i ∧ W.rn L i ≤ 9 ∧ W.ra L i < 6 ∧ W.rb L i ≤ 9 ∧ -1 ≤ W.rwS L i ∧ (W.rwS L i < (W.ra L i : Int) ∨ (W.rwS L i = (W.ra L i : Int) ∧ W.enS L i < (W.rb L i : Int)))) := by
      intro hlt
      obtain ⟨g1, g2, g3, _, g5⟩ := hgd i hlt
      refine ⟨g1, by omega, by omega, by omega, ?_⟩
      rcases i with _ | i
      · show -1 ≤ (-1 : Int) ∧ ((-1 : Int) < _ ∨ _)
        omega
      · have g := g5 i rfl
        show -1 ≤ (W.ra L i : Int) ∧ ((W.ra L i : Int) < _ ∨ ((W.ra L i : Int) = _ ∧ ((W.rb L i + W.rn L i : Nat) : Int) < _))
        omega
    by_cases h0 : (i : Int) < (L.length : Int)
    · refine .inl ⟨i + 1, by omega, by omega, ?_⟩
      by_cases h1 : (W.ra L i : Int) = W.rwS L i
      · have := LP_rtt rows cols l o n l2 p m rr cw X Y (W.sRo (1 + W.pick rows 6) l o (min n 60)) (W.sCo (1 + W.pick cols 9) l o (min n 60)) (W.sRo (1 + W.pick rows 6) l2 p (min m 60)) (W.sCo (1 + W.pick cols 9) l2 p (min m 60)) (W.sHi l o (min n 60)) (W.sHi l2 p (min m 60)) L (W.sN L i) (W.rwS L i) (W.enS L i) i hr hc hl hn hl2 hm h6 h9 hlb hlb2 hrr hcw hgd hi hLl hnn hst h0 h1
        rw [← h1] at this
        rw [← h1]
        exact this
      · exact LP_rtf rows cols l o n l2 p m rr cw X Y (W.sRo (1 + W.pick rows 6) l o (min n 60)) (W.sCo (1 + W.pick cols 9) l o (min n 60)) (W.sRo (1 + W.pick rows 6) l2 p (min m 60)) (W.sCo (1 + W.pick cols 9) l2 p (min m 60)) (W.sHi l o (min n 60)) (W.sHi l2 p (min m 60)) L (W.sN L i) (W.rwS L i) (W.enS L i) i hr hc hl hn hl2 hm h6 h9 hlb hlb2 hrr hcw hgd hi hLl hnn hst h0 h1
    · have e : i = L.length := by omega
      subst e
      exact .inr (LP_xf rows cols l o n l2 p m rr cw X Y (W.sRo (1 + W.pick rows 6) l o (min n 60)) (W.sCo (1 + W.pick cols 9) l o (min n 60)) (W.sRo (1 + W.pick rows 6) l2 p (min m 60)) (W.sCo (1 + W.pick cols 9) l2 p (min m 60)) (W.sHi l o (min n 60)) (W.sHi l2 p (min m 60)) L (W.sN L L.length) (W.rwS L L.length) (W.enS L L.length) L.length hr hc hl hn hl2 hm h6 h9 hlb hlb2 hrr hcw hgd hi hLl hnn hst h0)
  subst hR; subst hC; subst hX; subst hY; subst hL
  refine CodeOk.enter (Move.same (by decide) (by decide) (by decide) rfl ?_) h
  exact ⟨SameB.refl rfl, SameB.refl rfl, SameB.refl rfl, fun j k e => SameB.refl e, SameB.refl rfl, SameB.refl rfl, fun j k e => SameB.refl e, SameB.refl rfl, SameB.refl rfl, fun j k e => SameB.refl e, SameB.refl rfl, trivial⟩
end Go.Proofs.Ytohleiikedpmkaa.Vm

namespace Go.Proofs.Ytohleiikedpmkaa.Vm
open Go Go.Proofs Go.Proofs.Ytohleiikedpmkaa
theorem least_runs2 (rows cols : Int) (l : List Int) (o n : Nat) (l2 : List Int) (p m : Nat)
    (hr : -9223372036854775808 ≤ rows ∧ rows < 9223372036854775808) (hc : -9223372036854775808 ≤ cols ∧ cols < 9223372036854775808) (hl : o + n ≤ l.length) (hn : n ≤ 1048576) (hl2 : p + m ≤ l2.length) (hm : m ≤ 1048576) (h6 : W.pick rows 6 < 6) (h9 : W.pick cols 9 < 9)
    (hlb : ∀ j, -9223372036854775808 ≤ List.getD l j 0 ∧ List.getD l j 0 < 9223372036854775808) (hlb2 : ∀ j, -9223372036854775808 ≤ List.getD l2 j 0 ∧ List.getD l2 j 0 < 9223372036854775808) :
    CodeOk Try.prog 200 355 (kAt (kOf Try.prog Try.f3) [true, true, true, true, true, true, true, false, true, false]) (LP0 rows cols l o n l2 p m) (.exit 0) (LPI l n l2 (1 + W.pick rows 6) (1 + W.pick cols 9) (fun j_ p_ => W.sX (1 + W.pick rows 6) (1 + W.pick cols 9) l o (min n 60) j_ p_) (fun j_ p_ => W.sX (1 + W.pick rows 6) (1 + W.pick cols 9) l2 p (min m 60) j_ p_) (W.sRo (1 + W.pick rows 6) l o (min n 60)) (W.sCo (1 + W.pick cols 9) l o (min n 60)) (W.sRo (1 + W.pick rows 6) l2 p (min m 60)) (W.sCo (1 + W.pick cols 9) l2 p (min m 60)) (W.sHi l o (min n 60)) (W.sHi l2 p (min m 60)) (W.runs (fun j_ p_ => W.sX (1 + W.pick rows 6) (1 + W.pick cols 9) l2 p (min m 60) j_ p_) (W.frX (1 + W.pick rows 6) (1 + W.pick cols 9) (fun j_ p_ => W.sX (1 + W.pick rows 6) (1 + W.pick cols 9) l o (min n 60) j_ p_) (1 + W.pick rows 6) (1 + W.pick cols 9)) (1 + W.pick cols 9) (1 + W.pick rows 6)) (W.sN (W.runs (fun j_ p_ => W.sX (1 + W.pick rows 6) (1 + W.pick cols 9) l2 p (min m 60) j_ p_) (W.frX (1 + W.pick rows 6) (1 + W.pick cols 9) (fun j_ p_ => W.sX (1 + W.pick rows 6) (1 + W.pick cols 9) l o (min n 60) j_ p_) (1 + W.pick rows 6) (1 + W.pick cols 9)) (1 + W.pick cols 9) (1 + W.pick rows 6)) (List.length (W.runs (fun j_ p_ => W.sX (1 + W.pick rows 6) (1 + W.pick cols 9) l2 p (min m 60) j_ p_) (W.frX (1 + W.pick rows 6) (1 + W.pick cols 9) (fun j_ p_ => W.sX (1 + W.pick rows 6) (1 + W.pick cols 9) l o (min n 60) j_ p_) (1 + W.pick rows 6) (1 + W.pick cols 9)) (1 + W.pick cols 9) (1 + W.pick rows 6)))) (W.rwS (W.runs (fun j_ p_ => W.sX (1 + W.pick rows 6) (1 + W.pick cols 9) l2 p (min m 60) j_ p_) (W.frX (1 + W.pick rows 6) (1 + W.pick cols 9) (fun j_ p_ => W.sX (1 + W.pick rows 6) (1 + W.pick cols 9) l o (min n 60) j_ p_) (1 + W.pick rows 6) (1 + W.pick cols 9)) (1 + W.pick cols 9) (1 + W.pick rows 6)) (List.length (W.runs (fun j_ p_ => W.sX (1 + W.pick rows 6) (1 + W.pick cols 9) l2 p (min m 60) j_ p_) (W.frX (1 + W.pick rows 6) (1 + W.pick cols 9) (fun j_ p_ => W.sX (1 + W.pick rows 6) (1 + W.pick cols 9) l o (min n 60) j_ p_) (1 + W.pick rows 6) (1 + W.pick cols 9)) (1 + W.pick cols 9) (1 + W.pick rows 6)))) (W.enS (W.runs (fun j_ p_ => W.sX (1 + W.pick rows 6) (1 + W.pick cols 9) l2 p (min m 60) j_ p_) (W.frX (1 + W.pick rows 6) (1 + W.pick cols 9) (fun j_ p_ => W.sX (1 + W.pick rows 6) (1 + W.pick cols 9) l o (min n 60) j_ p_) (1 + W.pick rows 6) (1 + W.pick cols 9)) (1 + W.pick cols 9) (1 + W.pick rows 6)) (List.length (W.runs (fun j_ p_ => W.sX (1 + W.pick rows 6) (1 + W.pick cols 9) l2 p (min m 60) j_ p_) (W.frX (1 + W.pick rows 6) (1 + W.pick cols 9) (fun j_ p_ => W.sX (1 + W.pick rows 6) (1 + W.pick cols 9) l o (min n 60) j_ p_) (1 + W.pick rows 6) (1 + W.pick cols 9)) (1 + W.pick cols 9) (1 + W.pick rows 6)))) (List.length (W.runs (fun j_ p_ => W.sX (1 + W.pick rows 6) (1 + W.pick cols 9) l2 p (min m 60) j_ p_) (W.frX (1 + W.pick rows 6) (1 + W.pick cols 9) (fun j_ p_ => W.sX (1 + W.pick rows 6) (1 + W.pick cols 9) l o (min n 60) j_ p_) (1 + W.pick rows 6) (1 + W.pick cols 9)) (1 + W.pick cols 9) (1 + W.pick rows 6)))) :=
  least_runs rows cols l o n l2 p m hr hc hl hn hl2 hm h6 h9 hlb hlb2 _ _ _ _ _ rfl rfl rfl rfl rfl
end Go.Proofs.Ytohleiikedpmkaa.Vm
