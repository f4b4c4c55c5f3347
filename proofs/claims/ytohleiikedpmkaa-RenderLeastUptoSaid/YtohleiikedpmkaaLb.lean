/- What functions of the program come to: parts of the walk (Lb). -/
import Derived.Test.YtohleiikedpmkaaLa
import Derived.KernelRfl
import Derived.Test.YtohleiikedpmkaaProg
import Derived.Test.YtohleiikedpmkaaVmc
set_option linter.unusedSimpArgs false
set_option linter.unusedVariables false
namespace Go.Proofs.Ytohleiikedpmkaa.Vm
open Go Go.Proofs Go.Proofs.Ytohleiikedpmkaa
set_option maxRecDepth 100000
noncomputable def LMaI (l : List Int) (n : Nat) (l2 : List Int) (rr cw : Nat) (X Y : Nat → Nat → Int) (ro co ro2 co2 : Int) (hi hi2 : Bool) (nn dd i k : Nat) : S0 :=
  ⟨[(9, (.c (.ptr 83 0 0))), (10, (.c (.ptr 179 0 0))), (8, (.c (.bool (false)))), (12, (.c (.int .i64 (nn : Int)))), (19, (.c (.int .i64 (i : Int)))), (18, (.c (.int .i64 (dd : Int)))), (20, (.c (.int .i64 (k : Int))))], [(1, (.one ⟨false, false, (.ints .i64 l)⟩)), (2, (.one ⟨false, false, (.ints .i64 l2)⟩)), (67, (.one ⟨true, false, .gen rr (fun j_ => .sl 68 j_ 0 cw 4)⟩)), (68, (.many (fun j_ => some ⟨true, true, .ig (W.rl rr (cw * 4) j_) W.ck (X j_)⟩))), (83, (.one ⟨true, true, .cells [.int .i64 (rr : Int), .int .i64 (cw : Int), .sl 67 0 0 rr 1, .int .i64 ro, .int .i64 co, .bool hi]⟩)), (163, (.one ⟨true, false, .gen rr (fun j_ => .sl 164 j_ 0 cw 4)⟩)), (164, (.many (fun j_ => some ⟨true, true, .ig (W.rl rr (cw * 4) j_) W.ck (Y j_)⟩))), (179, (.one ⟨true, true, .cells [.int .i64 (rr : Int), .int .i64 (cw : Int), .sl 163 0 0 rr 1, .int .i64 ro2, .int .i64 co2, .bool hi2]⟩))], 100016⟩
theorem LMa_by {α : Type} (I : α → S0) (Inv : α → Prop) (μ : α → Nat) {ex : Ex} {s' : S0} (hex : ex ≠ .normal)
    (step : ∀ x, Inv x → (∃ y, Inv y ∧ μ y < μ x ∧ CodeOk Try.prog 200 100000 (kAt (kOf Try.prog Try.f3) [true, true, true, true, true, true, true, true, true, false, true, false, false, true, false, false, true, false, false]) (I x) .normal (I y)) ∨ CodeOk Try.prog 200 100000 (kAt (kOf Try.prog Try.f3) [true, true, true, true, true, true, true, true, true, false, true, false, false, true, false, false, true, false, false]) (I x) ex s') (x : α) (hx : Inv x) :
    CodeOk Try.prog 200 100000 (kAt (kOf Try.prog Try.f3) [true, true, true, true, true, true, true, true, true, false, true, false, false, true, false, false, true, false]) (I x) ex s' := by
  have hk : (kAt (kOf Try.prog Try.f3) [true, true, true, true, true, true, true, true, true, false, true, false, false, true, false, false, true, false]) = .loop (kAt (kOf Try.prog Try.f3) [true, true, true, true, true, true, true, true, true, false, true, false, false, true, false, false, true, false, false]) := by kernel_rfl
  rw [hk]
  exact CodeOk.loop I Inv μ hex step x hx
theorem LMa_rtt (rows cols : Int) (l : List Int) (o n : Nat) (l2 : List Int) (p m rr cw : Nat) (X Y : Nat → Nat → Int) (ro co ro2 co2 : Int) (hi hi2 : Bool) (nn dd i k : Nat)
    (hr : -9223372036854775808 ≤ rows ∧ rows < 9223372036854775808)
    (hc : -9223372036854775808 ≤ cols ∧ cols < 9223372036854775808)
    (hl : o + n ≤ l.length)
    (hn : n ≤ 1048576)
    (hl2 : p + m ≤ l2.length)
    (hm : m ≤ 1048576)
    (h6 : W.pick rows 6 < 6)
    (h9 : W.pick cols 9 < 9)
    (hlb : ∀ j, -9223372036854775808 ≤ List.getD l j 0 ∧ List.getD l j 0 < 9223372036854775808)
    (hlb2 : ∀ j, -9223372036854775808 ≤ List.getD l2 j 0 ∧ List.getD l2 j 0 < 9223372036854775808)
    (hrr : 1 ≤ rr ∧ rr ≤ 6)
    (hcw : 1 ≤ cw ∧ cw ≤ 9)
    (hil : i < rr)
    (hkl : k ≤ cw)
    (hdd : dd ≤ 1000)
    (h0 : ((↑k : Int) < (↑cw : Int)))
    (h1 : ((X i (k * (4 : Nat)) == Y i (k * (4 : Nat)) && (X i (k * (4 : Nat) + (1 : Nat)) == Y i (k * (4 : Nat) + (1 : Nat)) && (X i (k * (4 : Nat) + (2 : Nat)) == Y i (k * (4 : Nat) + (2 : Nat)) && (X i (k * (4 : Nat) + (3 : Nat)) == Y i (k * (4 : Nat) + (3 : Nat)) && true)))) = true)) :
    CodeOk Try.prog 200 100000 (kAt (kOf Try.prog Try.f3) [true, true, true, true, true, true, true, true, true, false, true, false, false, true, false, false, true, false, false]) (LMaI l n l2 rr cw X Y ro co ro2 co2 hi hi2 nn dd i k) .normal (LMaI l n l2 rr cw (fun j_ p_ => X j_ p_) (fun j_ p_ => Y j_ p_) ro co ro2 co2 hi hi2 nn dd i (k + 1)) :=
  CodeOk.of_runs (fuel := 3) (v := ⟨[9, 10, 8, 12, 19, 18, 20], [1, 2, 67, 68, 83, 163, 164, 179], [], 100016⟩) (hs := [(3, ⟨.auto, some (.c (.bool (true)))⟩), (8, ⟨.ask, none⟩), (9, ⟨.ask, none⟩), (11, ⟨.ask, none⟩), (12, ⟨.ask, some (.agg [(.int .i32 (X i (k * 4))), (.int .i64 (X i (k * 4 + 1))), (.int .i64 (X i (k * 4 + 2))), (.int .i64 (X i (k * 4 + 3)))])⟩), (16, ⟨.ask, none⟩), (17, ⟨.ask, none⟩), (19, ⟨.ask, none⟩), (20, ⟨.ask, some (.agg [(.int .i32 (Y i (k * 4))), (.int .i64 (Y i (k * 4 + 1))), (.int .i64 (Y i (k * 4 + 2))), (.int .i64 (Y i (k * 4 + 3)))])⟩), (21, ⟨.auto, some (.c (.bool (false)))⟩), (24, ⟨.auto, some (.c (.int .i64 (↑(k + 1))))⟩)])
    (cs := [EI .i64 (IntKind.wrap IntKind.i64 ((↑k : Int) + 1)) ((↑(k + 1) : Int)),
      EB (!(X i (k * 4) == Y i (k * 4) && (X i (k * 4 + 1) == Y i (k * 4 + 1) && (X i (k * 4 + 2) == Y i (k * 4 + 2) && (X i (k * 4 + 3) == Y i (k * 4 + 3) && true))))) false,
      ((.agg ((List.range 4).map (fun p_ => .int (W.ck (p_ + k * 4)) (Y i (p_ + k * 4))))) : V) = (.agg [(.int .i32 (Y i (k * 4))), (.int .i64 (Y i (k * 4 + 1))), (.int .i64 (Y i (k * 4 + 2))), (.int .i64 (Y i (k * 4 + 3)))]),
      (k * (4 : Nat) + (4 : Nat) ≤ W.rl rr (cw * (4 : Nat)) i),
      ((0 : Int) ≤ (↑k : Int) ∧ (↑k : Int) < (↑cw : Int)),
      (i + (1 : Nat) ≤ rr),
      ((0 : Int) ≤ (↑i : Int) ∧ (↑i : Int) < (↑rr : Int)),
      ((.agg ((List.range 4).map (fun p_ => .int (W.ck (p_ + k * 4)) (X i (p_ + k * 4))))) : V) = (.agg [(.int .i32 (X i (k * 4))), (.int .i64 (X i (k * 4 + 1))), (.int .i64 (X i (k * 4 + 2))), (.int .i64 (X i (k * 4 + 3)))]),
      (k * (4 : Nat) + (4 : Nat) ≤ W.rl rr (cw * (4 : Nat)) i),
      ((0 : Int) ≤ (↑k : Int) ∧ (↑k : Int) < (↑cw : Int)),
      (i + (1 : Nat) ≤ rr),
      ((0 : Int) ≤ (↑i : Int) ∧ (↑i : Int) < (↑rr : Int)),
      EB (decide ((↑k : Int) < (↑cw : Int))) true])
    mixed (by kernel_rfl) ⟨.mk (by simp only [addO_eq, mulE_eq, mulE_one, Int.toNat_natCast, IntKind.wrap_i64, mmin, mmax]; omega), .mk (not_f h1), EV.ck4 (g := (fun p_ => (Y i p_))) (o := (k * 4)) (by omega) (by omega), (by rw [rl_lt (by omega)]; omega), (by omega), (by omega), (by omega), EV.ck4 (g := (fun p_ => (X i p_))) (o := (k * 4)) (by omega) (by omega), (by rw [rl_lt (by omega)]; omega), (by omega), (by omega), (by omega), .mk (decide_eq_true h0), trivial⟩
theorem LMa_rtf (rows cols : Int) (l : List Int) (o n : Nat) (l2 : List Int) (p m rr cw : Nat) (X Y : Nat → Nat → Int) (ro co ro2 co2 : Int) (hi hi2 : Bool) (nn dd i k : Nat)
    (hr : -9223372036854775808 ≤ rows ∧ rows < 9223372036854775808)
    (hc : -9223372036854775808 ≤ cols ∧ cols < 9223372036854775808)
    (hl : o + n ≤ l.length)
    (hn : n ≤ 1048576)
    (hl2 : p + m ≤ l2.length)
    (hm : m ≤ 1048576)
    (h6 : W.pick rows 6 < 6)
    (h9 : W.pick cols 9 < 9)
    (hlb : ∀ j, -9223372036854775808 ≤ List.getD l j 0 ∧ List.getD l j 0 < 9223372036854775808)
    (hlb2 : ∀ j, -9223372036854775808 ≤ List.getD l2 j 0 ∧ List.getD l2 j 0 < 9223372036854775808)
    (hrr : 1 ≤ rr ∧ rr ≤ 6)
    (hcw : 1 ≤ cw ∧ cw ≤ 9)
    (hil : i < rr)
    (hkl : k ≤ cw)
    (hdd : dd ≤ 1000)
    (h0 : ((↑k : Int) < (↑cw : Int)))
    (h1 : (¬(X i (k * (4 : Nat)) == Y i (k * (4 : Nat)) && (X i (k * (4 : Nat) + (1 : Nat)) == Y i (k * (4 : Nat) + (1 : Nat)) && (X i (k * (4 : Nat) + (2 : Nat)) == Y i (k * (4 : Nat) + (2 : Nat)) && (X i (k * (4 : Nat) + (3 : Nat)) == Y i (k * (4 : Nat) + (3 : Nat)) && true)))) = true)) :
    CodeOk Try.prog 200 100000 (kAt (kOf Try.prog Try.f3) [true, true, true, true, true, true, true, true, true, false, true, false, false, true, false, false, true, false, false]) (LMaI l n l2 rr cw X Y ro co ro2 co2 hi hi2 nn dd i k) .normal (LMaI l n l2 rr cw (fun j_ p_ => X j_ p_) (fun j_ p_ => Y j_ p_) ro co ro2 co2 hi hi2 nn (dd + 1) i (k + 1)) :=
  CodeOk.of_runs (fuel := 3) (v := ⟨[9, 10, 8, 12, 19, 18, 20], [1, 2, 67, 68, 83, 163, 164, 179], [], 100016⟩) (hs := [(3, ⟨.auto, some (.c (.bool (true)))⟩), (8, ⟨.ask, none⟩), (9, ⟨.ask, none⟩), (11, ⟨.ask, none⟩), (12, ⟨.ask, some (.agg [(.int .i32 (X i (k * 4))), (.int .i64 (X i (k * 4 + 1))), (.int .i64 (X i (k * 4 + 2))), (.int .i64 (X i (k * 4 + 3)))])⟩), (16, ⟨.ask, none⟩), (17, ⟨.ask, none⟩), (19, ⟨.ask, none⟩), (20, ⟨.ask, some (.agg [(.int .i32 (Y i (k * 4))), (.int .i64 (Y i (k * 4 + 1))), (.int .i64 (Y i (k * 4 + 2))), (.int .i64 (Y i (k * 4 + 3)))])⟩), (21, ⟨.auto, some (.c (.bool (true)))⟩), (24, ⟨.auto, some (.c (.int .i64 (↑(dd + 1))))⟩), (27, ⟨.auto, some (.c (.int .i64 (↑(k + 1))))⟩)])
    (cs := [EI .i64 (IntKind.wrap IntKind.i64 ((↑k : Int) + 1)) ((↑(k + 1) : Int)),
      EI .i64 (IntKind.wrap IntKind.i64 ((↑dd : Int) + 1)) ((↑(dd + 1) : Int)),
      EB (!(X i (k * 4) == Y i (k * 4) && (X i (k * 4 + 1) == Y i (k * 4 + 1) && (X i (k * 4 + 2) == Y i (k * 4 + 2) && (X i (k * 4 + 3) == Y i (k * 4 + 3) && true))))) true,
      ((.agg ((List.range 4).map (fun p_ => .int (W.ck (p_ + k * 4)) (Y i (p_ + k * 4))))) : V) = (.agg [(.int .i32 (Y i (k * 4))), (.int .i64 (Y i (k * 4 + 1))), (.int .i64 (Y i (k * 4 + 2))), (.int .i64 (Y i (k * 4 + 3)))]),
      (k * (4 : Nat) + (4 : Nat) ≤ W.rl rr (cw * (4 : Nat)) i),
      ((0 : Int) ≤ (↑k : Int) ∧ (↑k : Int) < (↑cw : Int)),
      (i + (1 : Nat) ≤ rr),
      ((0 : Int) ≤ (↑i : Int) ∧ (↑i : Int) < (↑rr : Int)),
      ((.agg ((List.range 4).map (fun p_ => .int (W.ck (p_ + k * 4)) (X i (p_ + k * 4))))) : V) = (.agg [(.int .i32 (X i (k * 4))), (.int .i64 (X i (k * 4 + 1))), (.int .i64 (X i (k * 4 + 2))), (.int .i64 (X i (k * 4 + 3)))]),
      (k * (4 : Nat) + (4 : Nat) ≤ W.rl rr (cw * (4 : Nat)) i),
      ((0 : Int) ≤ (↑k : Int) ∧ (↑k : Int) < (↑cw : Int)),
      (i + (1 : Nat) ≤ rr),
      ((0 : Int) ≤ (↑i : Int) ∧ (↑i : Int) < (↑rr : Int)),
      EB (decide ((↑k : Int) < (↑cw : Int))) true])
    mixed (by kernel_rfl) ⟨.mk (by simp only [addO_eq, mulE_eq, mulE_one, Int.toNat_natCast, IntKind.wrap_i64, mmin, mmax]; omega), .mk (by simp only [addO_eq, mulE_eq, mulE_one, Int.toNat_natCast, IntKind.wrap_i64, mmin, mmax]; omega), .mk (not_t (Bool.eq_false_iff.2 h1)), EV.ck4 (g := (fun p_ => (Y i p_))) (o := (k * 4)) (by omega) (by omega), (by rw [rl_lt (by omega)]; omega), (by omega), (by omega), (by omega), EV.ck4 (g := (fun p_ => (X i p_))) (o := (k * 4)) (by omega) (by omega), (by rw [rl_lt (by omega)]; omega), (by omega), (by omega), (by omega), .mk (decide_eq_true h0), trivial⟩
theorem LMa_xf (rows cols : Int) (l : List Int) (o n : Nat) (l2 : List Int) (p m rr cw : Nat) (X Y : Nat → Nat → Int) (ro co ro2 co2 : Int) (hi hi2 : Bool) (nn dd i k : Nat)
    (hr : -9223372036854775808 ≤ rows ∧ rows < 9223372036854775808)
    (hc : -9223372036854775808 ≤ cols ∧ cols < 9223372036854775808)
    (hl : o + n ≤ l.length)
    (hn : n ≤ 1048576)
    (hl2 : p + m ≤ l2.length)
    (hm : m ≤ 1048576)
    (h6 : W.pick rows 6 < 6)
    (h9 : W.pick cols 9 < 9)
    (hlb : ∀ j, -9223372036854775808 ≤ List.getD l j 0 ∧ List.getD l j 0 < 9223372036854775808)
    (hlb2 : ∀ j, -9223372036854775808 ≤ List.getD l2 j 0 ∧ List.getD l2 j 0 < 9223372036854775808)
    (hrr : 1 ≤ rr ∧ rr ≤ 6)
    (hcw : 1 ≤ cw ∧ cw ≤ 9)
    (hil : i < rr)
    (hkl : k ≤ cw)
    (hdd : dd ≤ 1000)
    (h0 : (¬(↑k : Int) < (↑cw : Int))) :
    CodeOk Try.prog 200 100000 (kAt (kOf Try.prog Try.f3) [true, true, true, true, true, true, true, true, true, false, true, false, false, true, false, false, true, false, false]) (LMaI l n l2 rr cw X Y ro co ro2 co2 hi hi2 nn dd i k) (.exit 6) (LMaI l n l2 rr cw (fun j_ p_ => X j_ p_) (fun j_ p_ => Y j_ p_) ro co ro2 co2 hi hi2 nn dd i k) :=
  CodeOk.of_runs (fuel := 3) (v := ⟨[9, 10, 8, 12, 19, 18, 20], [1, 2, 67, 68, 83, 163, 164, 179], [], 100016⟩) (hs := [(3, ⟨.auto, some (.c (.bool (false)))⟩)])
    (cs := [EB (decide ((↑k : Int) < (↑cw : Int))) false])
    mixed (by kernel_rfl) ⟨.mk (decide_eq_false h0), trivial⟩
end Go.Proofs.Ytohleiikedpmkaa.Vm

namespace Go.Proofs.Ytohleiikedpmkaa.Vm
open Go Go.Proofs Go.Proofs.Ytohleiikedpmkaa
theorem least_row (rows cols : Int) (l : List Int) (o n : Nat) (l2 : List Int) (p m : Nat) (rr cw : Nat) (X Y : Nat → Nat → Int) (ro co ro2 co2 : Int) (hi hi2 : Bool) (nn dd i : Nat)
    (hr : -9223372036854775808 ≤ rows ∧ rows < 9223372036854775808) (hc : -9223372036854775808 ≤ cols ∧ cols < 9223372036854775808) (hl : o + n ≤ l.length) (hn : n ≤ 1048576) (hl2 : p + m ≤ l2.length) (hm : m ≤ 1048576) (h6 : W.pick rows 6 < 6) (h9 : W.pick cols 9 < 9)
    (hlb : ∀ j, -9223372036854775808 ≤ List.getD l j 0 ∧ List.getD l j 0 < 9223372036854775808) (hlb2 : ∀ j, -9223372036854775808 ≤ List.getD l2 j 0 ∧ List.getD l2 j 0 < 9223372036854775808)
    (hrr : 1 ≤ rr ∧ rr ≤ 6) (hcw : 1 ≤ cw ∧ cw ≤ 9) (hil : i < rr) (hdd : dd ≤ 900) :
    CodeOk Try.prog 200 100000 (kAt (kOf Try.prog Try.f3) [true, true, true, true, true, true, true, true, true, false, true, false, false, true, false, false, true, false]) (LMaI l n l2 rr cw X Y ro co ro2 co2 hi hi2 nn dd i 0) (.exit 6) (LMaI l n l2 rr cw X Y ro co ro2 co2 hi hi2 nn (dd + W.cR Y X i cw) i cw) := by
  refine LMa_by (fun k => LMaI l n l2 rr cw X Y ro co ro2 co2 hi hi2 nn (dd + W.cR Y X i k) i k) (fun k => k ≤ cw) (fun k => cw - k) (by simp) ?_ 0 (Nat.zero_le _)
  intro k hkl
  have hcr := W.cR_le Y X i k
  have hd1 : dd + W.cR Y X i k ≤ 1000 := by omega
  by_cases h0 : (k : Int) < (cw : Int)
  · refine .inl ⟨k + 1, by omega, by omega, ?_⟩
    have ee : W.cR Y X i (k + 1) = bif W.eqc X Y i k then W.cR Y X i k else W.cR Y X i k + 1 := by rw [W.eqc_comm]; rfl
    cases he : W.eqc X Y i k with
    | true =>
      rw [he] at ee
      simp only [cond_true] at ee
      rw [ee]
      exact LMa_rtt rows cols l o n l2 p m rr cw X Y ro co ro2 co2 hi hi2 nn _ i k hr hc hl hn hl2 hm h6 h9 hlb hlb2 hrr hcw hil hkl hd1 h0 he
    | false =>
      rw [he] at ee
      simp only [cond_false] at ee
      rw [ee]
      exact LMa_rtf rows cols l o n l2 p m rr cw X Y ro co ro2 co2 hi hi2 nn _ i k hr hc hl hn hl2 hm h6 h9 hlb hlb2 hrr hcw hil hkl hd1 h0 (fun h => Bool.noConfusion (h.symm.trans he))
  · have e : k = cw := by omega
    subst e
    exact .inr (LMa_xf rows cols l o n l2 p m rr k X Y ro co ro2 co2 hi hi2 nn _ i k hr hc hl hn hl2 hm h6 h9 hlb hlb2 hrr hcw hil hkl hd1 h0)
end Go.Proofs.Ytohleiikedpmkaa.Vm

namespace Go.Proofs.Ytohleiikedpmkaa.Vm
open Go Go.Proofs Go.Proofs.Ytohleiikedpmkaa
set_option maxRecDepth 100000
noncomputable def LMbI (l : List Int) (n : Nat) (l2 : List Int) (rr cw : Nat) (X Y : Nat → Nat → Int) (ro co ro2 co2 : Int) (hi hi2 : Bool) (nn dd i : Nat) : S0 :=
  ⟨[(9, (.c (.ptr 83 0 0))), (10, (.c (.ptr 179 0 0))), (8, (.c (.bool (false)))), (12, (.c (.int .i64 (nn : Int)))), (18, (.c (.int .i64 (dd : Int)))), (19, (.c (.int .i64 (i : Int))))], [(1, (.one ⟨false, false, (.ints .i64 l)⟩)), (2, (.one ⟨false, false, (.ints .i64 l2)⟩)), (67, (.one ⟨true, false, .gen rr (fun j_ => .sl 68 j_ 0 cw 4)⟩)), (68, (.many (fun j_ => some ⟨true, true, .ig (W.rl rr (cw * 4) j_) W.ck (X j_)⟩))), (83, (.one ⟨true, true, .cells [.int .i64 (rr : Int), .int .i64 (cw : Int), .sl 67 0 0 rr 1, .int .i64 ro, .int .i64 co, .bool hi]⟩)), (163, (.one ⟨true, false, .gen rr (fun j_ => .sl 164 j_ 0 cw 4)⟩)), (164, (.many (fun j_ => some ⟨true, true, .ig (W.rl rr (cw * 4) j_) W.ck (Y j_)⟩))), (179, (.one ⟨true, true, .cells [.int .i64 (rr : Int), .int .i64 (cw : Int), .sl 163 0 0 rr 1, .int .i64 ro2, .int .i64 co2, .bool hi2]⟩))], 419⟩
theorem LMb_by {α : Type} (I : α → S0) (Inv : α → Prop) (μ : α → Nat) {ex : Ex} {s' : S0} (hex : ex ≠ .normal)
    (step : ∀ x, Inv x → (∃ y, Inv y ∧ μ y < μ x ∧ CodeOk Try.prog 200 403 (kAt (kOf Try.prog Try.f3) [true, true, true, true, true, true, true, true, true, false, true, false, false]) (I x) .normal (I y)) ∨ CodeOk Try.prog 200 403 (kAt (kOf Try.prog Try.f3) [true, true, true, true, true, true, true, true, true, false, true, false, false]) (I x) ex s') (x : α) (hx : Inv x) :
    CodeOk Try.prog 200 403 (kAt (kOf Try.prog Try.f3) [true, true, true, true, true, true, true, true, true, false, true, false]) (I x) ex s' := by
  have hk : (kAt (kOf Try.prog Try.f3) [true, true, true, true, true, true, true, true, true, false, true, false]) = .loop (kAt (kOf Try.prog Try.f3) [true, true, true, true, true, true, true, true, true, false, true, false, false]) := by kernel_rfl
  rw [hk]
  exact CodeOk.loop I Inv μ hex step x hx
noncomputable def LMb0 (rows cols : Int) (l : List Int) (o n : Nat) (l2 : List Int) (p m : Nat) : S0 :=
  ⟨[(9, (.c (.ptr 83 0 0))), (10, (.c (.ptr 179 0 0))), (8, (.c (.bool (false)))), (12, (.c (.int .i64 (↑(W.sN (W.runs (fun j_ p_ => W.sX (1 + W.pick rows 6) (1 + W.pick cols 9) l2 p (min m 60) j_ p_) (W.frX (1 + W.pick rows 6) (1 + W.pick cols 9) (fun j_ p_ => W.sX (1 + W.pick rows 6) (1 + W.pick cols 9) l o (min n 60) j_ p_) (1 + W.pick rows 6) (1 + W.pick cols 9)) (1 + W.pick cols 9) (1 + W.pick rows 6)) (List.length (W.runs (fun j_ p_ => W.sX (1 + W.pick rows 6) (1 + W.pick cols 9) l2 p (min m 60) j_ p_) (W.frX (1 + W.pick rows 6) (1 + W.pick cols 9) (fun j_ p_ => W.sX (1 + W.pick rows 6) (1 + W.pick cols 9) l o (min n 60) j_ p_) (1 + W.pick rows 6) (1 + W.pick cols 9)) (1 + W.pick cols 9) (1 + W.pick rows 6)))))))), (18, (.c (.int .i64 0))), (19, (.c (.int .i64 0)))], [(1, (.one ⟨false, false, (.ints .i64 l)⟩)), (2, (.one ⟨false, false, (.ints .i64 l2)⟩)), (67, (.one ⟨true, false, (.gen (1 + W.pick rows 6) (fun j_ => (.sl 68 j_ 0 (1 + W.pick cols 9) 4)))⟩)), (68, (.many (fun j_ => some ⟨true, true, (.ig (W.rl (1 + W.pick rows 6) ((1 + W.pick cols 9) * 4) j_) W.ck (fun p_ => (W.sX (1 + W.pick rows 6) (1 + W.pick cols 9) l o (min n 60) j_ p_)))⟩))), (83, (.one ⟨true, true, (.cells [(.int .i64 (↑(1 + W.pick rows 6))), (.int .i64 (↑(1 + W.pick cols 9))), (.sl 67 0 0 (1 + W.pick rows 6) 1), (.int .i64 (W.sRo (1 + W.pick rows 6) l o (min n 60))), (.int .i64 (W.sCo (1 + W.pick cols 9) l o (min n 60))), (.bool (W.sHi l o (min n 60)))])⟩)), (163, (.one ⟨true, false, (.gen (1 + W.pick rows 6) (fun j_ => (.sl 164 j_ 0 (1 + W.pick cols 9) 4)))⟩)), (164, (.many (fun j_ => some ⟨true, true, (.ig (W.rl (1 + W.pick rows 6) ((1 + W.pick cols 9) * 4) j_) W.ck (fun p_ => (W.sX (1 + W.pick rows 6) (1 + W.pick cols 9) l2 p (min m 60) j_ p_)))⟩))), (179, (.one ⟨true, true, (.cells [(.int .i64 (↑(1 + W.pick rows 6))), (.int .i64 (↑(1 + W.pick cols 9))), (.sl 163 0 0 (1 + W.pick rows 6) 1), (.int .i64 (W.sRo (1 + W.pick rows 6) l2 p (min m 60))), (.int .i64 (W.sCo (1 + W.pick cols 9) l2 p (min m 60))), (.bool (W.sHi l2 p (min m 60)))])⟩))], 403⟩
theorem LMb_rt (rows cols : Int) (l : List Int) (o n : Nat) (l2 : List Int) (p m rr cw : Nat) (X Y : Nat → Nat → Int) (ro co ro2 co2 : Int) (hi hi2 : Bool) (nn dd i : Nat)
    (hr : -9223372036854775808 ≤ rows ∧ rows < 9223372036854775808)
    (hc : -9223372036854775808 ≤ cols ∧ cols < 9223372036854775808)
    (hl : o + n ≤ l.length)
    (hn : n ≤ 1048576)
    (hl2 : p + m ≤ l2.length)
    (hm : m ≤ 1048576)
    (h6 : W.pick rows 6 < 6)
    (h9 : W.pick cols 9 < 9)
    (hlb : ∀ j, -9223372036854775808 ≤ List.getD l j 0 ∧ List.getD l j 0 < 9223372036854775808)
    (hlb2 : ∀ j, -9223372036854775808 ≤ List.getD l2 j 0 ∧ List.getD l2 j 0 < 9223372036854775808)
    (hrr : 1 ≤ rr ∧ rr ≤ 6)
    (hcw : 1 ≤ cw ∧ cw ≤ 9)
    (hil : i ≤ rr)
    (hdd : dd ≤ 9 * i)
    (h0 : ((↑i : Int) < (↑rr : Int))) :
    CodeOk Try.prog 200 403 (kAt (kOf Try.prog Try.f3) [true, true, true, true, true, true, true, true, true, false, true, false, false]) (LMbI l n l2 rr cw X Y ro co ro2 co2 hi hi2 nn dd i) .normal (LMbI l n l2 rr cw (fun j_ p_ => X j_ p_) (fun j_ p_ => Y j_ p_) ro co ro2 co2 hi hi2 nn (dd + W.cR (fun j_ p_ => Y j_ p_) (fun j_ p_ => X j_ p_) i cw) (i + 1)) :=
  CodeOk.of_runs (fuel := 3) (v := ⟨[9, 10, 8, 12, 18, 19], [1, 2, 67, 68, 83, 163, 164, 179], [], 419⟩) (hs := [(3, ⟨.auto, some (.c (.bool (true)))⟩), (6, ⟨.sum ⟨[9, 10, 8, 12, 19, 18, 20], [1, 2, 67, 68, 83, 163, 164, 179], [], 100016⟩ (.exit 6) (LMaI l n l2 rr cw (fun j_ p_ => X j_ p_) (fun j_ p_ => Y j_ p_) ro co ro2 co2 hi hi2 nn (dd + W.cR (fun j_ p_ => Y j_ p_) (fun j_ p_ => X j_ p_) i cw) i cw), none⟩), (8, ⟨.auto, some (.c (.int .i64 (↑(i + 1))))⟩)])
    (cs := [EI .i64 (IntKind.wrap IntKind.i64 ((↑i : Int) + 1)) ((↑(i + 1) : Int)),
      CodeOk Try.prog 200 499 (kAt (kOf Try.prog Try.f3) [true, true, true, true, true, true, true, true, true, false, true, false, false, true, false, false, true, false]) (LMaI l n l2 rr cw (fun j_ p_ => X j_ p_) (fun j_ p_ => Y j_ p_) ro co ro2 co2 hi hi2 nn dd i 0) (.exit 6) (LMaI l n l2 rr cw (fun j_ p_ => X j_ p_) (fun j_ p_ => Y j_ p_) ro co ro2 co2 hi hi2 nn (dd + W.cR (fun j_ p_ => Y j_ p_) (fun j_ p_ => X j_ p_) i cw) i cw),
      EB (decide ((↑i : Int) < (↑rr : Int))) true])
    mixed (by kernel_rfl) ⟨.mk (by simp only [addO_eq, mulE_eq, mulE_one, Int.toNat_natCast, IntKind.wrap_i64, mmin, mmax]; omega), (CodeOk.mono (least_row rows cols l o n l2 p m rr cw (fun j_ p_ => X j_ p_) (fun j_ p_ => Y j_ p_) ro co ro2 co2 hi hi2 nn dd i (by omega) (by omega) (by omega) (by omega) (by omega) (by omega) (by omega) (by omega) (by omega) (by omega) (by omega) (by omega) (by omega) (by omega)) (by decide)), .mk (decide_eq_true h0), trivial⟩
theorem LMb_xf (rows cols : Int) (l : List Int) (o n : Nat) (l2 : List Int) (p m rr cw : Nat) (X Y : Nat → Nat → Int) (ro co ro2 co2 : Int) (hi hi2 : Bool) (nn dd i : Nat)
    (hr : -9223372036854775808 ≤ rows ∧ rows < 9223372036854775808)
    (hc : -9223372036854775808 ≤ cols ∧ cols < 9223372036854775808)
    (hl : o + n ≤ l.length)
    (hn : n ≤ 1048576)
    (hl2 : p + m ≤ l2.length)
    (hm : m ≤ 1048576)
    (h6 : W.pick rows 6 < 6)
    (h9 : W.pick cols 9 < 9)
    (hlb : ∀ j, -9223372036854775808 ≤ List.getD l j 0 ∧ List.getD l j 0 < 9223372036854775808)
    (hlb2 : ∀ j, -9223372036854775808 ≤ List.getD l2 j 0 ∧ List.getD l2 j 0 < 9223372036854775808)
    (hrr : 1 ≤ rr ∧ rr ≤ 6)
    (hcw : 1 ≤ cw ∧ cw ≤ 9)
    (hil : i ≤ rr)
    (hdd : dd ≤ 9 * i)
    (h0 : (¬(↑i : Int) < (↑rr : Int))) :
    CodeOk Try.prog 200 403 (kAt (kOf Try.prog Try.f3) [true, true, true, true, true, true, true, true, true, false, true, false, false]) (LMbI l n l2 rr cw X Y ro co ro2 co2 hi hi2 nn dd i) (.exit 4) (LMbI l n l2 rr cw (fun j_ p_ => X j_ p_) (fun j_ p_ => Y j_ p_) ro co ro2 co2 hi hi2 nn dd i) :=
  CodeOk.of_runs (fuel := 3) (v := ⟨[9, 10, 8, 12, 18, 19], [1, 2, 67, 68, 83, 163, 164, 179], [], 419⟩) (hs := [(3, ⟨.auto, some (.c (.bool (false)))⟩)])
    (cs := [EB (decide ((↑i : Int) < (↑rr : Int))) false])
    mixed (by kernel_rfl) ⟨.mk (decide_eq_false h0), trivial⟩
end Go.Proofs.Ytohleiikedpmkaa.Vm

namespace Go.Proofs.Ytohleiikedpmkaa.Vm
open Go Go.Proofs Go.Proofs.Ytohleiikedpmkaa
theorem least_diff (rows cols : Int) (l : List Int) (o n : Nat) (l2 : List Int) (p m : Nat)
    (hr : -9223372036854775808 ≤ rows ∧ rows < 9223372036854775808) (hc : -9223372036854775808 ≤ cols ∧ cols < 9223372036854775808) (hl : o + n ≤ l.length) (hn : n ≤ 1048576) (hl2 : p + m ≤ l2.length) (hm : m ≤ 1048576) (h6 : W.pick rows 6 < 6) (h9 : W.pick cols 9 < 9)
    (hlb : ∀ j, -9223372036854775808 ≤ List.getD l j 0 ∧ List.getD l j 0 < 9223372036854775808) (hlb2 : ∀ j, -9223372036854775808 ≤ List.getD l2 j 0 ∧ List.getD l2 j 0 < 9223372036854775808)
    (rr cw : Nat) (X Y : Nat → Nat → Int) (ro co ro2 co2 : Int) (hi hi2 : Bool) (nn : Nat) (hrr : 1 ≤ rr ∧ rr ≤ 6) (hcw : 1 ≤ cw ∧ cw ≤ 9) :
    CodeOk Try.prog 200 403 (kAt (kOf Try.prog Try.f3) [true, true, true, true, true, true, true, true, true, false, true, false]) (LMbI l n l2 rr cw X Y ro co ro2 co2 hi hi2 nn 0 0) (.exit 4) (LMbI l n l2 rr cw X Y ro co ro2 co2 hi hi2 nn (W.cA Y X cw rr) rr) := by
  refine LMb_by (fun i => LMbI l n l2 rr cw X Y ro co ro2 co2 hi hi2 nn (W.cA Y X cw i) i) (fun i => i ≤ rr) (fun i => rr - i) (by simp) ?_ 0 (Nat.zero_le _)
  intro i hil
  have hdd : W.cA Y X cw i ≤ 9 * i := Nat.le_trans (W.cA_le Y X cw i) (Nat.mul_le_mul hcw.2 (Nat.le_refl i))
  by_cases h0 : (i : Int) < (rr : Int)
  · exact .inl ⟨i + 1, by omega, by omega, LMb_rt rows cols l o n l2 p m rr cw X Y ro co ro2 co2 hi hi2 nn _ i hr hc hl hn hl2 hm h6 h9 hlb hlb2 hrr hcw hil hdd h0⟩
  · have e : i = rr := by omega
    subst e
    exact .inr (LMb_xf rows cols l o n l2 p m i cw X Y ro co ro2 co2 hi hi2 nn _ i hr hc hl hn hl2 hm h6 h9 hlb hlb2 hrr hcw hil hdd h0)
theorem least_rows (rows cols : Int) (l : List Int) (o n : Nat) (l2 : List Int) (p m : Nat)
    (hr : -9223372036854775808 ≤ rows ∧ rows < 9223372036854775808)
    (hc : -9223372036854775808 ≤ cols ∧ cols < 9223372036854775808)
    (hl : o + n ≤ l.length)
    (hn : n ≤ 1048576)
    (hl2 : p + m ≤ l2.length)
    (hm : m ≤ 1048576)
    (h6 : W.pick rows 6 < 6)
    (h9 : W.pick cols 9 < 9)
    (hlb : ∀ j, -9223372036854775808 ≤ List.getD l j 0 ∧ List.getD l j 0 < 9223372036854775808)
    (hlb2 : ∀ j, -9223372036854775808 ≤ List.getD l2 j 0 ∧ List.getD l2 j 0 < 9223372036854775808)
    : CodeOk Try.prog 200 403 (kAt (kOf Try.prog Try.f3) [true, true, true, true, true, true, true, true, true, false, true, false]) (LMb0 rows cols l o n l2 p m) (.exit 4) (LMbI l n l2 (1 + W.pick rows 6) (1 + W.pick cols 9) (fun j_ p_ => W.sX (1 + W.pick rows 6) (1 + W.pick cols 9) l o (min n 60) j_ p_) (fun j_ p_ => W.sX (1 + W.pick rows 6) (1 + W.pick cols 9) l2 p (min m 60) j_ p_) (W.sRo (1 + W.pick rows 6) l o (min n 60)) (W.sCo (1 + W.pick cols 9) l o (min n 60)) (W.sRo (1 + W.pick rows 6) l2 p (min m 60)) (W.sCo (1 + W.pick cols 9) l2 p (min m 60)) (W.sHi l o (min n 60)) (W.sHi l2 p (min m 60)) (W.cA (fun j_ p_ => W.sX (1 + W.pick rows 6) (1 + W.pick cols 9) l2 p (min m 60) j_ p_) (fun j_ p_ => W.sX (1 + W.pick rows 6) (1 + W.pick cols 9) l o (min n 60) j_ p_) (1 + W.pick cols 9) (1 + W.pick rows 6)) (W.cA (fun j_ p_ => W.sX (1 + W.pick rows 6) (1 + W.pick cols 9) l2 p (min m 60) j_ p_) (fun j_ p_ => W.sX (1 + W.pick rows 6) (1 + W.pick cols 9) l o (min n 60) j_ p_) (1 + W.pick cols 9) (1 + W.pick rows 6)) (1 + W.pick rows 6)) :=
 by
  have e := W.runs_sum (fun j_ p_ => W.sX (1 + W.pick rows 6) (1 + W.pick cols 9) l o (min n 60) j_ p_) (fun j_ p_ => W.sX (1 + W.pick rows 6) (1 + W.pick cols 9) l2 p (min m 60) j_ p_) (1 + W.pick rows 6) (1 + W.pick cols 9)
  refine CodeOk.enter (s' := LMbI l n l2 (1 + W.pick rows 6) (1 + W.pick cols 9) (fun j_ p_ => W.sX (1 + W.pick rows 6) (1 + W.pick cols 9) l o (min n 60) j_ p_) (fun j_ p_ => W.sX (1 + W.pick rows 6) (1 + W.pick cols 9) l2 p (min m 60) j_ p_) (W.sRo (1 + W.pick rows 6) l o (min n 60)) (W.sCo (1 + W.pick cols 9) l o (min n 60)) (W.sRo (1 + W.pick rows 6) l2 p (min m 60)) (W.sCo (1 + W.pick cols 9) l2 p (min m 60)) (W.sHi l o (min n 60)) (W.sHi l2 p (min m 60)) (W.sN (W.runs (fun j_ p_ => W.sX (1 + W.pick rows 6) (1 + W.pick cols 9) l2 p (min m 60) j_ p_) (W.frX (1 + W.pick rows 6) (1 + W.pick cols 9) (fun j_ p_ => W.sX (1 + W.pick rows 6) (1 + W.pick cols 9) l o (min n 60) j_ p_) (1 + W.pick rows 6) (1 + W.pick cols 9)) (1 + W.pick cols 9) (1 + W.pick rows 6)) (List.length (W.runs (fun j_ p_ => W.sX (1 + W.pick rows 6) (1 + W.pick cols 9) l2 p (min m 60) j_ p_) (W.frX (1 + W.pick rows 6) (1 + W.pick cols 9) (fun j_ p_ => W.sX (1 + W.pick rows 6) (1 + W.pick cols 9) l o (min n 60) j_ p_) (1 + W.pick rows 6) (1 + W.pick cols 9)) (1 + W.pick cols 9) (1 + W.pick rows 6)))) 0 0) (Move.same (by decide) (by decide) (by decide) rfl ?_) ?_
  · exact ⟨SameB.refl rfl, SameB.refl rfl, SameB.refl rfl, fun j k e => SameB.refl e, SameB.refl rfl, SameB.refl rfl, fun j k e => SameB.refl e, SameB.refl rfl, trivial⟩
  · rw [W.frX_same, e]
    exact least_diff rows cols l o n l2 p m hr hc hl hn hl2 hm h6 h9 hlb hlb2 (1 + W.pick rows 6) (1 + W.pick cols 9) (fun j_ p_ => W.sX (1 + W.pick rows 6) (1 + W.pick cols 9) l o (min n 60) j_ p_) (fun j_ p_ => W.sX (1 + W.pick rows 6) (1 + W.pick cols 9) l2 p (min m 60) j_ p_) (W.sRo (1 + W.pick rows 6) l o (min n 60)) (W.sCo (1 + W.pick cols 9) l o (min n 60)) (W.sRo (1 + W.pick rows 6) l2 p (min m 60)) (W.sCo (1 + W.pick cols 9) l2 p (min m 60)) (W.sHi l o (min n 60)) (W.sHi l2 p (min m 60)) _ (by omega) (by omega)
end Go.Proofs.Ytohleiikedpmkaa.Vm

namespace Go.Proofs.Ytohleiikedpmkaa.Vm
open Go Go.Proofs Go.Proofs.Ytohleiikedpmkaa
set_option maxRecDepth 100000
theorem renderLeast_run (rows cols : Int) (l : List Int) (o n : Nat) (l2 : List Int) (p m : Nat)
    (hr : -9223372036854775808 ≤ rows ∧ rows < 9223372036854775808)
    (hc : -9223372036854775808 ≤ cols ∧ cols < 9223372036854775808)
    (hl : o + n ≤ l.length)
    (hn : n ≤ 1048576)
    (hl2 : p + m ≤ l2.length)
    (hm : m ≤ 1048576)
    (h6 : W.pick rows 6 < 6)
    (h9 : W.pick cols 9 < 9)
    (hlb : ∀ j, -9223372036854775808 ≤ List.getD l j 0 ∧ List.getD l j 0 < 9223372036854775808)
    (hlb2 : ∀ j, -9223372036854775808 ≤ List.getD l2 j 0 ∧ List.getD l2 j 0 < 9223372036854775808) :
    Contract0 Try.prog 3 [(.c (.int .i64 rows)), (.c (.int .i64 cols)), (.c (.sl 1 0 o n 1)), (.c (.sl 2 0 p m 1))] [(1, (.one ⟨false, false, (.ints .i64 l)⟩)), (2, (.one ⟨false, false, (.ints .i64 l2)⟩))] 3 (.c (.bool (true))) [] [] :=
  Contract0.fr 300 [(4, ⟨.call [1] (.agg [(.int .i64 (↑(1 + W.pick rows 6))), (.int .i64 (↑(1 + W.pick cols 9))), (.sl 67 0 0 (1 + W.pick rows 6) 1), (.int .i64 (W.sRo (1 + W.pick rows 6) l o (min n 60))), (.int .i64 (W.sCo (1 + W.pick cols 9) l o (min n 60))), (.bool (W.sHi l o (min n 60)))]) [] [(67, (.one ⟨true, false, (.gen (1 + W.pick rows 6) (fun j_ => (.sl 68 j_ 0 (1 + W.pick cols 9) 4)))⟩)), (68, (.many (fun j_ => some ⟨true, true, (.ig (W.rl (1 + W.pick rows 6) ((1 + W.pick cols 9) * 4) j_) W.ck (fun p_ => (W.sX (1 + W.pick rows 6) (1 + W.pick cols 9) l o (min n 60) j_ p_)))⟩)))], none⟩), (10, ⟨.call [2] (.agg [(.int .i64 (↑(1 + W.pick rows 6))), (.int .i64 (↑(1 + W.pick cols 9))), (.sl 163 0 0 (1 + W.pick rows 6) 1), (.int .i64 (W.sRo (1 + W.pick rows 6) l2 p (min m 60))), (.int .i64 (W.sCo (1 + W.pick cols 9) l2 p (min m 60))), (.bool (W.sHi l2 p (min m 60)))]) [] [(163, (.one ⟨true, false, (.gen (1 + W.pick rows 6) (fun j_ => (.sl 164 j_ 0 (1 + W.pick cols 9) 4)))⟩)), (164, (.many (fun j_ => some ⟨true, true, (.ig (W.rl (1 + W.pick rows 6) ((1 + W.pick cols 9) * 4) j_) W.ck (fun p_ => (W.sX (1 + W.pick rows 6) (1 + W.pick cols 9) l2 p (min m 60) j_ p_)))⟩)))], none⟩), (15, ⟨.call [67, 163, 68, 164] (.agg [(.int .i64 (↑(1 + W.pick rows 6))), (.int .i64 (↑(1 + W.pick cols 9))), (.int .i64 (W.sRo (1 + W.pick rows 6) l2 p (min m 60))), (.int .i64 (W.sCo (1 + W.pick cols 9) l2 p (min m 60))), (.bool (W.sHi l2 p (min m 60))), (.sl 243 0 0 (List.length (W.runs (fun j_ p_ => W.sX (1 + W.pick rows 6) (1 + W.pick cols 9) l2 p (min m 60) j_ p_) (W.frX (1 + W.pick rows 6) (1 + W.pick cols 9) (fun j_ p_ => W.sX (1 + W.pick rows 6) (1 + W.pick cols 9) l o (min n 60) j_ p_) (1 + W.pick rows 6) (1 + W.pick cols 9)) (1 + W.pick cols 9) (1 + W.pick rows 6))) 3)]) [] [(243, (.one ⟨true, false, (.row (List.length (W.runs (fun j_ p_ => W.sX (1 + W.pick rows 6) (1 + W.pick cols 9) l2 p (min m 60) j_ p_) (W.frX (1 + W.pick rows 6) (1 + W.pick cols 9) (fun j_ p_ => W.sX (1 + W.pick rows 6) (1 + W.pick cols 9) l o (min n 60) j_ p_) (1 + W.pick rows 6) (1 + W.pick cols 9)) (1 + W.pick cols 9) (1 + W.pick rows 6)) * 3) 3 (fun j_ => [(.int .i64 (↑(W.ra (W.runs (fun j_ p_ => W.sX (1 + W.pick rows 6) (1 + W.pick cols 9) l2 p (min m 60) j_ p_) (W.frX (1 + W.pick rows 6) (1 + W.pick cols 9) (fun j_ p_ => W.sX (1 + W.pick rows 6) (1 + W.pick cols 9) l o (min n 60) j_ p_) (1 + W.pick rows 6) (1 + W.pick cols 9)) (1 + W.pick cols 9) (1 + W.pick rows 6)) j_))), (.int .i64 (↑(W.rb (W.runs (fun j_ p_ => W.sX (1 + W.pick rows 6) (1 + W.pick cols 9) l2 p (min m 60) j_ p_) (W.frX (1 + W.pick rows 6) (1 + W.pick cols 9) (fun j_ p_ => W.sX (1 + W.pick rows 6) (1 + W.pick cols 9) l o (min n 60) j_ p_) (1 + W.pick rows 6) (1 + W.pick cols 9)) (1 + W.pick cols 9) (1 + W.pick rows 6)) j_))), (.sl 244 j_ 0 (W.rn (W.runs (fun j_ p_ => W.sX (1 + W.pick rows 6) (1 + W.pick cols 9) l2 p (min m 60) j_ p_) (W.frX (1 + W.pick rows 6) (1 + W.pick cols 9) (fun j_ p_ => W.sX (1 + W.pick rows 6) (1 + W.pick cols 9) l o (min n 60) j_ p_) (1 + W.pick rows 6) (1 + W.pick cols 9)) (1 + W.pick cols 9) (1 + W.pick rows 6)) j_) 4)]))⟩)), (244, (.many (fun j_ => some ⟨true, false, (.ig (W.rn (W.runs (fun j_ p_ => W.sX (1 + W.pick rows 6) (1 + W.pick cols 9) l2 p (min m 60) j_ p_) (W.frX (1 + W.pick rows 6) (1 + W.pick cols 9) (fun j_ p_ => W.sX (1 + W.pick rows 6) (1 + W.pick cols 9) l o (min n 60) j_ p_) (1 + W.pick rows 6) (1 + W.pick cols 9)) (1 + W.pick cols 9) (1 + W.pick rows 6)) j_ * 4) W.ck (fun p_ => (W.sX (1 + W.pick rows 6) (1 + W.pick cols 9) l2 p (min m 60) (W.ra (W.runs (fun j_ p_ => W.sX (1 + W.pick rows 6) (1 + W.pick cols 9) l2 p (min m 60) j_ p_) (W.frX (1 + W.pick rows 6) (1 + W.pick cols 9) (fun j_ p_ => W.sX (1 + W.pick rows 6) (1 + W.pick cols 9) l o (min n 60) j_ p_) (1 + W.pick rows 6) (1 + W.pick cols 9)) (1 + W.pick cols 9) (1 + W.pick rows 6)) j_) (p_ + W.rb (W.runs (fun j_ p_ => W.sX (1 + W.pick rows 6) (1 + W.pick cols 9) l2 p (min m 60) j_ p_) (W.frX (1 + W.pick rows 6) (1 + W.pick cols 9) (fun j_ p_ => W.sX (1 + W.pick rows 6) (1 + W.pick cols 9) l o (min n 60) j_ p_) (1 + W.pick rows 6) (1 + W.pick cols 9)) (1 + W.pick cols 9) (1 + W.pick rows 6)) j_ * 4))))⟩)))], none⟩), (22, ⟨.sum ⟨[9, 10, 11, 8, 12, 13, 14, 15], [1, 2, 67, 68, 83, 163, 164, 179, 243, 244, 259], [], 355⟩ (.exit 0) (LPI l n l2 (1 + W.pick rows 6) (1 + W.pick cols 9) (fun j_ p_ => W.sX (1 + W.pick rows 6) (1 + W.pick cols 9) l o (min n 60) j_ p_) (fun j_ p_ => W.sX (1 + W.pick rows 6) (1 + W.pick cols 9) l2 p (min m 60) j_ p_) (W.sRo (1 + W.pick rows 6) l o (min n 60)) (W.sCo (1 + W.pick cols 9) l o (min n 60)) (W.sRo (1 + W.pick rows 6) l2 p (min m 60)) (W.sCo (1 + W.pick cols 9) l2 p (min m 60)) (W.sHi l o (min n 60)) (W.sHi l2 p (min m 60)) (W.runs (fun j_ p_ => W.sX (1 + W.pick rows 6) (1 + W.pick cols 9) l2 p (min m 60) j_ p_) (W.frX (1 + W.pick rows 6) (1 + W.pick cols 9) (fun j_ p_ => W.sX (1 + W.pick rows 6) (1 + W.pick cols 9) l o (min n 60) j_ p_) (1 + W.pick rows 6) (1 + W.pick cols 9)) (1 + W.pick cols 9) (1 + W.pick rows 6)) (W.sN (W.runs (fun j_ p_ => W.sX (1 + W.pick rows 6) (1 + W.pick cols 9) l2 p (min m 60) j_ p_) (W.frX (1 + W.pick rows 6) (1 + W.pick cols 9) (fun j_ p_ => W.sX (1 + W.pick rows 6) (1 + W.pick cols 9) l o (min n 60) j_ p_) (1 + W.pick rows 6) (1 + W.pick cols 9)) (1 + W.pick cols 9) (1 + W.pick rows 6)) (List.length (W.runs (fun j_ p_ => W.sX (1 + W.pick rows 6) (1 + W.pick cols 9) l2 p (min m 60) j_ p_) (W.frX (1 + W.pick rows 6) (1 + W.pick cols 9) (fun j_ p_ => W.sX (1 + W.pick rows 6) (1 + W.pick cols 9) l o (min n 60) j_ p_) (1 + W.pick rows 6) (1 + W.pick cols 9)) (1 + W.pick cols 9) (1 + W.pick rows 6)))) (W.rwS (W.runs (fun j_ p_ => W.sX (1 + W.pick rows 6) (1 + W.pick cols 9) l2 p (min m 60) j_ p_) (W.frX (1 + W.pick rows 6) (1 + W.pick cols 9) (fun j_ p_ => W.sX (1 + W.pick rows 6) (1 + W.pick cols 9) l o (min n 60) j_ p_) (1 + W.pick rows 6) (1 + W.pick cols 9)) (1 + W.pick cols 9) (1 + W.pick rows 6)) (List.length (W.runs (fun j_ p_ => W.sX (1 + W.pick rows 6) (1 + W.pick cols 9) l2 p (min m 60) j_ p_) (W.frX (1 + W.pick rows 6) (1 + W.pick cols 9) (fun j_ p_ => W.sX (1 + W.pick rows 6) (1 + W.pick cols 9) l o (min n 60) j_ p_) (1 + W.pick rows 6) (1 + W.pick cols 9)) (1 + W.pick cols 9) (1 + W.pick rows 6)))) (W.enS (W.runs (fun j_ p_ => W.sX (1 + W.pick rows 6) (1 + W.pick cols 9) l2 p (min m 60) j_ p_) (W.frX (1 + W.pick rows 6) (1 + W.pick cols 9) (fun j_ p_ => W.sX (1 + W.pick rows 6) (1 + W.pick cols 9) l o (min n 60) j_ p_) (1 + W.pick rows 6) (1 + W.pick cols 9)) (1 + W.pick cols 9) (1 + W.pick rows 6)) (List.length (W.runs (fun j_ p_ => W.sX (1 + W.pick rows 6) (1 + W.pick cols 9) l2 p (min m 60) j_ p_) (W.frX (1 + W.pick rows 6) (1 + W.pick cols 9) (fun j_ p_ => W.sX (1 + W.pick rows 6) (1 + W.pick cols 9) l o (min n 60) j_ p_) (1 + W.pick rows 6) (1 + W.pick cols 9)) (1 + W.pick cols 9) (1 + W.pick rows 6)))) (List.length (W.runs (fun j_ p_ => W.sX (1 + W.pick rows 6) (1 + W.pick cols 9) l2 p (min m 60) j_ p_) (W.frX (1 + W.pick rows 6) (1 + W.pick cols 9) (fun j_ p_ => W.sX (1 + W.pick rows 6) (1 + W.pick cols 9) l o (min n 60) j_ p_) (1 + W.pick rows 6) (1 + W.pick cols 9)) (1 + W.pick cols 9) (1 + W.pick rows 6)))), none⟩), (25, ⟨.sum ⟨[9, 10, 8, 12, 18, 19], [1, 2, 67, 68, 83, 163, 164, 179], [], 403⟩ (.exit 4) (LMbI l n l2 (1 + W.pick rows 6) (1 + W.pick cols 9) (fun j_ p_ => W.sX (1 + W.pick rows 6) (1 + W.pick cols 9) l o (min n 60) j_ p_) (fun j_ p_ => W.sX (1 + W.pick rows 6) (1 + W.pick cols 9) l2 p (min m 60) j_ p_) (W.sRo (1 + W.pick rows 6) l o (min n 60)) (W.sCo (1 + W.pick cols 9) l o (min n 60)) (W.sRo (1 + W.pick rows 6) l2 p (min m 60)) (W.sCo (1 + W.pick cols 9) l2 p (min m 60)) (W.sHi l o (min n 60)) (W.sHi l2 p (min m 60)) (W.cA (fun j_ p_ => W.sX (1 + W.pick rows 6) (1 + W.pick cols 9) l2 p (min m 60) j_ p_) (fun j_ p_ => W.sX (1 + W.pick rows 6) (1 + W.pick cols 9) l o (min n 60) j_ p_) (1 + W.pick cols 9) (1 + W.pick rows 6)) (W.cA (fun j_ p_ => W.sX (1 + W.pick rows 6) (1 + W.pick cols 9) l2 p (min m 60) j_ p_) (fun j_ p_ => W.sX (1 + W.pick rows 6) (1 + W.pick cols 9) l o (min n 60) j_ p_) (1 + W.pick cols 9) (1 + W.pick rows 6)) (1 + W.pick rows 6)), none⟩), (26, ⟨.call [] (.c (.bool (true))) [] [], none⟩), (30, ⟨.auto, some (.c (.bool (true)))⟩)] [] [EB ((↑(W.cA (fun j_ p_ => W.sX (1 + W.pick rows 6) (1 + W.pick cols 9) l2 p (min m 60) j_ p_) (fun j_ p_ => W.sX (1 + W.pick rows 6) (1 + W.pick cols 9) l o (min n 60) j_ p_) (1 + W.pick cols 9) (1 + W.pick rows 6)) : Int) == (↑(W.cA (fun j_ p_ => W.sX (1 + W.pick rows 6) (1 + W.pick cols 9) l2 p (min m 60) j_ p_) (fun j_ p_ => W.sX (1 + W.pick rows 6) (1 + W.pick cols 9) l o (min n 60) j_ p_) (1 + W.pick cols 9) (1 + W.pick rows 6)) : Int)) true,
      Contract Try.prog 12 [] [] 419 (.c (.bool (true))) [] [],
      CodeOk Try.prog 200 403 (kAt (kOf Try.prog Try.f3) [true, true, true, true, true, true, true, true, true, false, true, false]) (LMb0 rows cols l o n l2 p m) (.exit 4) (LMbI l n l2 (1 + W.pick rows 6) (1 + W.pick cols 9) (fun j_ p_ => W.sX (1 + W.pick rows 6) (1 + W.pick cols 9) l o (min n 60) j_ p_) (fun j_ p_ => W.sX (1 + W.pick rows 6) (1 + W.pick cols 9) l2 p (min m 60) j_ p_) (W.sRo (1 + W.pick rows 6) l o (min n 60)) (W.sCo (1 + W.pick cols 9) l o (min n 60)) (W.sRo (1 + W.pick rows 6) l2 p (min m 60)) (W.sCo (1 + W.pick cols 9) l2 p (min m 60)) (W.sHi l o (min n 60)) (W.sHi l2 p (min m 60)) (W.cA (fun j_ p_ => W.sX (1 + W.pick rows 6) (1 + W.pick cols 9) l2 p (min m 60) j_ p_) (fun j_ p_ => W.sX (1 + W.pick rows 6) (1 + W.pick cols 9) l o (min n 60) j_ p_) (1 + W.pick cols 9) (1 + W.pick rows 6)) (W.cA (fun j_ p_ => W.sX (1 + W.pick rows 6) (1 + W.pick cols 9) l2 p (min m 60) j_ p_) (fun j_ p_ => W.sX (1 + W.pick rows 6) (1 + W.pick cols 9) l o (min n 60) j_ p_) (1 + W.pick cols 9) (1 + W.pick rows 6)) (1 + W.pick rows 6)),
      CodeOk Try.prog 200 355 (kAt (kOf Try.prog Try.f3) [true, true, true, true, true, true, true, false, true, false]) (LP0 rows cols l o n l2 p m) (.exit 0) (LPI l n l2 (1 + W.pick rows 6) (1 + W.pick cols 9) (fun j_ p_ => W.sX (1 + W.pick rows 6) (1 + W.pick cols 9) l o (min n 60) j_ p_) (fun j_ p_ => W.sX (1 + W.pick rows 6) (1 + W.pick cols 9) l2 p (min m 60) j_ p_) (W.sRo (1 + W.pick rows 6) l o (min n 60)) (W.sCo (1 + W.pick cols 9) l o (min n 60)) (W.sRo (1 + W.pick rows 6) l2 p (min m 60)) (W.sCo (1 + W.pick cols 9) l2 p (min m 60)) (W.sHi l o (min n 60)) (W.sHi l2 p (min m 60)) (W.runs (fun j_ p_ => W.sX (1 + W.pick rows 6) (1 + W.pick cols 9) l2 p (min m 60) j_ p_) (W.frX (1 + W.pick rows 6) (1 + W.pick cols 9) (fun j_ p_ => W.sX (1 + W.pick rows 6) (1 + W.pick cols 9) l o (min n 60) j_ p_) (1 + W.pick rows 6) (1 + W.pick cols 9)) (1 + W.pick cols 9) (1 + W.pick rows 6)) (W.sN (W.runs (fun j_ p_ => W.sX (1 + W.pick rows 6) (1 + W.pick cols 9) l2 p (min m 60) j_ p_) (W.frX (1 + W.pick rows 6) (1 + W.pick cols 9) (fun j_ p_ => W.sX (1 + W.pick rows 6) (1 + W.pick cols 9) l o (min n 60) j_ p_) (1 + W.pick rows 6) (1 + W.pick cols 9)) (1 + W.pick cols 9) (1 + W.pick rows 6)) (List.length (W.runs (fun j_ p_ => W.sX (1 + W.pick rows 6) (1 + W.pick cols 9) l2 p (min m 60) j_ p_) (W.frX (1 + W.pick rows 6) (1 + W.pick cols 9) (fun j_ p_ => W.sX (1 + W.pick rows 6) (1 + W.pick cols 9) l o (min n 60) j_ p_) (1 + W.pick rows 6) (1 + W.pick cols 9)) (1 + W.pick cols 9) (1 + W.pick rows 6)))) (W.rwS (W.runs (fun j_ p_ => W.sX (1 + W.pick rows 6) (1 + W.pick cols 9) l2 p (min m 60) j_ p_) (W.frX (1 + W.pick rows 6) (1 + W.pick cols 9) (fun j_ p_ => W.sX (1 + W.pick rows 6) (1 + W.pick cols 9) l o (min n 60) j_ p_) (1 + W.pick rows 6) (1 + W.pick cols 9)) (1 + W.pick cols 9) (1 + W.pick rows 6)) (List.length (W.runs (fun j_ p_ => W.sX (1 + W.pick rows 6) (1 + W.pick cols 9) l2 p (min m 60) j_ p_) (W.frX (1 + W.pick rows 6) (1 + W.pick cols 9) (fun j_ p_ => W.sX (1 + W.pick rows 6) (1 + W.pick cols 9) l o (min n 60) j_ p_) (1 + W.pick rows 6) (1 + W.pick cols 9)) (1 + W.pick cols 9) (1 + W.pick rows 6)))) (W.enS (W.runs (fun j_ p_ => W.sX (1 + W.pick rows 6) (1 + W.pick cols 9) l2 p (min m 60) j_ p_) (W.frX (1 + W.pick rows 6) (1 + W.pick cols 9) (fun j_ p_ => W.sX (1 + W.pick rows 6) (1 + W.pick cols 9) l o (min n 60) j_ p_) (1 + W.pick rows 6) (1 + W.pick cols 9)) (1 + W.pick cols 9) (1 + W.pick rows 6)) (List.length (W.runs (fun j_ p_ => W.sX (1 + W.pick rows 6) (1 + W.pick cols 9) l2 p (min m 60) j_ p_) (W.frX (1 + W.pick rows 6) (1 + W.pick cols 9) (fun j_ p_ => W.sX (1 + W.pick rows 6) (1 + W.pick cols 9) l o (min n 60) j_ p_) (1 + W.pick rows 6) (1 + W.pick cols 9)) (1 + W.pick cols 9) (1 + W.pick rows 6)))) (List.length (W.runs (fun j_ p_ => W.sX (1 + W.pick rows 6) (1 + W.pick cols 9) l2 p (min m 60) j_ p_) (W.frX (1 + W.pick rows 6) (1 + W.pick cols 9) (fun j_ p_ => W.sX (1 + W.pick rows 6) (1 + W.pick cols 9) l o (min n 60) j_ p_) (1 + W.pick rows 6) (1 + W.pick cols 9)) (1 + W.pick cols 9) (1 + W.pick rows 6)))),
      Contract Try.prog 11 [(.agg [(.int .i64 (↑(1 + W.pick rows 6))), (.int .i64 (↑(1 + W.pick cols 9))), (.sl 67 0 0 (1 + W.pick rows 6) 1), (.int .i64 (W.sRo (1 + W.pick rows 6) l o (min n 60))), (.int .i64 (W.sCo (1 + W.pick cols 9) l o (min n 60))), (.bool (W.sHi l o (min n 60)))]), (.agg [(.int .i64 (↑(1 + W.pick rows 6))), (.int .i64 (↑(1 + W.pick cols 9))), (.sl 163 0 0 (1 + W.pick rows 6) 1), (.int .i64 (W.sRo (1 + W.pick rows 6) l2 p (min m 60))), (.int .i64 (W.sCo (1 + W.pick cols 9) l2 p (min m 60))), (.bool (W.sHi l2 p (min m 60)))])] [(67, (.one ⟨true, false, (.gen (1 + W.pick rows 6) (fun j_ => (.sl 68 j_ 0 (1 + W.pick cols 9) 4)))⟩)), (163, (.one ⟨true, false, (.gen (1 + W.pick rows 6) (fun j_ => (.sl 164 j_ 0 (1 + W.pick cols 9) 4)))⟩)), (68, (.many (fun j_ => some ⟨true, true, (.ig (W.rl (1 + W.pick rows 6) ((1 + W.pick cols 9) * 4) j_) W.ck (fun p_ => (W.sX (1 + W.pick rows 6) (1 + W.pick cols 9) l o (min n 60) j_ p_)))⟩))), (164, (.many (fun j_ => some ⟨true, true, (.ig (W.rl (1 + W.pick rows 6) ((1 + W.pick cols 9) * 4) j_) W.ck (fun p_ => (W.sX (1 + W.pick rows 6) (1 + W.pick cols 9) l2 p (min m 60) j_ p_)))⟩)))] 243 (.agg [(.int .i64 (↑(1 + W.pick rows 6))), (.int .i64 (↑(1 + W.pick cols 9))), (.int .i64 (W.sRo (1 + W.pick rows 6) l2 p (min m 60))), (.int .i64 (W.sCo (1 + W.pick cols 9) l2 p (min m 60))), (.bool (W.sHi l2 p (min m 60))), (.sl 243 0 0 (List.length (W.runs (fun j_ p_ => W.sX (1 + W.pick rows 6) (1 + W.pick cols 9) l2 p (min m 60) j_ p_) (W.frX (1 + W.pick rows 6) (1 + W.pick cols 9) (fun j_ p_ => W.sX (1 + W.pick rows 6) (1 + W.pick cols 9) l o (min n 60) j_ p_) (1 + W.pick rows 6) (1 + W.pick cols 9)) (1 + W.pick cols 9) (1 + W.pick rows 6))) 3)]) [] [(243, (.one ⟨true, false, (.row (List.length (W.runs (fun j_ p_ => W.sX (1 + W.pick rows 6) (1 + W.pick cols 9) l2 p (min m 60) j_ p_) (W.frX (1 + W.pick rows 6) (1 + W.pick cols 9) (fun j_ p_ => W.sX (1 + W.pick rows 6) (1 + W.pick cols 9) l o (min n 60) j_ p_) (1 + W.pick rows 6) (1 + W.pick cols 9)) (1 + W.pick cols 9) (1 + W.pick rows 6)) * 3) 3 (fun j_ => [(.int .i64 (↑(W.ra (W.runs (fun j_ p_ => W.sX (1 + W.pick rows 6) (1 + W.pick cols 9) l2 p (min m 60) j_ p_) (W.frX (1 + W.pick rows 6) (1 + W.pick cols 9) (fun j_ p_ => W.sX (1 + W.pick rows 6) (1 + W.pick cols 9) l o (min n 60) j_ p_) (1 + W.pick rows 6) (1 + W.pick cols 9)) (1 + W.pick cols 9) (1 + W.pick rows 6)) j_))), (.int .i64 (↑(W.rb (W.runs (fun j_ p_ => W.sX (1 + W.pick rows 6) (1 + W.pick cols 9) l2 p (min m 60) j_ p_) (W.frX (1 + W.pick rows 6) (1 + W.pick cols 9) (fun j_ p_ => W.sX (1 + W.pick rows 6) (1 + W.pick cols 9) l o (min n 60) j_ p_) (1 + W.pick rows 6) (1 + W.pick cols 9)) (1 + W.pick cols 9) (1 + W.pick rows 6)) j_))), (.sl 244 j_ 0 (W.rn (W.runs (fun j_ p_ => W.sX (1 + W.pick rows 6) (1 + W.pick cols 9) l2 p (min m 60) j_ p_) (W.frX (1 + W.pick rows 6) (1 + W.pick cols 9) (fun j_ p_ => W.sX (1 + W.pick rows 6) (1 + W.pick cols 9) l o (min n 60) j_ p_) (1 + W.pick rows 6) (1 + W.pick cols 9)) (1 + W.pick cols 9) (1 + W.pick rows 6)) j_) 4)]))⟩)), (244, (.many (fun j_ => some ⟨true, false, (.ig (W.rn (W.runs (fun j_ p_ => W.sX (1 + W.pick rows 6) (1 + W.pick cols 9) l2 p (min m 60) j_ p_) (W.frX (1 + W.pick rows 6) (1 + W.pick cols 9) (fun j_ p_ => W.sX (1 + W.pick rows 6) (1 + W.pick cols 9) l o (min n 60) j_ p_) (1 + W.pick rows 6) (1 + W.pick cols 9)) (1 + W.pick cols 9) (1 + W.pick rows 6)) j_ * 4) W.ck (fun p_ => (W.sX (1 + W.pick rows 6) (1 + W.pick cols 9) l2 p (min m 60) (W.ra (W.runs (fun j_ p_ => W.sX (1 + W.pick rows 6) (1 + W.pick cols 9) l2 p (min m 60) j_ p_) (W.frX (1 + W.pick rows 6) (1 + W.pick cols 9) (fun j_ p_ => W.sX (1 + W.pick rows 6) (1 + W.pick cols 9) l o (min n 60) j_ p_) (1 + W.pick rows 6) (1 + W.pick cols 9)) (1 + W.pick cols 9) (1 + W.pick rows 6)) j_) (p_ + W.rb (W.runs (fun j_ p_ => W.sX (1 + W.pick rows 6) (1 + W.pick cols 9) l2 p (min m 60) j_ p_) (W.frX (1 + W.pick rows 6) (1 + W.pick cols 9) (fun j_ p_ => W.sX (1 + W.pick rows 6) (1 + W.pick cols 9) l o (min n 60) j_ p_) (1 + W.pick rows 6) (1 + W.pick cols 9)) (1 + W.pick cols 9) (1 + W.pick rows 6)) j_ * 4))))⟩)))],
      Contract Try.prog 10 [(.c (.int .i64 rows)), (.c (.int .i64 cols)), (.c (.sl 2 0 p m 1))] [(2, (.one ⟨false, false, (.ints .i64 l2)⟩))] 163 (.agg [(.int .i64 (↑(1 + W.pick rows 6))), (.int .i64 (↑(1 + W.pick cols 9))), (.sl 163 0 0 (1 + W.pick rows 6) 1), (.int .i64 (W.sRo (1 + W.pick rows 6) l2 p (min m 60))), (.int .i64 (W.sCo (1 + W.pick cols 9) l2 p (min m 60))), (.bool (W.sHi l2 p (min m 60)))]) [] [(163, (.one ⟨true, false, (.gen (1 + W.pick rows 6) (fun j_ => (.sl 164 j_ 0 (1 + W.pick cols 9) 4)))⟩)), (164, (.many (fun j_ => some ⟨true, true, (.ig (W.rl (1 + W.pick rows 6) ((1 + W.pick cols 9) * 4) j_) W.ck (fun p_ => (W.sX (1 + W.pick rows 6) (1 + W.pick cols 9) l2 p (min m 60) j_ p_)))⟩)))],
      Contract Try.prog 10 [(.c (.int .i64 rows)), (.c (.int .i64 cols)), (.c (.sl 1 0 o n 1))] [(1, (.one ⟨false, false, (.ints .i64 l)⟩))] 67 (.agg [(.int .i64 (↑(1 + W.pick rows 6))), (.int .i64 (↑(1 + W.pick cols 9))), (.sl 67 0 0 (1 + W.pick rows 6) 1), (.int .i64 (W.sRo (1 + W.pick rows 6) l o (min n 60))), (.int .i64 (W.sCo (1 + W.pick cols 9) l o (min n 60))), (.bool (W.sHi l o (min n 60)))]) [] [(67, (.one ⟨true, false, (.gen (1 + W.pick rows 6) (fun j_ => (.sl 68 j_ 0 (1 + W.pick cols 9) 4)))⟩)), (68, (.many (fun j_ => some ⟨true, true, (.ig (W.rl (1 + W.pick rows 6) ((1 + W.pick cols 9) * 4) j_) W.ck (fun p_ => (W.sX (1 + W.pick rows 6) (1 + W.pick cols 9) l o (min n 60) j_ p_)))⟩)))]] mixed Try.func3 (by kernel_rfl) ⟨.mk (beq_t (by omega)), Contract0.in1 known25 [] [] [] [] (by kernel_rfl), (least_rows rows cols l o n l2 p m (by omega) (by omega) (by omega) (by omega) (by omega) (by omega) (by omega) (by omega) (by omega) (by omega)), (least_runs2 rows cols l o n l2 p m (by omega) (by omega) (by omega) (by omega) (by omega) (by omega) (by omega) (by omega) (by omega) (by omega)), Contract0.in1 (diff_ok (1 + W.pick rows 6) (1 + W.pick cols 9) (fun j_ p_ => W.sX (1 + W.pick rows 6) (1 + W.pick cols 9) l o (min n 60) j_ p_) (W.sRo (1 + W.pick rows 6) l o (min n 60)) (W.sCo (1 + W.pick cols 9) l o (min n 60)) (W.sHi l o (min n 60)) (1 + W.pick rows 6) (1 + W.pick cols 9) (fun j_ p_ => W.sX (1 + W.pick rows 6) (1 + W.pick cols 9) l2 p (min m 60) j_ p_) (W.sRo (1 + W.pick rows 6) l2 p (min m 60)) (W.sCo (1 + W.pick cols 9) l2 p (min m 60)) (W.sHi l2 p (min m 60)) (by omega) (by omega) (by exact W.sRo_b (by omega) _) (by exact W.sCo_b (by omega) _) (by exact fun j _ => W.sX_ok _ j) (by omega) (by omega) (by exact W.sRo_b (by omega) _) (by exact W.sCo_b (by omega) _) (by exact fun j _ => W.sX_ok _ j)) [.b 67 1 true [], .b 68 2 true [], .b 163 3 true [], .b 164 4 true []] [none, none] [(5, 243), (6, 244)] [] (by kernel_rfl), Contract0.in1 (scr_ok rows cols l2 p m (by omega) (by omega) (by omega) (by omega) (by omega) (by omega) (by omega)) [.b 2 1 true []] [none, none, none] [(2, 163), (3, 164)] [] (by kernel_rfl), Contract0.in1 (scr_ok rows cols l o n (by omega) (by omega) (by omega) (by omega) (by omega) (by omega) (by omega)) [.b 1 1 true []] [none, none, none] [(2, 67), (3, 68)] [] (by kernel_rfl), trivial⟩
end Go.Proofs.Ytohleiikedpmkaa.Vm

namespace Go.Proofs.Ytohleiikedpmkaa.Vm
open Go Go.Proofs Go.Proofs.Ytohleiikedpmkaa
theorem renderLeast_law (rows : Int) (hr : -9223372036854775808 ≤ rows ∧ rows < 9223372036854775808) (cols : Int) (hc : -9223372036854775808 ≤ cols ∧ cols < 9223372036854775808)
    (l : List Int) (n : Nat) (hl : 0 + n ≤ l.length) (hlb : ∀ j, -9223372036854775808 ≤ List.getD l j 0 ∧ List.getD l j 0 < 9223372036854775808) (hs : l.length ≤ 1048576)
    (l2 : List Int) (m : Nat) (hl2 : 0 + m ≤ l2.length) (hlb2 : ∀ j, -9223372036854775808 ≤ List.getD l2 j 0 ∧ List.getD l2 j 0 < 9223372036854775808) (hs2 : l2.length ≤ 1048576) :
    Contract0 Try.prog 3 [(.c (.int .i64 rows)), (.c (.int .i64 cols)), (.c (.sl 1 0 0 n 1)), (.c (.sl 2 0 0 m 1))] (memL [(.i64, l), (.i64, l2)] 1) 3 (.c (.bool true)) [] [] :=
  renderLeast_run rows cols l 0 n l2 0 m hr hc hl (by omega) hl2 (by omega) (Int.ofNat_lt.1 (W.pick_lt (by decide))) (Int.ofNat_lt.1 (W.pick_lt (by decide))) hlb hlb2
end Go.Proofs.Ytohleiikedpmkaa.Vm
