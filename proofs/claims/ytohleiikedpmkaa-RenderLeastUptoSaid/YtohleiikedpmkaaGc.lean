/- What functions of the program come to: parts of the walk (Gc). -/
import Derived.Test.YtohleiikedpmkaaGb
import Derived.Test.YtohleiikedpmkaaKa
import Derived.KernelRfl
import Derived.Test.YtohleiikedpmkaaProg
set_option linter.unusedSimpArgs false
set_option linter.unusedVariables false
namespace Go.Proofs.Ytohleiikedpmkaa.W
def okC (a b c d : Int) : Prop := 32 ≤ a ∧ a ≤ 1114111 ∧ ¬ a = 127 ∧ (a < 55296 ∨ 57343 < a) ∧ 0 ≤ b ∧ b ≤ 8 ∧ 0 ≤ c ∧ c ≤ 8 ∧ 0 ≤ d ∧ d ≤ 7
def okRow (X : Nat → Int) (n : Nat) : Prop := ∀ k, k < n → okC (X (k * 4)) (X (k * 4 + 1)) (X (k * 4 + 2)) (X (k * 4 + 3))
end Go.Proofs.Ytohleiikedpmkaa.W

namespace Go.Proofs.Ytohleiikedpmkaa.Vm
open Go Go.Proofs Go.Proofs.Ytohleiikedpmkaa
set_option maxRecDepth 100000
theorem cell_ok_t (a b c d : Int)
    (h : 32 ≤ a ∧ a ≤ 1114111 ∧ ¬ a = 127 ∧ (a < 55296 ∨ 57343 < a) ∧ 0 ≤ b ∧ b ≤ 8 ∧ 0 ≤ c ∧ c ≤ 8 ∧ 0 ≤ d ∧ d ≤ 7)
    (h0 : (a < (55296 : Int))) :
    PureF Try.prog 50 [(.agg [(.int .i32 a), (.int .i64 b), (.int .i64 c), (.int .i64 d)])] (.c (.bool (true))) :=
  Contract0.fr 300 [(4, ⟨.auto, some (.c (.bool (true)))⟩), (8, ⟨.auto, some (.c (.bool (true)))⟩), (13, ⟨.auto, some (.c (.bool (true)))⟩), (19, ⟨.auto, some (.c (.bool (true)))⟩), (28, ⟨.auto, some (.c (.bool (true)))⟩), (33, ⟨.auto, some (.c (.bool (true)))⟩), (38, ⟨.auto, some (.c (.bool (true)))⟩), (43, ⟨.auto, some (.c (.bool (true)))⟩), (48, ⟨.auto, some (.c (.bool (true)))⟩), (53, ⟨.auto, some (.c (.bool (true)))⟩)] [] [EB (decide (d ≤ 7)) true,
      EB (decide (d ≥ 0)) true,
      EB (decide (c ≤ 8)) true,
      EB (decide (c ≥ 0)) true,
      EB (decide (b ≤ 8)) true,
      EB (decide (b ≥ 0)) true,
      EB (decide (a < 55296)) true,
      EB (a != 127) true,
      EB (decide (a ≤ 1114111)) true,
      EB (decide (a ≥ 32)) true] mixed Try.func50 (by kernel_rfl) ⟨.mk (decide_eq_true (by omega)), .mk (decide_eq_true (by omega)), .mk (decide_eq_true (by omega)), .mk (decide_eq_true (by omega)), .mk (decide_eq_true (by omega)), .mk (decide_eq_true (by omega)), .mk (decide_eq_true h0), .mk (bne_t (by omega)), .mk (decide_eq_true (by omega)), .mk (decide_eq_true (by omega)), trivial⟩
theorem cell_ok_f (a b c d : Int)
    (h : 32 ≤ a ∧ a ≤ 1114111 ∧ ¬ a = 127 ∧ (a < 55296 ∨ 57343 < a) ∧ 0 ≤ b ∧ b ≤ 8 ∧ 0 ≤ c ∧ c ≤ 8 ∧ 0 ≤ d ∧ d ≤ 7)
    (h0 : (¬a < (55296 : Int))) :
    PureF Try.prog 50 [(.agg [(.int .i32 a), (.int .i64 b), (.int .i64 c), (.int .i64 d)])] (.c (.bool (true))) :=
  Contract0.fr 300 [(4, ⟨.auto, some (.c (.bool (true)))⟩), (8, ⟨.auto, some (.c (.bool (true)))⟩), (13, ⟨.auto, some (.c (.bool (true)))⟩), (19, ⟨.auto, some (.c (.bool (false)))⟩), (22, ⟨.auto, some (.c (.bool (true)))⟩), (28, ⟨.auto, some (.c (.bool (true)))⟩), (33, ⟨.auto, some (.c (.bool (true)))⟩), (38, ⟨.auto, some (.c (.bool (true)))⟩), (43, ⟨.auto, some (.c (.bool (true)))⟩), (48, ⟨.auto, some (.c (.bool (true)))⟩), (53, ⟨.auto, some (.c (.bool (true)))⟩)] [] [EB (decide (d ≤ 7)) true,
      EB (decide (d ≥ 0)) true,
      EB (decide (c ≤ 8)) true,
      EB (decide (c ≥ 0)) true,
      EB (decide (b ≤ 8)) true,
      EB (decide (b ≥ 0)) true,
      EB (decide (a > 57343)) true,
      EB (decide (a < 55296)) false,
      EB (a != 127) true,
      EB (decide (a ≤ 1114111)) true,
      EB (decide (a ≥ 32)) true] mixed Try.func50 (by kernel_rfl) ⟨.mk (decide_eq_true (by omega)), .mk (decide_eq_true (by omega)), .mk (decide_eq_true (by omega)), .mk (decide_eq_true (by omega)), .mk (decide_eq_true (by omega)), .mk (decide_eq_true (by omega)), .mk (decide_eq_true (by omega)), .mk (decide_eq_false h0), .mk (bne_t (by omega)), .mk (decide_eq_true (by omega)), .mk (decide_eq_true (by omega)), trivial⟩
theorem size_ok (r c a b : Int)
    (h0 : 1 ≤ r ∧ r ≤ 60)
    (h1 : 1 ≤ c ∧ c ≤ 120)
    (h2 : 0 ≤ a ∧ a < r)
    (h3 : 0 ≤ b ∧ b < c) :
    PureF Try.prog 32 [(.c (.int .i64 r)), (.c (.int .i64 c)), (.c (.int .i64 a)), (.c (.int .i64 b))] (.c (.bool (true))) :=
  Contract0.fr 300 [(2, ⟨.auto, some (.c (.bool (true)))⟩), (5, ⟨.auto, some (.c (.bool (true)))⟩), (9, ⟨.auto, some (.c (.bool (true)))⟩), (13, ⟨.auto, some (.c (.bool (true)))⟩), (17, ⟨.auto, some (.c (.bool (true)))⟩), (22, ⟨.auto, some (.c (.bool (true)))⟩), (26, ⟨.auto, some (.c (.bool (true)))⟩), (31, ⟨.auto, some (.c (.bool (true)))⟩)] [] [EB (decide (b < c)) true,
      EB (decide (b ≥ 0)) true,
      EB (decide (a < r)) true,
      EB (decide (a ≥ 0)) true,
      EB (decide (c ≤ 120)) true,
      EB (decide (c ≥ 1)) true,
      EB (decide (r ≤ 60)) true,
      EB (decide (r ≥ 1)) true] mixed Try.func32 (by kernel_rfl) ⟨.mk (decide_eq_true (by omega)), .mk (decide_eq_true (by omega)), .mk (decide_eq_true (by omega)), .mk (decide_eq_true (by omega)), .mk (decide_eq_true (by omega)), .mk (decide_eq_true (by omega)), .mk (decide_eq_true (by omega)), .mk (decide_eq_true (by omega)), trivial⟩
end Go.Proofs.Ytohleiikedpmkaa.Vm

namespace Go.Proofs.Ytohleiikedpmkaa.Vm
open Go Go.Proofs Go.Proofs.Ytohleiikedpmkaa
theorem cell_ok (a b c d : Int) (h : 32 ≤ a ∧ a ≤ 1114111 ∧ ¬ a = 127 ∧ (a < 55296 ∨ 57343 < a) ∧ 0 ≤ b ∧ b ≤ 8 ∧ 0 ≤ c ∧ c ≤ 8 ∧ 0 ≤ d ∧ d ≤ 7) : PureF Try.prog 50 [(.agg [(.int .i32 a), (.int .i64 b), (.int .i64 c), (.int .i64 d)])] (.c (.bool true)) := by
  by_cases h0 : a < 55296
  · exact cell_ok_t a b c d h h0
  · exact cell_ok_f a b c d h h0
end Go.Proofs.Ytohleiikedpmkaa.Vm

namespace Go.Proofs.Ytohleiikedpmkaa.Vm
open Go Go.Proofs Go.Proofs.Ytohleiikedpmkaa
set_option maxRecDepth 100000
theorem cel_ok (a b c d : Int)
    (h : 32 ≤ a ∧ a ≤ 1114111 ∧ ¬ a = 127 ∧ (a < 55296 ∨ 57343 < a) ∧ 0 ≤ b ∧ b ≤ 8 ∧ 0 ≤ c ∧ c ≤ 8 ∧ 0 ≤ d ∧ d ≤ 7) :
    PureF Try.prog 49 [(.agg [(.int .i32 a), (.int .i64 b), (.int .i64 c), (.int .i64 d)])] (.c (.bool (false))) :=
  Contract0.fr 300 [(3, ⟨.call [] (.c (.bool (true))) [] [], none⟩)] [] [Contract Try.prog 50 [(.agg [(.int .i32 a), (.int .i64 b), (.int .i64 c), (.int .i64 d)])] [] 49 (.c (.bool (true))) [] []] mixed Try.func49 (by kernel_rfl) ⟨Contract0.in1 (cell_ok a b c d (by omega)) [] [none] [] [] (by kernel_rfl), trivial⟩
end Go.Proofs.Ytohleiikedpmkaa.Vm

namespace Go.Proofs.Ytohleiikedpmkaa.Vm
open Go Go.Proofs Go.Proofs.Ytohleiikedpmkaa
set_option maxRecDepth 100000
def LDI (X : Nat → Int) (n N i : Nat) : S0 :=
  ⟨[(0, (.c (.sl 1 0 0 n 4))), (1, (.c (.fn 49 []))), (7, (.c (.int .i64 (↑n)))), (4, (.c (.int .i64 0))), (8, (.c (.int .i64 (i : Int))))], [(1, (.one ⟨false, false, (.ig N W.ck X)⟩))], 66⟩
theorem LD_by {α : Type} (I : α → S0) (Inv : α → Prop) (μ : α → Nat) {ex : Ex} {s' : S0} (hex : ex ≠ .normal)
    (step : ∀ x, Inv x → (∃ y, Inv y ∧ μ y < μ x ∧ CodeOk Try.prog 19 66 (kAt (kOf Try.prog Try.f54) [true, false, true, false, false]) (I x) .normal (I y)) ∨ CodeOk Try.prog 19 66 (kAt (kOf Try.prog Try.f54) [true, false, true, false, false]) (I x) ex s') (x : α) (hx : Inv x) :
    CodeOk Try.prog 19 66 (kAt (kOf Try.prog Try.f54) [true, false, true, false]) (I x) ex s' := by
  have hk : (kAt (kOf Try.prog Try.f54) [true, false, true, false]) = .loop (kAt (kOf Try.prog Try.f54) [true, false, true, false, false]) := by kernel_rfl
  rw [hk]
  exact CodeOk.loop I Inv μ hex step x hx
def LD0 (X : Nat → Int) (n N : Nat) : S0 :=
  ⟨[(0, (.c (.sl 1 0 0 n 4))), (1, (.c (.fn 49 []))), (7, (.c (.int .i64 (↑n)))), (4, (.c (.int .i64 0))), (8, (.c (.int .i64 0)))], [(1, (.one ⟨false, false, (.ig N W.ck X)⟩))], 66⟩
theorem LD_rt (X : Nat → Int) (n N i : Nat)
    (hN : n * 4 ≤ N)
    (hn : n ≤ 1048576)
    (hok : W.okRow X n)
    (hi : i ≤ n)
    (h0 : ((↑i : Int) < (↑n : Int))) :
    CodeOk Try.prog 19 66 (kAt (kOf Try.prog Try.f54) [true, false, true, false, false]) (LDI X n N i) .normal (LDI X n N (i + 1)) :=
  CodeOk.of_runs (fuel := 300) (v := ⟨[0, 1, 7, 4, 8], [1], [], 66⟩) (hs := [(0, ⟨.auto, some (.c (.bool (true)))⟩), (7, ⟨.ask, none⟩), (8, ⟨.ask, some (.agg [(.int .i32 (X (i * 4))), (.int .i64 (X (i * 4 + 1))), (.int .i64 (X (i * 4 + 2))), (.int .i64 (X (i * 4 + 3)))])⟩), (9, ⟨.call [] (.c (.bool (false))) [] [], none⟩), (11, ⟨.auto, some (.c (.int .i64 (↑(i + 1))))⟩)])
    (cs := [EI .i64 (IntKind.wrap IntKind.i64 ((↑i : Int) + 1)) ((↑(i + 1) : Int)),
      Contract Try.prog 49 [(.agg [(.int .i32 (X (i * 4))), (.int .i64 (X (i * 4 + 1))), (.int .i64 (X (i * 4 + 2))), (.int .i64 (X (i * 4 + 3)))])] [] 194 (.c (.bool (false))) [] [],
      ((.agg ((List.range 4).map (fun p_ => .int (W.ck (p_ + i * 4)) (X (p_ + i * 4))))) : V) = (.agg [(.int .i32 (X (i * 4))), (.int .i64 (X (i * 4 + 1))), (.int .i64 (X (i * 4 + 2))), (.int .i64 (X (i * 4 + 3)))]),
      (i * (4 : Nat) + (4 : Nat) ≤ N),
      ((0 : Int) ≤ (↑i : Int) ∧ (↑i : Int) < (↑n : Int)),
      EB (decide ((↑i : Int) < (↑n : Int))) true])
    mixed (by kernel_rfl) ⟨.mk (by simp only [addO_eq, mulE_eq, mulE_one, Int.toNat_natCast, IntKind.wrap_i64, mmin, mmax]; omega), Contract0.in1 (cel_ok (X (i * 4)) (X (i * 4 + 1)) (X (i * 4 + 2)) (X (i * 4 + 3)) (by exact hok _ (by omega))) [] [none] [] [] (by kernel_rfl), EV.ck4 (g := (fun p_ => (X p_))) (o := (i * 4)) (by omega) (by omega), (by omega), (by omega), .mk (decide_eq_true h0), trivial⟩
theorem LD_xf (X : Nat → Int) (n N i : Nat)
    (hN : n * 4 ≤ N)
    (hn : n ≤ 1048576)
    (hok : W.okRow X n)
    (hi : i ≤ n)
    (h0 : (¬(↑i : Int) < (↑n : Int))) :
    CodeOk Try.prog 19 66 (kAt (kOf Try.prog Try.f54) [true, false, true, false, false]) (LDI X n N i) (.exit 0) (LDI X n N i) :=
  CodeOk.of_runs (fuel := 300) (v := ⟨[0, 1, 7, 4, 8], [1], [], 66⟩) (hs := [(0, ⟨.auto, some (.c (.bool (false)))⟩)])
    (cs := [EB (decide ((↑i : Int) < (↑n : Int))) false])
    mixed (by kernel_rfl) ⟨.mk (decide_eq_false h0), trivial⟩
end Go.Proofs.Ytohleiikedpmkaa.Vm

namespace Go.Proofs.Ytohleiikedpmkaa.Vm
open Go Go.Proofs Go.Proofs.Ytohleiikedpmkaa
theorem idx_loop (X : Nat → Int) (n N : Nat) (hN : n * 4 ≤ N) (hn : n ≤ 1048576) (hok : W.okRow X n) : CodeOk Try.prog 19 66 (kAt (kOf Try.prog Try.f54) [true, false, true, false]) (LD0 X n N) (.exit 0) (LDI X n N n) := by
  refine LD_by (fun i => LDI X n N i) (fun i => i ≤ n) (fun i => n - i) (by simp) ?_ 0 (Nat.zero_le _)
  intro i hi
  by_cases h0 : (i : Int) < (n : Int)
  · exact .inl ⟨i + 1, by omega, by omega, LD_rt X n N i hN hn hok hi h0⟩
  · have e : i = n := by omega
    subst e
    exact .inr (LD_xf X i N i hN hn hok hi h0)
end Go.Proofs.Ytohleiikedpmkaa.Vm

namespace Go.Proofs.Ytohleiikedpmkaa.Vm
open Go Go.Proofs Go.Proofs.Ytohleiikedpmkaa
set_option maxRecDepth 100000
theorem idx_ok (X : Nat → Int) (n N : Nat)
    (hN : n * 4 ≤ N)
    (hn : n ≤ 1048576)
    (hok : W.okRow X n) :
    Contract0 Try.prog 54 [(.c (.sl 1 0 0 n 4)), (.c (.fn 49 []))] [(1, (.one ⟨false, false, (.ig N W.ck X)⟩))] 2 (.c (.int .i64 (-1))) [] [] :=
  Contract0.fr 300 [(4, ⟨.sum ⟨[0, 1, 7, 4, 8], [1], [], 66⟩ (.exit 0) (LDI X n N n), none⟩)] [] [CodeOk Try.prog 19 66 (kAt (kOf Try.prog Try.f54) [true, false, true, false]) (LD0 X n N) (.exit 0) (LDI X n N n)] mixed Try.func54 (by kernel_rfl) ⟨(idx_loop X n N (by omega) (by omega) (by omega)), trivial⟩
end Go.Proofs.Ytohleiikedpmkaa.Vm

namespace Go.Proofs.Ytohleiikedpmkaa.Vm
open Go Go.Proofs Go.Proofs.Ytohleiikedpmkaa
set_option maxRecDepth 100000
theorem cont_ok (X : Nat → Int) (n N : Nat)
    (hN : n * 4 ≤ N)
    (hn : n ≤ 1048576)
    (hok : W.okRow X n) :
    Contract0 Try.prog 48 [(.c (.sl 1 0 0 n 4)), (.c (.fn 49 []))] [(1, (.one ⟨false, false, (.ig N W.ck X)⟩))] 2 (.c (.bool (false))) [] [] :=
  Contract0.fr 300 [(3, ⟨.call [1] (.c (.int .i64 (-1))) [] [], none⟩)] [] [Contract Try.prog 54 [(.c (.sl 1 0 0 n 4)), (.c (.fn 49 []))] [(1, (.one ⟨false, false, (.ig N W.ck X)⟩))] 50 (.c (.int .i64 (-1))) [] []] mixed Try.func48 (by kernel_rfl) ⟨Contract0.in1 (idx_ok X n N (by omega) (by omega) (by omega)) [.b 1 1 true []] [none, none] [] [] (by kernel_rfl), trivial⟩
end Go.Proofs.Ytohleiikedpmkaa.Vm

namespace Go.Proofs.Ytohleiikedpmkaa.Vm
open Go Go.Proofs Go.Proofs.Ytohleiikedpmkaa
set_option maxRecDepth 100000
theorem cells_ok (X : Nat → Int) (n N : Nat)
    (hN : n * 4 ≤ N)
    (hn : n ≤ 1048576)
    (hok : W.okRow X n) :
    Contract0 Try.prog 33 [(.c (.sl 1 0 0 n 4))] [(1, (.one ⟨false, false, (.ig N W.ck X)⟩))] 2 (.c (.bool (true))) [] [] :=
  Contract0.fr 300 [(2, ⟨.call [1] (.c (.bool (false))) [] [], none⟩)] [] [Contract Try.prog 48 [(.c (.sl 1 0 0 n 4)), (.c (.fn 49 []))] [(1, (.one ⟨false, false, (.ig N W.ck X)⟩))] 34 (.c (.bool (false))) [] []] mixed Try.func33 (by kernel_rfl) ⟨Contract0.in1 (cont_ok X n N (by omega) (by omega) (by omega)) [.b 1 1 true []] [none, none] [] [] (by kernel_rfl), trivial⟩
end Go.Proofs.Ytohleiikedpmkaa.Vm
