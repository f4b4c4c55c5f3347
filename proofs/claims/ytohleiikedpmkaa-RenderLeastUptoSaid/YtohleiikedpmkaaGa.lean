/- What functions of the program come to: parts of the walk (Ga). -/
import Derived.Test.YtohleiikedpmkaaWd
import Derived.Test.YtohleiikedpmkaaVmc
import Derived.KernelRfl
import Derived.Test.YtohleiikedpmkaaProg
import Derived.Test.YtohleiikedpmkaaVmb
set_option linter.unusedSimpArgs false
set_option linter.unusedVariables false
namespace Go.Proofs.Ytohleiikedpmkaa.Vm
open Go Go.Proofs Go.Proofs.Ytohleiikedpmkaa
set_option maxRecDepth 100000
theorem mul64 (n : Nat) (x0 : Int)
    (hn : n ≤ 4096)
    (ha : bAnd IntKind.u64 (n : Int) 4294967295 = (n : Int))
    (h1 : ((↑(n / 4294967296 / 4294967296) : Int) + (bAnd IntKind.u64 (↑(n / 4294967296) : Int) 4294967295 + (↑(n / 4294967296) : Int)) % 18446744073709551616 / 4294967296) = x0) :
    PureF Try.prog 56 [(.c (.int .u64 1)), (.c (.int .u64 (↑n)))] (.tup [(.c (.int .u64 x0)), (.c (.int .u64 (↑n)))]) :=
  Contract0.fr 300 [(9, ⟨.auto, some (.c (.int .u64 (↑n)))⟩), (16, ⟨.auto, some (.c (.int .u64 (↑n)))⟩), (20, ⟨.auto, some (.c (.int .u64 0))⟩), (23, ⟨.auto, some (.c (.int .u64 (↑(n / 4294967296))))⟩), (34, ⟨.auto, some (.c (.int .u64 (↑(n / 4294967296))))⟩), (39, ⟨.auto, some (.c (.int .u64 0))⟩), (41, ⟨.auto, some (.c (.int .u64 (↑(n / 4294967296 / 4294967296))))⟩), (44, ⟨.auto, some (.c (.int .u64 (↑(n / 4294967296 / 4294967296) + (bAnd IntKind.u64 (↑(n / 4294967296)) 4294967295 + ↑(n / 4294967296)) % 18446744073709551616 / 4294967296)))⟩), (45, ⟨.auto, some (.c (.int .u64 x0))⟩), (48, ⟨.auto, some (.c (.int .u64 (↑n)))⟩)] [] [EI .u64 (1 * (↑n : Int) % 18446744073709551616) ((↑n : Int)),
      EI .u64 ((↑(n / 4294967296 / 4294967296) : Int) + (bAnd IntKind.u64 (↑(n / 4294967296) : Int) 4294967295 + (↑(n / 4294967296) : Int)) % 18446744073709551616 / 4294967296) x0,
      EI .u64 (((↑(n / 4294967296 / 4294967296) : Int) + (bAnd IntKind.u64 (↑(n / 4294967296) : Int) 4294967295 + (↑(n / 4294967296) : Int)) % 18446744073709551616 / 4294967296) % 18446744073709551616) ((↑(n / 4294967296 / 4294967296) : Int) + (bAnd IntKind.u64 (↑(n / 4294967296) : Int) 4294967295 + (↑(n / 4294967296) : Int)) % 18446744073709551616 / 4294967296),
      EI .u64 ((0 + (↑(n / 4294967296 / 4294967296) : Int)) % 18446744073709551616) ((↑(n / 4294967296 / 4294967296) : Int)),
      EI .u64 (0 * (↑(n / 4294967296) : Int) % 18446744073709551616) 0,
      EI .u64 (1 * (↑(n / 4294967296) : Int) % 18446744073709551616) ((↑(n / 4294967296) : Int)),
      EI .u64 ((0 + (↑(n / 4294967296) : Int)) % 18446744073709551616) ((↑(n / 4294967296) : Int)),
      EI .u64 (0 * (↑n : Int) % 18446744073709551616) 0,
      EI .u64 (1 * (↑n : Int) % 18446744073709551616) ((↑n : Int)),
      EI .u64 (bAnd IntKind.u64 (↑n : Int) 4294967295) ((↑n : Int))] mixed Try.func56 (by kernel_rfl) ⟨.mk (by omega), .mk h1, .mk (by omega), .mk (by omega), .mk (by omega), .mk (by omega), .mk (by omega), .mk (by omega), .mk (by omega), .mk (by omega), trivial⟩
end Go.Proofs.Ytohleiikedpmkaa.Vm

namespace Go.Proofs.Ytohleiikedpmkaa.Vm
open Go Go.Proofs Go.Proofs.Ytohleiikedpmkaa
theorem and32 : ∀ n : Nat, n < 4097 → bAnd IntKind.u64 (n : Int) 4294967295 = (n : Int) := by
  intro n hn
  rw [bAnd64 (by omega) (by omega) (by omega) (by omega)]
  have h := Nat.and_two_pow_sub_one_eq_mod n 32
  have e : ((n : Int).toNat &&& (4294967295 : Int).toNat) = n % 4294967296 := h
  rw [e]; omega
theorem mul64_ok (n : Nat) (h0_ : n ≤ 4096) : PureF Try.prog 56 [(.c (.int .u64 1)), (.c (.int .u64 (n : Int)))] (.tup [(.c (.int .u64 0)), (.c (.int .u64 (n : Int)))]) := by
  refine mul64 n 0 h0_ (and32 n (by omega)) ?_
  have e : n / 4294967296 = 0 := by omega
  rw [e]
  decide +kernel
end Go.Proofs.Ytohleiikedpmkaa.Vm

namespace Go.Proofs.Ytohleiikedpmkaa.Vm
open Go Go.Proofs Go.Proofs.Ytohleiikedpmkaa
set_option maxRecDepth 100000
theorem mul_ (n : Nat)
    (hn : n ≤ 4096) :
    PureF Try.prog 51 [(.c (.int .u64 1)), (.c (.int .u64 (↑n)))] (.tup [(.c (.int .u64 0)), (.c (.int .u64 (↑n)))]) :=
  Contract0.fr 300 [(5, ⟨.call [] (.tup [(.c (.int .u64 0)), (.c (.int .u64 (↑n)))]) [] [], none⟩)] [] [Contract Try.prog 56 [(.c (.int .u64 1)), (.c (.int .u64 (↑n)))] [] 65 (.tup [(.c (.int .u64 0)), (.c (.int .u64 (↑n)))]) [] []] mixed Try.func51 (by kernel_rfl) ⟨Contract0.in1 (mul64_ok n (by omega)) [] [none, none] [] [] (by kernel_rfl), trivial⟩
end Go.Proofs.Ytohleiikedpmkaa.Vm

namespace Go.Proofs.Ytohleiikedpmkaa.Vm
open Go Go.Proofs Go.Proofs.Ytohleiikedpmkaa
set_option maxRecDepth 100000
def LRI (m c : Nat) : S0 :=
  ⟨[(4, (.c .nils)), (7, (.c (.sl 354 0 0 (m + 1) 4))), (8, (.c (.int .i64 (c : Int))))], [(1, (.one ⟨false, false, (.cells [(.int .i32 32), (.int .i64 0), (.int .i64 0), (.int .i64 0)])⟩)), (354, (.one ⟨true, true, .ig ((m + 1) * 4) W.ck (W.rep c)⟩))], 466⟩
theorem LR_by {α : Type} (I : α → S0) (Inv : α → Prop) (μ : α → Nat) {ex : Ex} {s' : S0} (hex : ex ≠ .normal)
    (step : ∀ x, Inv x → (∃ y, Inv y ∧ μ y < μ x ∧ CodeOk Try.prog 48 450 (kAt (kOf Try.prog Try.f39) [true, true, true, true, true, true, false, false, false]) (I x) .normal (I y)) ∨ CodeOk Try.prog 48 450 (kAt (kOf Try.prog Try.f39) [true, true, true, true, true, true, false, false, false]) (I x) ex s') (x : α) (hx : Inv x) :
    CodeOk Try.prog 48 450 (kAt (kOf Try.prog Try.f39) [true, true, true, true, true, true, false, false]) (I x) ex s' := by
  have hk : (kAt (kOf Try.prog Try.f39) [true, true, true, true, true, true, false, false]) = .loop (kAt (kOf Try.prog Try.f39) [true, true, true, true, true, true, false, false, false]) := by kernel_rfl
  rw [hk]
  exact CodeOk.loop I Inv μ hex step x hx
def LR0 (m : Nat) : S0 :=
  ⟨[(4, (.c .nils)), (7, (.c (.sl 354 0 0 (m + 1) 4))), (8, (.c (.int .i64 1)))], [(1, (.one ⟨false, false, (.cells [(.int .i32 32), (.int .i64 0), (.int .i64 0), (.int .i64 0)])⟩)), (354, (.one ⟨true, true, (.ig ((m + 1) * 4) (fun p_ => (bif inR 0 4 p_ then igK [(IntKind.i32, 32), (IntKind.i64, 0), (IntKind.i64, 0), (IntKind.i64, 0)] (p_ - 0) else igK [(IntKind.i32, 0), (IntKind.i64, 0), (IntKind.i64, 0), (IntKind.i64, 0)] (p_ % 4))) (fun p_ => (bif inR 0 4 p_ then igG [(IntKind.i32, 32), (IntKind.i64, 0), (IntKind.i64, 0), (IntKind.i64, 0)] (p_ - 0) else igG [(IntKind.i32, 0), (IntKind.i64, 0), (IntKind.i64, 0), (IntKind.i64, 0)] (p_ % 4))))⟩))], 450⟩
theorem LR_rt (m c : Nat)
    (hn : m ≤ 119)
    (hc : 1 ≤ c ∧ c ≤ m + 1)
    (h0 : ((↑c : Int) < (↑(m + (1 : Nat)) : Int))) :
    CodeOk Try.prog 48 450 (kAt (kOf Try.prog Try.f39) [true, true, true, true, true, true, false, false, false]) (LRI m c) .normal ⟨[(4, (.c .nils)), (7, (.c (.sl 354 0 0 (m + 1) 4))), (8, (.c (.int .i64 (↑(c + min c (m + 1 - c))))))], [(1, (.one ⟨false, false, (.cells [(.int .i32 32), (.int .i64 0), (.int .i64 0), (.int .i64 0)])⟩)), (354, (.one ⟨true, true, (.ig ((m + 1) * 4) (fun p_ => (bif inR (c * 4) (min c (m + 1 - c) * 4) p_ then W.ck (p_ - c * 4 + 0 + 0) else W.ck p_)) (fun p_ => (bif inR (c * 4) (min c (m + 1 - c) * 4) p_ then W.rep c (p_ - c * 4 + 0 + 0) else W.rep c p_)))⟩))], 466⟩ :=
  CodeOk.of_runs (fuel := 300) (v := ⟨[4, 7, 8], [1, 354], [], 466⟩) (hs := [(3, ⟨.auto, some (.c (.bool (true)))⟩), (8, ⟨.ask, some (.c (.sl 354 0 (c * 4) (m + 1 - c) 4))⟩), (11, ⟨.ask, none⟩), (12, ⟨.ask, none⟩), (13, ⟨.auto, some (.c (.int .i64 (↑(c + min c (m + 1 - c)))))⟩)])
    (cs := [EI .i64 (IntKind.wrap IntKind.i64 ((↑c : Int) + (↑(min c (m + 1 - c)) : Int))) ((↑(c + min c (m + 1 - c)) : Int)),
      ((0 : Nat) + c * (4 : Nat) ≤ (m + (1 : Nat)) * (4 : Nat) ∧ c * (4 : Nat) + (m + (1 : Nat) - c) * (4 : Nat) ≤ (m + (1 : Nat)) * (4 : Nat)),
      ((0 : Int) ≤ (0 : Int) ∧ (0 : Int) ≤ (↑c : Int) ∧ (↑c : Int) ≤ (↑(m + (1 : Nat)) : Int)),
      ((.c (.sl 354 0 (addO 0 (mulE c 4)) (Int.toNat (↑(m + 1) - ↑c)) 4)) : V) = (.c (.sl 354 0 (c * 4) (m + 1 - c) 4)),
      ((0 : Int) ≤ (↑c : Int) ∧ (↑c : Int) ≤ (↑(m + (1 : Nat)) : Int) ∧ (↑(m + (1 : Nat)) : Int) ≤ (↑(m + (1 : Nat)) : Int)),
      EB (decide ((↑c : Int) < (↑(m + 1) : Int))) true])
    mixed (by kernel_rfl) ⟨.mk (by simp only [addO_eq, mulE_eq, mulE_one, Int.toNat_natCast, IntKind.wrap_i64, mmin, mmax]; omega), (by omega), (by omega), EV.sl (by rfl) (by omega), (by omega), .mk (decide_eq_true h0), trivial⟩
theorem LR_xf (m c : Nat)
    (hn : m ≤ 119)
    (hc : 1 ≤ c ∧ c ≤ m + 1)
    (h0 : (¬(↑c : Int) < (↑(m + (1 : Nat)) : Int))) :
    CodeOk Try.prog 48 450 (kAt (kOf Try.prog Try.f39) [true, true, true, true, true, true, false, false, false]) (LRI m c) (.exit 0) (LRI m c) :=
  CodeOk.of_runs (fuel := 300) (v := ⟨[4, 7, 8], [1, 354], [], 466⟩) (hs := [(3, ⟨.auto, some (.c (.bool (false)))⟩)])
    (cs := [EB (decide ((↑c : Int) < (↑(m + 1) : Int))) false])
    mixed (by kernel_rfl) ⟨.mk (decide_eq_false h0), trivial⟩
end Go.Proofs.Ytohleiikedpmkaa.Vm

namespace Go.Proofs.Ytohleiikedpmkaa.Vm
open Go Go.Proofs Go.Proofs.Ytohleiikedpmkaa
theorem ck_sub {c p : Nat} (h : c * 4 ≤ p) : W.ck (p - c * 4) = W.ck p := by
  unfold W.ck
  have : (p - c * 4) % 4 = p % 4 := by omega
  rw [this]
theorem blank_sub {c p : Nat} (h : c * 4 ≤ p) : W.blank (p - c * 4) = W.blank p := by
  unfold W.blank
  have : (p - c * 4) % 4 = p % 4 := by omega
  rw [this]
theorem rep_ck (c n p : Nat) : (bif inR (c * 4) (n * 4) p then W.ck (p - c * 4 + 0 + 0) else W.ck p) = W.ck p := by
  cases h : inR (c * 4) (n * 4) p with
  | false => rfl
  | true => exact ck_sub (inR_iff.1 h).1
theorem rep_val {c n p : Nat} (hn : n ≤ c) : (bif inR (c * 4) (n * 4) p then W.rep c (p - c * 4 + 0 + 0) else W.rep c p) = W.rep (c + n) p := by
  cases h : inR (c * 4) (n * 4) p with
  | false =>
    have h1 : ¬ (c * 4 ≤ p ∧ p < c * 4 + n * 4) := fun e => by rw [inR_iff.2 e] at h; cases h
    show W.rep c p = W.rep (c + n) p
    unfold W.rep
    by_cases h2 : p < 4 * c
    · rw [if_pos h2, if_pos (by omega)]
    · rw [if_neg h2, if_neg (by omega)]
  | true =>
    obtain ⟨h1, h2⟩ := inR_iff.1 h
    show W.rep c (p - c * 4) = W.rep (c + n) p
    unfold W.rep
    rw [if_pos (by omega), if_pos (by omega)]
    exact blank_sub h1
theorem first_ck : ∀ p : Nat, (bif inR 0 4 p then igK [(IntKind.i32, 32), (IntKind.i64, 0), (IntKind.i64, 0), (IntKind.i64, 0)] (p - 0) else igK [(IntKind.i32, 0), (IntKind.i64, 0), (IntKind.i64, 0), (IntKind.i64, 0)] (p % 4)) = W.ck p := by
  have key : ∀ q, q < 4 → igK [(IntKind.i32, 32), (IntKind.i64, 0), (IntKind.i64, 0), (IntKind.i64, 0)] q = W.ck q ∧ igK [(IntKind.i32, 0), (IntKind.i64, 0), (IntKind.i64, 0), (IntKind.i64, 0)] q = W.ck q := by decide
  intro p
  cases h : inR 0 4 p with
  | false =>
    show igK _ (p % 4) = _
    rw [(key (p % 4) (by omega)).2]
    unfold W.ck
    rw [Nat.mod_mod]
  | true => exact (key p (by have := (inR_iff.1 h).2; omega)).1
theorem first_val : ∀ p : Nat, (bif inR 0 4 p then igG [(IntKind.i32, 32), (IntKind.i64, 0), (IntKind.i64, 0), (IntKind.i64, 0)] (p - 0) else igG [(IntKind.i32, 0), (IntKind.i64, 0), (IntKind.i64, 0), (IntKind.i64, 0)] (p % 4)) = W.rep 1 p := by
  have key : ∀ q, q < 4 → igG [(IntKind.i32, 32), (IntKind.i64, 0), (IntKind.i64, 0), (IntKind.i64, 0)] q = W.blank q ∧ igG [(IntKind.i32, 0), (IntKind.i64, 0), (IntKind.i64, 0), (IntKind.i64, 0)] q = 0 := by decide
  intro p
  cases h : inR 0 4 p with
  | false =>
    have h1 : ¬ (0 ≤ p ∧ p < 0 + 4) := fun e => by rw [inR_iff.2 e] at h; cases h
    show igG _ (p % 4) = _
    rw [(key (p % 4) (by omega)).2]
    unfold W.rep
    rw [if_neg (by omega)]
  | true =>
    have h1 := (inR_iff.1 h).2
    show igG _ p = _
    rw [(key p (by omega)).1]
    unfold W.rep
    rw [if_pos (by omega)]
theorem repeat_loop (m : Nat) (hn : m ≤ 119) : CodeOk Try.prog 48 450 (kAt (kOf Try.prog Try.f39) [true, true, true, true, true, true, false, false]) (LR0 m) (.exit 0) (LRI m (m + 1)) := by
  have h : CodeOk Try.prog 48 450 (kAt (kOf Try.prog Try.f39) [true, true, true, true, true, true, false, false]) (LRI m 1) (.exit 0) (LRI m (m + 1)) := by
    refine LR_by (fun c => LRI m c) (fun c => 1 ≤ c ∧ c ≤ m + 1) (fun c => m + 1 - c) (by simp) ?_ 1 ⟨Nat.le_refl _, by omega⟩
    intro c hc
    by_cases h0 : (c : Int) < ((m + 1 : Nat) : Int)
    · refine .inl ⟨c + min c (m + 1 - c), by omega, by omega, (LR_rt m c hn hc h0).move (Move.same (by decide) (by decide) (by decide) rfl ?_)⟩
      exact ⟨SameB.refl rfl, SameB.ig rfl (fun h => h) (fun p _ => rep_ck _ _ p) (fun p _ => rep_val (Nat.min_le_left _ _)), trivial⟩
    · have e : c = m + 1 := by omega
      subst e
      exact .inr (LR_xf m (m + 1) hn hc h0)
  refine CodeOk.enter (Move.same (by decide) (by decide) (by decide) rfl ?_) h
  exact ⟨SameB.refl rfl, SameB.ig rfl (fun h => h) (fun p _ => first_ck p) (fun p _ => first_val p), trivial⟩
end Go.Proofs.Ytohleiikedpmkaa.Vm

namespace Go.Proofs.Ytohleiikedpmkaa.Vm
open Go Go.Proofs Go.Proofs.Ytohleiikedpmkaa
set_option maxRecDepth 100000
theorem repeat_ (m : Nat)
    (hn : m ≤ 119) :
    Contract0 Try.prog 39 [(.c (.sl 1 0 0 1 4)), (.c (.int .i64 (↑(m + 1))))] [(1, (.one ⟨false, false, (.cells [(.int .i32 32), (.int .i64 0), (.int .i64 0), (.int .i64 0)])⟩))] 2 (.c (.sl 2 0 0 (m + 1) 4)) [] [(2, (.one ⟨true, true, (.ig ((m + 1) * 4) W.ck (fun p_ => (W.rep (m + 1) p_)))⟩))] :=
  Contract0.renum (Contract0.of_frun (res := (.c (.sl 354 0 0 (m + 1) 4))) (up := [(354, (.one ⟨true, true, (.ig ((m + 1) * 4) W.ck (fun p_ => (W.rep (m + 1) p_)))⟩))]) (kill := []) (n0 := 2) (m := [(1, (.one ⟨false, false, (.cells [(.int .i32 32), (.int .i64 0), (.int .i64 0), (.int .i64 0)])⟩))]) (args := [(.c (.sl 1 0 0 1 4)), (.c (.int .i64 (↑(m + 1))))]) (fn := Try.f39) (c := bodyOf Try.f39) (fuel := 300) (k := kOf Try.prog Try.f39) (outs := [354]) (hs := [(2, ⟨.auto, some (.c (.bool (false)))⟩), (8, ⟨.auto, some (.c (.int .u64 (↑(m + 1))))⟩), (9, ⟨.call [] (.tup [(.c (.int .u64 0)), (.c (.int .u64 (↑(m + 1))))]) [] [], none⟩), (19, ⟨.auto, some (.c (.bool (false)))⟩), (23, ⟨.auto, some (.c (.int .i64 (↑(m + 1))))⟩), (24, ⟨.ask, none⟩), (28, ⟨.ask, none⟩), (30, ⟨.sum ⟨[4, 7, 8], [1, 354], [], 450⟩ (.exit 0) (LRI m (m + 1)), none⟩)])
    (cs := [CodeOk Try.prog 48 450 (kAt (kOf Try.prog Try.f39) [true, true, true, true, true, true, false, false]) (LR0 m) (.exit 0) (LRI m (m + 1)),
      ((4 : Nat) ≤ (4 : Nat) ∧ (0 : Nat) + (m + (1 : Nat)) * (4 : Nat) ≤ (m + (1 : Nat)) * (4 : Nat)),
      ((0 : Int) ≤ (↑(m + (1 : Nat)) : Int) ∧ (↑(m + (1 : Nat)) : Int) ≤ (↑(m + (1 : Nat)) : Int) ∧ (↑(m + (1 : Nat)) : Int) ≤ (4294967296 : Int) ∧ (32 : Nat) * (m + (1 : Nat)) ≤ (4398046511104 : Nat)),
      EI .i64 (IntKind.wrap IntKind.i64 (↑(m + 1) : Int)) ((↑(m + 1) : Int)),
      EB (decide ((↑(m + 1) : Int) > 9223372036854775807)) false,
      Contract Try.prog 51 [(.c (.int .u64 1)), (.c (.int .u64 (↑(m + 1))))] [] 130 (.tup [(.c (.int .u64 0)), (.c (.int .u64 (↑(m + 1))))]) [] [],
      EI .u64 ((↑(m + 1) : Int) % 18446744073709551616) ((↑(m + 1) : Int)),
      EB (decide ((↑(m + 1) : Int) < 0)) false])
    mixed Try.func39 (by kernel_rfl) (by kernel_rfl) (by kernel_rfl) (by kernel_rfl) (by kernel_rfl) ⟨(repeat_loop m (by omega)), (by omega), (by omega), .mk (by simp only [addO_eq, mulE_eq, mulE_one, Int.toNat_natCast, IntKind.wrap_i64, mmin, mmax]; omega), .mk (decide_eq_false (by omega)), Contract0.in1 (mul_ (m + 1) (by omega)) [] [none, none] [] [] (by kernel_rfl), .mk (by omega), .mk (decide_eq_false (by omega)), trivial⟩) [.b 1 1 true] [] [(354, 2)] [] (by kernel_rfl) (by kernel_rfl) (by kernel_rfl) (by kernel_rfl) (by kernel_rfl)
end Go.Proofs.Ytohleiikedpmkaa.Vm

namespace Go.Proofs.Ytohleiikedpmkaa.Vm
open Go Go.Proofs Go.Proofs.Ytohleiikedpmkaa
theorem repeat_ok (C : Nat) (h0_ : 1 ≤ C ∧ C ≤ 120) : Contract0 Try.prog 39 [(.c (.sl 1 0 0 1 4)), (.c (.int .i64 (C : Int)))] [(1, (.one ⟨false, false, (.cells [(.int .i32 32), (.int .i64 0), (.int .i64 0), (.int .i64 0)])⟩))] 2 (.c (.sl 2 0 0 C 4)) [] [(2, (.one ⟨true, true, (.ig (C * 4) W.ck W.blank)⟩))] := by
  obtain ⟨m, rfl⟩ : ∃ m, C = m + 1 := ⟨C - 1, by omega⟩
  refine (repeat_ m (by omega)).same_up rfl ⟨SameB.ig rfl (fun h => h) (fun _ _ => rfl) (fun p hp => ?_), trivial⟩
  show W.rep (m + 1) p = W.blank p
  unfold W.rep
  rw [if_pos (by omega)]
theorem krepeat : Contract0 Try.prog 39 [(.c (.sl 1 0 0 1 4)), (.c (.int .i64 3))] [(1, (.one ⟨false, false, (.cells [(.int .i32 32), (.int .i64 0), (.int .i64 0), (.int .i64 0)])⟩))] 2 (.c (.sl 2 0 0 3 4)) [] [(2, (.one ⟨true, true, (.cells [(.int .i32 32), (.int .i64 0), (.int .i64 0), (.int .i64 0), (.int .i32 32), (.int .i64 0), (.int .i64 0), (.int .i64 0), (.int .i32 32), (.int .i64 0), (.int .i64 0), (.int .i64 0)])⟩))] := by
  refine (repeat_ok 3 (by decide)).same_up rfl ⟨⟨_, rfl, rfl, fun h => h, rfl, fun j hj => ?_⟩, trivial⟩
  have hj : j < 12 := hj
  have key : ∀ q, q < 12 → (List.getD [(C.int .i32 32), (.int .i64 0), (.int .i64 0), (.int .i64 0), (.int .i32 32), (.int .i64 0), (.int .i64 0), (.int .i64 0), (.int .i32 32), (.int .i64 0), (.int .i64 0), (.int .i64 0)] q .unk) = C.int (W.ck q) (W.blank q) := by
    intro q hq
    rcases q with _ | _ | _ | _ | _ | _ | _ | _ | _ | _ | _ | _ | q
    all_goals first | rfl | omega
  exact key j hj
end Go.Proofs.Ytohleiikedpmkaa.Vm
