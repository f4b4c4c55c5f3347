/- What functions of the program come to: parts of the walk (Ga). -/
import Derived.Test.YtohleiikedpmkaaVmc
import Derived.Laws.Strings
import Derived.Test.YtohleiikedpmkaaVmb
import Derived.KernelRfl
import Derived.Test.YtohleiikedpmkaaProg
set_option linter.unusedSimpArgs false
set_option linter.unusedVariables false
namespace Go.Proofs.Ytohleiikedpmkaa.W
open Go Go.Proofs.Ytohleiikedpmkaa.Vm
def get4 (l : List Int) (o : Nat) : Int := bOr .u64 (bOr .u64 (bOr .u64 (bOr .u64 0 (List.getD l o 0 % 18446744073709551616)) (List.getD l (o + 1) 0 % 18446744073709551616 * 256 % 18446744073709551616)) (List.getD l (o + 2) 0 % 18446744073709551616 * 65536 % 18446744073709551616)) (List.getD l (o + 3) 0 % 18446744073709551616 * 16777216 % 18446744073709551616)
def w32 (l : List Int) (o : Nat) : Int := get4 l o % 4294967296
def p4 (v : Int) : List Int := [v % 256, v / 256 % 256, v / 65536 % 256, v / 16777216 % 256]
def xor (a b : List Int) : List Int := List.zipWith (bXor .u8) a b
def bytes (l : List Int) : Prop := ∀ x ∈ l, 0 ≤ x ∧ x < 256
def qr (a b c d : Int) : Int × Int × Int × Int :=
  let x0 := bXor .u32 d ((a + b) % 4294967296)
  let x2 := bOr .u32 (x0 * 65536 % 4294967296) (x0 / 65536)
  let x4 := bXor .u32 b ((c + x2) % 4294967296)
  let x6 := bOr .u32 (x4 * 4096 % 4294967296) (x4 / 1048576)
  let x8 := ((a + b) % 4294967296 + x6) % 4294967296
  let x10 := bOr .u32 (bXor .u32 x2 x8 * 256 % 4294967296) (bXor .u32 x2 x8 / 16777216)
  let x12 := ((c + x2) % 4294967296 + x10) % 4294967296
  let x14 := bOr .u32 (bXor .u32 x6 x12 * 128 % 4294967296) (bXor .u32 x6 x12 / 33554432)
  (x8, x14, x12, x10)
def qa (a b c d : Int) : Int := (qr a b c d).1
def qb (a b c d : Int) : Int := (qr a b c d).2.1
def qc (a b c d : Int) : Int := (qr a b c d).2.2.1
def qd (a b c d : Int) : Int := (qr a b c d).2.2.2
def qrl (l : List Int) (a b c d : Nat) : List Int :=
  (((l.set a (qa (l.getD a 0) (l.getD b 0) (l.getD c 0) (l.getD d 0))).set b (qb (l.getD a 0) (l.getD b 0) (l.getD c 0) (l.getD d 0))).set c (qc (l.getD a 0) (l.getD b 0) (l.getD c 0) (l.getD d 0))).set d (qd (l.getD a 0) (l.getD b 0) (l.getD c 0) (l.getD d 0))
def dround (l : List Int) : List Int :=
  qrl (qrl (qrl (qrl (qrl (qrl (qrl (qrl l 0 4 8 12) 1 5 9 13) 2 6 10 14) 3 7 11 15) 0 5 10 15) 1 6 11 12) 2 7 8 13) 3 4 9 14
def rounds (l : List Int) : Nat → List Int
  | 0 => l
  | n + 1 => dround (rounds l n)
def words (k : List Int) (c : Int) (nn : List Int) : List Int := [1634760805, 857760878, 2036477234, 1797285236, w32 k 0, w32 k 4, w32 k 8, w32 k 12, w32 k 16, w32 k 20, w32 k 24, w32 k 28, c, w32 nn 0, w32 nn 4, w32 nn 8]
def flat16 (f : Nat → Int) : List Int := p4 (f 0) ++ (p4 (f 1) ++ (p4 (f 2) ++ (p4 (f 3) ++ (p4 (f 4) ++ (p4 (f 5) ++ (p4 (f 6) ++ (p4 (f 7) ++ (p4 (f 8) ++ (p4 (f 9) ++ (p4 (f 10) ++ (p4 (f 11) ++ (p4 (f 12) ++ (p4 (f 13) ++ (p4 (f 14) ++ p4 (f 15)))))))))))))))
def block (k : List Int) (c : Int) (nn : List Int) : List Int := flat16 fun i => ((rounds (words k c nn) 10).getD i 0 + (words k c nn).getD i 0) % 4294967296
def apply (k : List Int) (c : Int) (nn t : List Int) : List Int := (List.range t.length).map fun i => bXor .u8 (t.getD i 0) ((block k ((c + (i / 64 : Nat)) % 4294967296) nn).getD (i % 64) 0)
end Go.Proofs.Ytohleiikedpmkaa.W
namespace Go.Proofs.Ytohleiikedpmkaa.Vm
open Go
theorem seg_len {l : List Int} {o n : Nat} (h : o + n ≤ l.length) : (List.take n (List.drop o l)).length = n := by
  simp only [List.length_take, List.length_drop]; omega
end Go.Proofs.Ytohleiikedpmkaa.Vm

namespace Go.Proofs.Ytohleiikedpmkaa.Vm
open Go Go.Proofs Go.Proofs.Ytohleiikedpmkaa
set_option maxRecDepth 100000
theorem mixed : Try.prog.follows .mixedOrders = true := by kernel_rfl
end Go.Proofs.Ytohleiikedpmkaa.Vm

namespace Go.Proofs.Ytohleiikedpmkaa.Vm
open Go Go.Proofs Go.Proofs.Ytohleiikedpmkaa
set_option maxRecDepth 100000
theorem mul64 (n : Nat) (x0 : Int)
    (hn : n ≤ 4096)
    (ha : bAnd IntKind.u64 (n : Int) 4294967295 = (n : Int))
    (h1 : ((↑(n / 4294967296 / 4294967296) : Int) + (bAnd IntKind.u64 (↑(n / 4294967296) : Int) 4294967295 + (↑(n / 4294967296) : Int)) % 18446744073709551616 / 4294967296) = x0) :
    PureF Try.prog 56 [(.c (.int .u64 1)), (.c (.int .u64 (↑n)))] (.tup [(.c (.int .u64 x0)), (.c (.int .u64 (↑n)))]) :=
  Contract0.fr 300 [(9, ⟨.auto, some (.c (.int .u64 (↑n)))⟩), (16, ⟨.auto, some (.c (.int .u64 (↑n)))⟩), (20, ⟨.auto, some (.c (.int .u64 0))⟩), (23, ⟨.auto, some (.c (.int .u64 (↑(n / 4294967296))))⟩), (34, ⟨.auto, some (.c (.int .u64 (↑(n / 4294967296))))⟩), (39, ⟨.auto, some (.c (.int .u64 0))⟩), (41, ⟨.auto, some (.c (.int .u64 (↑(n / 4294967296 / 4294967296))))⟩), (44, ⟨.auto, some (.c (.int .u64 (↑(n / 4294967296 / 4294967296) + (bAnd IntKind.u64 (↑(n / 4294967296)) 4294967295 + ↑(n / 4294967296)) % 18446744073709551616 / 4294967296)))⟩), (45, ⟨.auto, some (.c (.int .u64 x0))⟩), (48, ⟨.auto, some (.c (.int .u64 (↑n)))⟩)] [] [EI .u64 (1 * (↑n : Int) % 18446744073709551616) ((↑n : Int)),
      EI .u64 ((↑(n / 4294967296 / 4294967296) : Int) + (bAnd IntKind.u64 (↑(n / 4294967296) : Int) 4294967295 + (↑(n / 4294967296) : Int)) % 18446744073709551616 / 4294967296) x0,
      EI .u64 (((↑(n / 4294967296 / 4294967296) : Int) + (bAnd IntKind.u64 (↑(n / 4294967296) : Int) 4294967295 + (↑(n / 4294967296) : Int)) % 18446744073709551616 / 4294967296) % 18446744073709551616) ((↑(n / 4294967296 / 4294967296) : Int) + (bAnd IntKind.u64 (↑(n / 4294967296) : Int) 4294967295 + (↑(n / 4294967296) : Int)) % 18446744073709551616 / 4294967296),
      EI .u64 ((0 + (↑(n / 4294967296 / 4294967296) : Int)) % 18446744073709551616) ((↑(n / 4294967296 / 4294967296) : Int)),
      EI .u64 (0 * (↑(n / 4294967296) : Int) % 18446744073709551616) 0,
      EI .u64 (1 * (↑(n / 4294967296) : Int) % 18446744073709551616) ((↑(n / 4294967296) : Int)),
      EI .u64 ((0 + (↑(n / 4294967296) : Int)) % 18446744073709551616) ((↑(n / 4294967296) : Int)),
      EI .u64 (0 * (↑n : Int) % 18446744073709551616) 0,
      EI .u64 (1 * (↑n : Int) % 18446744073709551616) ((↑n : Int)),
      EI .u64 (bAnd IntKind.u64 (↑n : Int) 4294967295) ((↑n : Int))] mixed Try.func56 (by kernel_rfl) ⟨.mk (by omega), .mk h1, .mk (by omega), .mk (by omega), .mk (by omega), .mk (by omega), .mk (by omega), .mk (by omega), .mk (by omega), .mk (by omega), trivial⟩
end Go.Proofs.Ytohleiikedpmkaa.Vm

namespace Go.Proofs.Ytohleiikedpmkaa.Vm
open Go Go.Proofs Go.Proofs.Ytohleiikedpmkaa
theorem and32 : ∀ n : Nat, n < 4097 → bAnd IntKind.u64 (n : Int) 4294967295 = (n : Int) := by
  intro n hn
  rw [bAnd64 (by omega) (by omega) (by omega) (by omega)]
  have h := Nat.and_two_pow_sub_one_eq_mod n 32
  have e : ((n : Int).toNat &&& (4294967295 : Int).toNat) = n % 4294967296 := h
  rw [e]; omega
theorem mul64_ok (n : Nat) (h0_ : n ≤ 4096) : PureF Try.prog 56 [(.c (.int .u64 1)), (.c (.int .u64 (n : Int)))] (.tup [(.c (.int .u64 0)), (.c (.int .u64 (n : Int)))]) := by
  refine mul64 n 0 h0_ (and32 n (by omega)) ?_
  have e : n / 4294967296 = 0 := by omega
  rw [e]
  decide +kernel
end Go.Proofs.Ytohleiikedpmkaa.Vm

namespace Go.Proofs.Ytohleiikedpmkaa.Vm
open Go Go.Proofs Go.Proofs.Ytohleiikedpmkaa
set_option maxRecDepth 100000
theorem mul_ (n : Nat)
    (hn : n ≤ 4096) :
    PureF Try.prog 51 [(.c (.int .u64 1)), (.c (.int .u64 (↑n)))] (.tup [(.c (.int .u64 0)), (.c (.int .u64 (↑n)))]) :=
  Contract0.fr 300 [(5, ⟨.call [] (.tup [(.c (.int .u64 0)), (.c (.int .u64 (↑n)))]) [] [], none⟩)] [] [Contract Try.prog 56 [(.c (.int .u64 1)), (.c (.int .u64 (↑n)))] [] 65 (.tup [(.c (.int .u64 0)), (.c (.int .u64 (↑n)))]) [] []] mixed Try.func51 (by kernel_rfl) ⟨Contract0.in1 (mul64_ok n (by omega)) [] [none, none] [] [] (by kernel_rfl), trivial⟩
end Go.Proofs.Ytohleiikedpmkaa.Vm

namespace Go.Proofs.Ytohleiikedpmkaa.Vm
open Go Go.Proofs Go.Proofs.Ytohleiikedpmkaa
set_option maxRecDepth 100000
def LRI (m c : Nat) : S0 :=
  ⟨[(4, (.c .nils)), (7, (.c (.sl 354 0 0 (m + 1) 4))), (8, (.c (.int .i64 (c : Int))))], [(1, (.one ⟨false, false, (.cells [(.int .i32 32), (.int .i64 0), (.int .i64 0), (.int .i64 0)])⟩)), (354, (.one ⟨true, true, .ig ((m + 1) * 4) W.ck (W.rep c)⟩))], 466⟩
theorem LR_by {α : Type} (I : α → S0) (Inv : α → Prop) (μ : α → Nat) {ex : Ex} {s' : S0} (hex : ex ≠ .normal)
    (step : ∀ x, Inv x → (∃ y, Inv y ∧ μ y < μ x ∧ CodeOk Try.prog 48 450 (kAt (kOf Try.prog Try.f39) [true, true, true, true, true, true, false, false, false]) (I x) .normal (I y)) ∨ CodeOk Try.prog 48 450 (kAt (kOf Try.prog Try.f39) [true, true, true, true, true, true, false, false, false]) (I x) ex s') (x : α) (hx : Inv x) :
    CodeOk Try.prog 48 450 (kAt (kOf Try.prog Try.f39) [true, true, true, true, true, true, false, false]) (I x) ex s' := by
  have hk : (kAt (kOf Try.prog Try.f39) [true, true, true, true, true, true, false, false]) = .loop (kAt (kOf Try.prog Try.f39) [true, true, true, true, true, true, false, false, false]) := by kernel_rfl
  rw [hk]
  exact CodeOk.loop I Inv μ hex step x hx
def LR0 (m : Nat) : S0 :=
  ⟨[(4, (.c .nils)), (7, (.c (.sl 354 0 0 (m + 1) 4))), (8, (.c (.int .i64 1)))], [(1, (.one ⟨false, false, (.cells [(.int .i32 32), (.int .i64 0), (.int .i64 0), (.int .i64 0)])⟩)), (354, (.one ⟨true, true, (.ig ((m + 1) * 4) (fun p_ => (bif inR 0 4 p_ then igK [(IntKind.i32, 32), (IntKind.i64, 0), (IntKind.i64, 0), (IntKind.i64, 0)] (p_ - 0) else igK [(IntKind.i32, 0), (IntKind.i64, 0), (IntKind.i64, 0), (IntKind.i64, 0)] (p_ % 4))) (fun p_ => (bif inR 0 4 p_ then igG [(IntKind.i32, 32), (IntKind.i64, 0), (IntKind.i64, 0), (IntKind.i64, 0)] (p_ - 0) else igG [(IntKind.i32, 0), (IntKind.i64, 0), (IntKind.i64, 0), (IntKind.i64, 0)] (p_ % 4))))⟩))], 450⟩
theorem LR_rt (m c : Nat)
    (hn : m ≤ 119)
    (hc : 1 ≤ c ∧ c ≤ m + 1)
    (h0 : ((↑c : Int) < (↑(m + (1 : Nat)) : Int))) :
    CodeOk Try.prog 48 450 (kAt (kOf Try.prog Try.f39) [true, true, true, true, true, true, false, false, false]) (LRI m c) .normal ⟨[(4, (.c .nils)), (7, (.c (.sl 354 0 0 (m + 1) 4))), (8, (.c (.int .i64 (↑(c + min c (m + 1 - c))))))], [(1, (.one ⟨false, false, (.cells [(.int .i32 32), (.int .i64 0), (.int .i64 0), (.int .i64 0)])⟩)), (354, (.one ⟨true, true, (.ig ((m + 1) * 4) (fun p_ => (bif inR (c * 4) (min c (m + 1 - c) * 4) p_ then W.ck (p_ - c * 4 + 0 + 0) else W.ck p_)) (fun p_ => (bif inR (c * 4) (min c (m + 1 - c) * 4) p_ then W.rep c (p_ - c * 4 + 0 + 0) else W.rep c p_)))⟩))], 466⟩ :=
  CodeOk.of_runs (fuel := 300) (v := ⟨[4, 7, 8], [1, 354], [], 466⟩) (hs := [(3, ⟨.auto, some (.c (.bool (true)))⟩), (8, ⟨.ask, some (.c (.sl 354 0 (c * 4) (m + 1 - c) 4))⟩), (11, ⟨.ask, none⟩), (12, ⟨.ask, none⟩), (13, ⟨.auto, some (.c (.int .i64 (↑(c + min c (m + 1 - c)))))⟩)])
    (cs := [EI .i64 (IntKind.wrap IntKind.i64 ((↑c : Int) + (↑(min c (m + 1 - c)) : Int))) ((↑(c + min c (m + 1 - c)) : Int)),
      ((0 : Nat) + c * (4 : Nat) ≤ (m + (1 : Nat)) * (4 : Nat) ∧ c * (4 : Nat) + (m + (1 : Nat) - c) * (4 : Nat) ≤ (m + (1 : Nat)) * (4 : Nat)),
      ((0 : Int) ≤ (0 : Int) ∧ (0 : Int) ≤ (↑c : Int) ∧ (↑c : Int) ≤ (↑(m + (1 : Nat)) : Int)),
      ((.c (.sl 354 0 (addO 0 (mulE c 4)) (Int.toNat (↑(m + 1) - ↑c)) 4)) : V) = (.c (.sl 354 0 (c * 4) (m + 1 - c) 4)),
      ((0 : Int) ≤ (↑c : Int) ∧ (↑c : Int) ≤ (↑(m + (1 : Nat)) : Int) ∧ (↑(m + (1 : Nat)) : Int) ≤ (↑(m + (1 : Nat)) : Int)),
      EB (decide ((↑c : Int) < (↑(m + 1) : Int))) true])
    mixed (by kernel_rfl) ⟨.mk (by simp only [addO_eq, mulE_eq, mulE_one, Int.toNat_natCast, IntKind.wrap_i64, mmin, mmax]; omega), (by omega), (by omega), EV.sl (by rfl) (by omega), (by omega), .mk (decide_eq_true h0), trivial⟩
theorem LR_xf (m c : Nat)
    (hn : m ≤ 119)
    (hc : 1 ≤ c ∧ c ≤ m + 1)
    (h0 : (¬(↑c : Int) < (↑(m + (1 : Nat)) : Int))) :
    CodeOk Try.prog 48 450 (kAt (kOf Try.prog Try.f39) [true, true, true, true, true, true, false, false, false]) (LRI m c) (.exit 0) (LRI m c) :=
  CodeOk.of_runs (fuel := 300) (v := ⟨[4, 7, 8], [1, 354], [], 466⟩) (hs := [(3, ⟨.auto, some (.c (.bool (false)))⟩)])
    (cs := [EB (decide ((↑c : Int) < (↑(m + 1) : Int))) false])
    mixed (by kernel_rfl) ⟨.mk (decide_eq_false h0), trivial⟩
end Go.Proofs.Ytohleiikedpmkaa.Vm

namespace Go.Proofs.Ytohleiikedpmkaa.Vm
open Go Go.Proofs Go.Proofs.Ytohleiikedpmkaa
theorem ck_sub {c p : Nat} (h : c * 4 ≤ p) : W.ck (p - c * 4) = W.ck p := by
  unfold W.ck
  have : (p - c * 4) % 4 = p % 4 := by omega
  rw [this]
theorem blank_sub {c p : Nat} (h : c * 4 ≤ p) : W.blank (p - c * 4) = W.blank p := by
  unfold W.blank
  have : (p - c * 4) % 4 = p % 4 := by omega
  rw [this]
theorem rep_ck (c n p : Nat) : (bif inR (c * 4) (n * 4) p then W.ck (p - c * 4 + 0 + 0) else W.ck p) = W.ck p := by
  cases h : inR (c * 4) (n * 4) p with
  | false => rfl
  | true => exact ck_sub (inR_iff.1 h).1
theorem rep_val {c n p : Nat} (hn : n ≤ c) : (bif inR (c * 4) (n * 4) p then W.rep c (p - c * 4 + 0 + 0) else W.rep c p) = W.rep (c + n) p := by
  cases h : inR (c * 4) (n * 4) p with
  | false =>
    have h1 : ¬ (c * 4 ≤ p ∧ p < c * 4 + n * 4) := fun e => by rw [inR_iff.2 e] at h; cases h
    show W.rep c p = W.rep (c + n) p
    unfold W.rep
    by_cases h2 : p < 4 * c
    · rw [if_pos h2, if_pos (by omega)]
    · rw [if_neg h2, if_neg (by omega)]
  | true =>
    obtain ⟨h1, h2⟩ := inR_iff.1 h
    show W.rep c (p - c * 4) = W.rep (c + n) p
    unfold W.rep
    rw [if_pos (by omega), if_pos (by omega)]
    exact blank_sub h1
theorem first_ck : ∀ p : Nat, (bif inR 0 4 p then igK [(IntKind.i32, 32), (IntKind.i64, 0), (IntKind.i64, 0), (IntKind.i64, 0)] (p - 0) else igK [(IntKind.i32, 0), (IntKind.i64, 0), (IntKind.i64, 0), (IntKind.i64, 0)] (p % 4)) = W.ck p := by
  have key : ∀ q, q < 4 → igK [(IntKind.i32, 32), (IntKind.i64, 0), (IntKind.i64, 0), (IntKind.i64, 0)] q = W.ck q ∧ igK [(IntKind.i32, 0), (IntKind.i64, 0), (IntKind.i64, 0), (IntKind.i64, 0)] q = W.ck q := by decide
  intro p
  cases h : inR 0 4 p with
  | false =>
    show igK _ (p % 4) = _
    rw [(key (p % 4) (by omega)).2]
    unfold W.ck
    rw [Nat.mod_mod]
  | true => exact (key p (by have := (inR_iff.1 h).2; omega)).1
theorem first_val : ∀ p : Nat, (bif inR 0 4 p then igG [(IntKind.i32, 32), (IntKind.i64, 0), (IntKind.i64, 0), (IntKind.i64, 0)] (p - 0) else igG [(IntKind.i32, 0), (IntKind.i64, 0), (IntKind.i64, 0), (IntKind.i64, 0)] (p % 4)) = W.rep 1 p := by
  have key : ∀ q, q < 4 → igG [(IntKind.i32, 32), (IntKind.i64, 0), (IntKind.i64, 0), (IntKind.i64, 0)] q = W.blank q ∧ igG [(IntKind.i32, 0), (IntKind.i64, 0), (IntKind.i64, 0), (IntKind.i64, 0)] q = 0 := by decide
  intro p
  cases h : inR 0 4 p with
  | false =>
    have h1 : ¬ (0 ≤ p ∧ p < 0 + 4) := fun e => by rw [inR_iff.2 e] at h; cases h
    show igG _ (p % 4) = _
    rw [(key (p % 4) (by omega)).2]
    unfold W.rep
    rw [if_neg (by omega)]
  | true =>
    have h1 := (inR_iff.1 h).2
    show igG _ p = _
    rw [(key p (by omega)).1]
    unfold W.rep
    rw [if_pos (by omega)]
theorem repeat_loop (m : Nat) (hn : m ≤ 119) : CodeOk Try.prog 48 450 (kAt (kOf Try.prog Try.f39) [true, true, true, true, true, true, false, false]) (LR0 m) (.exit 0) (LRI m (m + 1)) := by
  have h : CodeOk Try.prog 48 450 (kAt (kOf Try.prog Try.f39) [true, true, true, true, true, true, false, false]) (LRI m 1) (.exit 0) (LRI m (m + 1)) := by
    refine LR_by (fun c => LRI m c) (fun c => 1 ≤ c ∧ c ≤ m + 1) (fun c => m + 1 - c) (by simp) ?_ 1 ⟨Nat.le_refl _, by omega⟩
    intro c hc
    by_cases h0 : (c : Int) < ((m + 1 : Nat) : Int)
    · refine .inl ⟨c + min c (m + 1 - c), by omega, by omega, (LR_rt m c hn hc h0).move (Move.same (by decide) (by decide) (by decide) rfl ?_)⟩
      exact ⟨SameB.refl rfl, SameB.ig rfl (fun h => h) (fun p _ => rep_ck _ _ p) (fun p _ => rep_val (Nat.min_le_left _ _)), trivial⟩
    · have e : c = m + 1 := by omega
      subst e
      exact .inr (LR_xf m (m + 1) hn hc h0)
  refine CodeOk.enter (Move.same (by decide) (by decide) (by decide) rfl ?_) h
  exact ⟨SameB.refl rfl, SameB.ig rfl (fun h => h) (fun p _ => first_ck p) (fun p _ => first_val p), trivial⟩
end Go.Proofs.Ytohleiikedpmkaa.Vm

namespace Go.Proofs.Ytohleiikedpmkaa.Vm
open Go Go.Proofs Go.Proofs.Ytohleiikedpmkaa
set_option maxRecDepth 100000
theorem repeat_ (m : Nat)
    (hn : m ≤ 119) :
    Contract0 Try.prog 39 [(.c (.sl 1 0 0 1 4)), (.c (.int .i64 (↑(m + 1))))] [(1, (.one ⟨false, false, (.cells [(.int .i32 32), (.int .i64 0), (.int .i64 0), (.int .i64 0)])⟩))] 2 (.c (.sl 2 0 0 (m + 1) 4)) [] [(2, (.one ⟨true, true, (.ig ((m + 1) * 4) W.ck (fun p_ => (W.rep (m + 1) p_)))⟩))] :=
  Contract0.renum (Contract0.of_frun (res := (.c (.sl 354 0 0 (m + 1) 4))) (up := [(354, (.one ⟨true, true, (.ig ((m + 1) * 4) W.ck (fun p_ => (W.rep (m + 1) p_)))⟩))]) (kill := []) (n0 := 2) (m := [(1, (.one ⟨false, false, (.cells [(.int .i32 32), (.int .i64 0), (.int .i64 0), (.int .i64 0)])⟩))]) (args := [(.c (.sl 1 0 0 1 4)), (.c (.int .i64 (↑(m + 1))))]) (fn := Try.f39) (c := bodyOf Try.f39) (fuel := 300) (k := kOf Try.prog Try.f39) (outs := [354]) (hs := [(2, ⟨.auto, some (.c (.bool (false)))⟩), (8, ⟨.auto, some (.c (.int .u64 (↑(m + 1))))⟩), (9, ⟨.call [] (.tup [(.c (.int .u64 0)), (.c (.int .u64 (↑(m + 1))))]) [] [], none⟩), (19, ⟨.auto, some (.c (.bool (false)))⟩), (23, ⟨.auto, some (.c (.int .i64 (↑(m + 1))))⟩), (24, ⟨.ask, none⟩), (28, ⟨.ask, none⟩), (30, ⟨.sum ⟨[4, 7, 8], [1, 354], [], 450⟩ (.exit 0) (LRI m (m + 1)), none⟩)])
    (cs := [CodeOk Try.prog 48 450 (kAt (kOf Try.prog Try.f39) [true, true, true, true, true, true, false, false]) (LR0 m) (.exit 0) (LRI m (m + 1)),
      ((4 : Nat) ≤ (4 : Nat) ∧ (0 : Nat) + (m + (1 : Nat)) * (4 : Nat) ≤ (m + (1 : Nat)) * (4 : Nat)),
      ((0 : Int) ≤ (↑(m + (1 : Nat)) : Int) ∧ (↑(m + (1 : Nat)) : Int) ≤ (↑(m + (1 : Nat)) : Int) ∧ (↑(m + (1 : Nat)) : Int) ≤ (4294967296 : Int) ∧ (32 : Nat) * (m + (1 : Nat)) ≤ (4398046511104 : Nat)),
      EI .i64 (IntKind.wrap IntKind.i64 (↑(m + 1) : Int)) ((↑(m + 1) : Int)),
      EB (decide ((↑(m + 1) : Int) > 9223372036854775807)) false,
      Contract Try.prog 51 [(.c (.int .u64 1)), (.c (.int .u64 (↑(m + 1))))] [] 130 (.tup [(.c (.int .u64 0)), (.c (.int .u64 (↑(m + 1))))]) [] [],
      EI .u64 ((↑(m + 1) : Int) % 18446744073709551616) ((↑(m + 1) : Int)),
      EB (decide ((↑(m + 1) : Int) < 0)) false])
    mixed Try.func39 (by kernel_rfl) (by kernel_rfl) (by kernel_rfl) (by kernel_rfl) (by kernel_rfl) ⟨(repeat_loop m (by omega)), (by omega), (by omega), .mk (by simp only [addO_eq, mulE_eq, mulE_one, Int.toNat_natCast, IntKind.wrap_i64, mmin, mmax]; omega), .mk (decide_eq_false (by omega)), Contract0.in1 (mul_ (m + 1) (by omega)) [] [none, none] [] [] (by kernel_rfl), .mk (by omega), .mk (decide_eq_false (by omega)), trivial⟩) [.b 1 1 true] [] [(354, 2)] [] (by kernel_rfl) (by kernel_rfl) (by kernel_rfl) (by kernel_rfl) (by kernel_rfl)
end Go.Proofs.Ytohleiikedpmkaa.Vm

namespace Go.Proofs.Ytohleiikedpmkaa.Vm
open Go Go.Proofs Go.Proofs.Ytohleiikedpmkaa
theorem repeat_ok (C : Nat) (h0_ : 1 ≤ C ∧ C ≤ 120) : Contract0 Try.prog 39 [(.c (.sl 1 0 0 1 4)), (.c (.int .i64 (C : Int)))] [(1, (.one ⟨false, false, (.cells [(.int .i32 32), (.int .i64 0), (.int .i64 0), (.int .i64 0)])⟩))] 2 (.c (.sl 2 0 0 C 4)) [] [(2, (.one ⟨true, true, (.ig (C * 4) W.ck W.blank)⟩))] := by
  obtain ⟨m, rfl⟩ : ∃ m, C = m + 1 := ⟨C - 1, by omega⟩
  refine (repeat_ m (by omega)).same_up rfl ⟨SameB.ig rfl (fun h => h) (fun _ _ => rfl) (fun p hp => ?_), trivial⟩
  show W.rep (m + 1) p = W.blank p
  unfold W.rep
  rw [if_pos (by omega)]
theorem krepeat : Contract0 Try.prog 39 [(.c (.sl 1 0 0 1 4)), (.c (.int .i64 3))] [(1, (.one ⟨false, false, (.cells [(.int .i32 32), (.int .i64 0), (.int .i64 0), (.int .i64 0)])⟩))] 2 (.c (.sl 2 0 0 3 4)) [] [(2, (.one ⟨true, true, (.cells [(.int .i32 32), (.int .i64 0), (.int .i64 0), (.int .i64 0), (.int .i32 32), (.int .i64 0), (.int .i64 0), (.int .i64 0), (.int .i32 32), (.int .i64 0), (.int .i64 0), (.int .i64 0)])⟩))] := by
  refine (repeat_ok 3 (by decide)).same_up rfl ⟨⟨_, rfl, rfl, fun h => h, rfl, fun j hj => ?_⟩, trivial⟩
  have hj : j < 12 := hj
  have key : ∀ q, q < 12 → (List.getD [(C.int .i32 32), (.int .i64 0), (.int .i64 0), (.int .i64 0), (.int .i32 32), (.int .i64 0), (.int .i64 0), (.int .i64 0), (.int .i32 32), (.int .i64 0), (.int .i64 0), (.int .i64 0)] q .unk) = C.int (W.ck q) (W.blank q) := by
    intro q hq
    rcases q with _ | _ | _ | _ | _ | _ | _ | _ | _ | _ | _ | _ | q
    all_goals first | rfl | omega
  exact key j hj
end Go.Proofs.Ytohleiikedpmkaa.Vm

namespace Go.Proofs.Ytohleiikedpmkaa.Vm
open Go Go.Proofs Go.Proofs.Ytohleiikedpmkaa
set_option maxRecDepth 100000
def LBI (rr cw i : Nat) : S0 :=
  ⟨[(4, (.c (.ptr 1 0 0))), (5, (.c (.ptr 129 0 0))), (14, (.c (.int .i64 (↑rr)))), (15, (.c (.int .i64 (i : Int))))], [(1, (.one ⟨true, true, (.cells [(.int .i64 0), (.int .i64 0), .nils, (.int .i64 0), (.int .i64 0), (.bool (false))])⟩)), (129, (.one ⟨true, true, .cells [.int .i64 (rr : Int), .int .i64 (cw : Int), .sl 217 0 0 i 1, .int .i64 0, .int .i64 0, .bool false]⟩)), (217, (.one ⟨true, false, .gen i (fun j_ => .sl 218 j_ 0 cw 4)⟩)), (218, (.many (fun j_ => some ⟨true, true, .ig (W.rl i (cw * 4) j_) W.ck W.blank⟩)))], 225⟩
theorem LB_by {α : Type} (I : α → S0) (Inv : α → Prop) (μ : α → Nat) {ex : Ex} {s' : S0} (hex : ex ≠ .normal)
    (step : ∀ x, Inv x → (∃ y, Inv y ∧ μ y < μ x ∧ CodeOk Try.prog 29 209 (kAt (kOf Try.prog Try.f22) [true, true, false, true, false, false]) (I x) .normal (I y)) ∨ CodeOk Try.prog 29 209 (kAt (kOf Try.prog Try.f22) [true, true, false, true, false, false]) (I x) ex s') (x : α) (hx : Inv x) :
    CodeOk Try.prog 29 209 (kAt (kOf Try.prog Try.f22) [true, true, false, true, false]) (I x) ex s' := by
  have hk : (kAt (kOf Try.prog Try.f22) [true, true, false, true, false]) = .loop (kAt (kOf Try.prog Try.f22) [true, true, false, true, false, false]) := by kernel_rfl
  rw [hk]
  exact CodeOk.loop I Inv μ hex step x hx
def LB0 (rr cw : Nat) : S0 :=
  ⟨[(4, (.c (.ptr 1 0 0))), (5, (.c (.ptr 129 0 0))), (14, (.c (.int .i64 (↑rr)))), (15, (.c (.int .i64 0)))], [(1, (.one ⟨true, true, (.cells [(.int .i64 0), (.int .i64 0), .nils, (.int .i64 0), (.int .i64 0), (.bool (false))])⟩)), (129, (.one ⟨true, true, (.cells [(.int .i64 (↑rr)), (.int .i64 (↑cw)), .nils, (.int .i64 0), (.int .i64 0), (.bool (false))])⟩))], 209⟩
theorem LB_rt (rr cw i : Nat)
    (hR : 1 ≤ rr ∧ rr ≤ 60)
    (hC : 1 ≤ cw ∧ cw ≤ 120)
    (hi : i ≤ rr)
    (h0 : ((↑i : Int) < (↑rr : Int))) :
    CodeOk Try.prog 29 209 (kAt (kOf Try.prog Try.f22) [true, true, false, true, false, false]) (LBI rr cw i) .normal ⟨[(4, (.c (.ptr 1 0 0))), (5, (.c (.ptr 129 0 0))), (14, (.c (.int .i64 (↑rr)))), (15, (.c (.int .i64 (↑(i + 1)))))], [(1, (.one ⟨true, true, (.cells [(.int .i64 0), (.int .i64 0), .nils, (.int .i64 0), (.int .i64 0), (.bool (false))])⟩)), (129, (.one ⟨true, true, (.cells [(.int .i64 (↑rr)), (.int .i64 (↑cw)), (.sl 209 0 0 (i + 1) 1), (.int .i64 0), (.int .i64 0), (.bool (false))])⟩)), (218, (.many (fun j_ => some ⟨true, true, (.ig (W.rl i (cw * 4) j_) W.ck W.blank)⟩))), (209, (.one ⟨true, false, (.gen (i + 1) (fun j_ => (renC [(217, 217), (218, 218), (369, 209), (337, 210)] 209 (bif Nat.blt j_ (mulE i 1) then C.sl 218 (0 + j_) 0 cw 4 else List.getD (List.take 1 (List.drop 0 [C.sl 337 0 0 cw 4])) (j_ - mulE i 1) C.unk))))⟩)), (210, (.one ⟨true, true, (.ig (cw * 4) W.ck W.blank)⟩))], 225⟩ :=
  CodeOk.of_runs (fuel := 300) (v := ⟨[4, 5, 14, 15], [1, 129, 217, 218, 369, 337], [(217, 217), (218, 218), (369, 209), (337, 210)], 225⟩) (hs := [(0, ⟨.auto, some (.c (.bool (true)))⟩), (8, ⟨.call [289] (.c (.sl 337 0 0 cw 4)) [] [(337, (.one ⟨true, true, (.ig (cw * 4) W.ck W.blank)⟩))], none⟩), (10, ⟨.ask, some (.c (.sl 369 0 0 (i + 1) 1))⟩), (13, ⟨.auto, some (.c (.int .i64 (↑(i + 1))))⟩)])
    (cs := [EI .i64 (IntKind.wrap IntKind.i64 ((↑i : Int) + 1)) ((↑(i + 1) : Int)),
      ((.c (.sl 369 0 0 (addO i 1) 1)) : V) = (.c (.sl 369 0 0 (i + 1) 1)),
      ((1 : Nat) ≤ (1 : Nat) ∧ (25 : Nat) * (i + (1 : Nat)) ≤ (4398046511104 : Nat) ∧ (0 : Nat) + i * (1 : Nat) ≤ i),
      Contract Try.prog 39 [(.c (.sl 289 0 0 1 4)), (.c (.int .i64 (↑cw)))] [(289, (.one ⟨true, true, (.cells [(.int .i32 32), (.int .i64 0), (.int .i64 0), (.int .i64 0)])⟩))] 337 (.c (.sl 337 0 0 cw 4)) [] [(337, (.one ⟨true, true, (.ig (cw * 4) W.ck W.blank)⟩))],
      EB (decide ((↑i : Int) < (↑rr : Int))) true])
    mixed (by kernel_rfl) ⟨.mk (by simp only [addO_eq, mulE_eq, mulE_one, Int.toNat_natCast, IntKind.wrap_i64, mmin, mmax]; omega), EV.sl (by rfl) (by simp only [addO_eq, mulE_eq, mulE_one, Int.toNat_natCast, IntKind.wrap_i64, mmin, mmax]), (by omega), Contract0.in1 (repeat_ok cw (by omega)) [.b 289 1 true []] [none, none] [(2, 337)] [] (by kernel_rfl), .mk (decide_eq_true h0), trivial⟩
theorem LB_xf (rr cw i : Nat)
    (hR : 1 ≤ rr ∧ rr ≤ 60)
    (hC : 1 ≤ cw ∧ cw ≤ 120)
    (hi : i ≤ rr)
    (h0 : (¬(↑i : Int) < (↑rr : Int))) :
    CodeOk Try.prog 29 209 (kAt (kOf Try.prog Try.f22) [true, true, false, true, false, false]) (LBI rr cw i) (.exit 0) (LBI rr cw i) :=
  CodeOk.of_runs (fuel := 300) (v := ⟨[4, 5, 14, 15], [1, 129, 217, 218], [(217, 217), (218, 218)], 225⟩) (hs := [(0, ⟨.auto, some (.c (.bool (false)))⟩)])
    (cs := [EB (decide ((↑i : Int) < (↑rr : Int))) false])
    mixed (by kernel_rfl) ⟨.mk (decide_eq_false h0), trivial⟩
end Go.Proofs.Ytohleiikedpmkaa.Vm

namespace Go.Proofs.Ytohleiikedpmkaa.Vm
open Go Go.Proofs Go.Proofs.Ytohleiikedpmkaa
theorem blank_loop (rr cw : Nat) (hR : 1 ≤ rr ∧ rr ≤ 60) (hC : 1 ≤ cw ∧ cw ≤ 120) : CodeOk Try.prog 29 209 (kAt (kOf Try.prog Try.f22) [true, true, false, true, false]) (LB0 rr cw) (.exit 0) (LBI rr cw rr) := by
  have h : CodeOk Try.prog 29 209 (kAt (kOf Try.prog Try.f22) [true, true, false, true, false]) (LBI rr cw 0) (.exit 0) (LBI rr cw rr) := by
    refine LB_by (fun i => LBI rr cw i) (fun i => i ≤ rr) (fun i => rr - i) (by simp) ?_ 0 (Nat.zero_le _)
    intro i hi
    by_cases h0 : (i : Int) < (rr : Int)
    · refine .inl ⟨i + 1, by omega, by omega, (LB_rt rr cw i hR hC hi h0).move (Move.grow (H := 217) (h' := 209) (F := 218) (N := 210) (i := i) (by decide) (show 209 ≤ 225 ∧ 217 < 225 ∧ 218 < 225 by decide) (by decide) (by decide) ?_ ?_)⟩
      · refine ⟨?_, ?_, ?_, ?_, trivial⟩
        · exact BR.cells (growRho_low (by decide)) rfl (fun h => h) ⟨⟨rfl, rfl⟩, ⟨rfl, rfl⟩, trivial, ⟨rfl, rfl⟩, ⟨rfl, rfl⟩, rfl, trivial⟩
        · exact BR.cells (growRho_low (by decide)) rfl (fun h => h) ⟨⟨rfl, rfl⟩, ⟨rfl, rfl⟩, ⟨growRho_H (by decide), rfl, rfl, rfl⟩, ⟨rfl, rfl⟩, ⟨rfl, rfl⟩, rfl, trivial⟩
        · exact BR.gen (growRho_H (by decide)) rfl (fun h => h) rfl (fun p hp => hdr_cell hp (by decide) (by decide) rfl rfl)
        · exact row_grow (by decide) (by decide) (fun j => rfl) rfl (fun h => h) (fun _ _ => rfl)
      · exact ⟨rfl, ⟨growRho_low (by decide), rfl⟩, rfl, ⟨growRho_low (by decide), rfl⟩, rfl, ⟨rfl, rfl⟩, rfl, ⟨rfl, rfl⟩, trivial⟩
    · have e : i = rr := by omega
      subst e
      exact .inr (LB_xf i cw i hR hC hi h0)
  refine CodeOk.enter (Move.begin (fun b _ => Nat.beq b 217 || Nat.beq b 218) (by decide) (show 209 ≤ 225 by decide) ?_ ?_ ?_) h
  · intro b k hb
    have hb : 225 ≤ b := hb
    rw [beqF (by omega), beqF (by omega)]; rfl
  · refine ⟨?_, ?_, ?_, ?_, trivial⟩
    · exact BR.cells (newRho_low (by decide)) rfl (fun h => h) ⟨⟨rfl, rfl⟩, ⟨rfl, rfl⟩, trivial, ⟨rfl, rfl⟩, ⟨rfl, rfl⟩, rfl, trivial⟩
    · exact BR.cells (newRho_low (by decide)) rfl (fun h => h) ⟨⟨rfl, rfl⟩, ⟨rfl, rfl⟩, rfl, ⟨rfl, rfl⟩, ⟨rfl, rfl⟩, rfl, trivial⟩
    · exact BR.none (newRho_high (by decide)) rfl rfl rfl
    · intro j k hk
      injection hk with hk
      subst hk
      exact BR.none (newRho_high (by decide)) rfl rfl (rl_ge (i := 0) (n := cw * 4) (j := j) (Nat.zero_le _))
  · exact ⟨rfl, ⟨newRho_low (by decide), rfl⟩, rfl, ⟨newRho_low (by decide), rfl⟩, rfl, ⟨rfl, rfl⟩, rfl, ⟨rfl, rfl⟩, trivial⟩
end Go.Proofs.Ytohleiikedpmkaa.Vm

namespace Go.Proofs.Ytohleiikedpmkaa.Vm
open Go Go.Proofs Go.Proofs.Ytohleiikedpmkaa
set_option maxRecDepth 100000
theorem blank_ok (rr cw : Nat)
    (hR : 1 ≤ rr ∧ rr ≤ 60)
    (hC : 1 ≤ cw ∧ cw ≤ 120) :
    Contract0 Try.prog 22 [(.c (.int .i64 (↑rr))), (.c (.int .i64 (↑cw)))] [] 1 (.agg [(.int .i64 (↑rr)), (.int .i64 (↑cw)), (.sl 1 0 0 rr 1), (.int .i64 0), (.int .i64 0), (.bool (false))]) [] [(1, (.one ⟨true, false, (.gen rr (fun j_ => (.sl 2 j_ 0 cw 4)))⟩)), (2, (.many (fun j_ => some ⟨true, true, (.ig (W.rl rr (cw * 4) j_) W.ck W.blank)⟩)))] :=
  Contract0.renum (Contract0.of_frun (res := (.agg [(.int .i64 (↑rr)), (.int .i64 (↑cw)), (.sl 217 0 0 rr 1), (.int .i64 0), (.int .i64 0), (.bool (false))])) (up := [(217, (.one ⟨true, false, (.gen rr (fun j_ => (.sl 218 j_ 0 cw 4)))⟩)), (218, (.many (fun j_ => some ⟨true, true, (.ig (W.rl rr (cw * 4) j_) W.ck W.blank)⟩)))]) (kill := []) (n0 := 1) (m := []) (args := [(.c (.int .i64 (↑rr))), (.c (.int .i64 (↑cw)))]) (fn := Try.f22) (c := bodyOf Try.f22) (fuel := 300) (k := kOf Try.prog Try.f22) (outs := [217, 218]) (hs := [(2, ⟨.auto, some (.c (.int .i64 (↑rr)))⟩), (3, ⟨.auto, some (.c (.int .i64 (↑rr)))⟩), (5, ⟨.auto, some (.c (.int .i64 (↑cw)))⟩), (6, ⟨.auto, some (.c (.int .i64 (↑cw)))⟩), (13, ⟨.sum ⟨[4, 5, 14, 15], [1, 129], [], 209⟩ (.exit 0) (LBI rr cw rr), none⟩)])
    (cs := [OwnF (fun j_ => some ⟨true, true, (.ig (W.rl rr (cw * 4) j_) W.ck W.blank)⟩),
      CodeOk Try.prog 29 209 (kAt (kOf Try.prog Try.f22) [true, true, false, true, false]) (LB0 rr cw) (.exit 0) (LBI rr cw rr),
      EI .i64 (bif decide (120 < (↑cw : Int)) then 120 else (↑cw : Int)) ((↑cw : Int)),
      EI .i64 (bif decide (1 > (↑cw : Int)) then 1 else (↑cw : Int)) ((↑cw : Int)),
      EI .i64 (bif decide (60 < (↑rr : Int)) then 60 else (↑rr : Int)) ((↑rr : Int)),
      EI .i64 (bif decide (1 > (↑rr : Int)) then 1 else (↑rr : Int)) ((↑rr : Int))])
    mixed Try.func22 (by kernel_rfl) (by kernel_rfl) (by kernel_rfl) (by kernel_rfl) (by kernel_rfl) ⟨OwnF.of (fun _ => rfl), (blank_loop rr cw (by omega) (by omega)), .mk (by simp only [addO_eq, mulE_eq, mulE_one, Int.toNat_natCast, IntKind.wrap_i64, mmin, mmax]; omega), .mk (by simp only [addO_eq, mulE_eq, mulE_one, Int.toNat_natCast, IntKind.wrap_i64, mmin, mmax]; omega), .mk (by simp only [addO_eq, mulE_eq, mulE_one, Int.toNat_natCast, IntKind.wrap_i64, mmin, mmax]; omega), .mk (by simp only [addO_eq, mulE_eq, mulE_one, Int.toNat_natCast, IntKind.wrap_i64, mmin, mmax]; omega), trivial⟩) [] [] [(217, 1), (218, 2)] [] (by kernel_rfl) (by kernel_rfl) (by kernel_rfl) (by kernel_rfl) (by kernel_rfl)
end Go.Proofs.Ytohleiikedpmkaa.Vm

namespace Go.Proofs.Ytohleiikedpmkaa.Vm
open Go Go.Proofs Go.Proofs.Ytohleiikedpmkaa
set_option maxRecDepth 100000
theorem clip60 (n : Nat)
    (hn : 1 ≤ n ∧ n ≤ 60) :
    PureF Try.prog 40 [(.c (.int .i64 (↑n))), (.c (.int .i64 1)), (.c (.int .i64 60))] (.c (.int .i64 (↑n))) :=
  Contract0.fr 300 [(4, ⟨.auto, some (.c (.int .i64 (↑n)))⟩), (5, ⟨.auto, some (.c (.int .i64 (↑(max 1 n))))⟩), (6, ⟨.auto, some (.c (.int .i64 (↑n)))⟩)] [] [EI .i64 ((↑(max 1 n) : Int)) ((↑n : Int)),
      EI .i64 (bif decide ((↑n : Int) > 1) then (↑n : Int) else 1) ((↑(max 1 n) : Int)),
      EI .i64 (bif decide (60 < (↑n : Int)) then 60 else (↑n : Int)) ((↑n : Int))] mixed Try.func40 (by kernel_rfl) ⟨.mk (by omega), .mk (by simp only [addO_eq, mulE_eq, mulE_one, Int.toNat_natCast, IntKind.wrap_i64, mmin, mmax]; omega), .mk (by simp only [addO_eq, mulE_eq, mulE_one, Int.toNat_natCast, IntKind.wrap_i64, mmin, mmax]; omega), trivial⟩
theorem clip120 (n : Nat)
    (hn : 1 ≤ n ∧ n ≤ 120) :
    PureF Try.prog 40 [(.c (.int .i64 (↑n))), (.c (.int .i64 1)), (.c (.int .i64 120))] (.c (.int .i64 (↑n))) :=
  Contract0.fr 300 [(4, ⟨.auto, some (.c (.int .i64 (↑n)))⟩), (5, ⟨.auto, some (.c (.int .i64 (↑(max 1 n))))⟩), (6, ⟨.auto, some (.c (.int .i64 (↑n)))⟩)] [] [EI .i64 ((↑(max 1 n) : Int)) ((↑n : Int)),
      EI .i64 (bif decide ((↑n : Int) > 1) then (↑n : Int) else 1) ((↑(max 1 n) : Int)),
      EI .i64 (bif decide (120 < (↑n : Int)) then 120 else (↑n : Int)) ((↑n : Int))] mixed Try.func40 (by kernel_rfl) ⟨.mk (by omega), .mk (by simp only [addO_eq, mulE_eq, mulE_one, Int.toNat_natCast, IntKind.wrap_i64, mmin, mmax]; omega), .mk (by simp only [addO_eq, mulE_eq, mulE_one, Int.toNat_natCast, IntKind.wrap_i64, mmin, mmax]; omega), trivial⟩
end Go.Proofs.Ytohleiikedpmkaa.Vm

namespace Go.Proofs.Ytohleiikedpmkaa.Vm
open Go Go.Proofs Go.Proofs.Ytohleiikedpmkaa
set_option maxRecDepth 100000
def LSI (rr cw i k : Nat) : S0 :=
  ⟨[(4, (.c (.ptr 1 0 0))), (5, (.c (.ptr 97 0 0))), (6, (.c (.int .i64 (i : Int)))), (7, (.c (.sl 257 0 0 cw 4))), (8, (.c (.int .i64 (k : Int))))], [(1, (.one ⟨true, true, (.cells [(.int .i64 0), (.int .i64 0), .nils, (.int .i64 0), (.int .i64 0), (.bool (false))])⟩)), (97, (.one ⟨true, true, .cells [.int .i64 (rr : Int), .int .i64 (cw : Int), .sl 153 0 0 i 1, .int .i64 0, .int .i64 0, .bool false]⟩)), (153, (.one ⟨true, false, .gen i (fun j_ => .sl 154 j_ 0 cw 4)⟩)), (154, (.many (fun j_ => some ⟨true, true, .ig (W.rl i (cw * 4) j_) W.ck W.blank⟩))), (257, (.one ⟨true, true, .ig (cw * 4) W.ck (W.rep k)⟩))], 100016⟩
theorem LS_by {α : Type} (I : α → S0) (Inv : α → Prop) (μ : α → Nat) {ex : Ex} {s' : S0} (hex : ex ≠ .normal)
    (step : ∀ x, Inv x → (∃ y, Inv y ∧ μ y < μ x ∧ CodeOk Try.prog 40 100000 (kAt (kOf Try.prog Try.f23) [true, true, false, true, false, false, true, false, false, true, false, true, false, false]) (I x) .normal (I y)) ∨ CodeOk Try.prog 40 100000 (kAt (kOf Try.prog Try.f23) [true, true, false, true, false, false, true, false, false, true, false, true, false, false]) (I x) ex s') (x : α) (hx : Inv x) :
    CodeOk Try.prog 40 100000 (kAt (kOf Try.prog Try.f23) [true, true, false, true, false, false, true, false, false, true, false, true, false]) (I x) ex s' := by
  have hk : (kAt (kOf Try.prog Try.f23) [true, true, false, true, false, false, true, false, false, true, false, true, false]) = .loop (kAt (kOf Try.prog Try.f23) [true, true, false, true, false, false, true, false, false, true, false, true, false, false]) := by kernel_rfl
  rw [hk]
  exact CodeOk.loop I Inv μ hex step x hx
theorem LS_rt (rr cw i k : Nat)
    (hR : 1 ≤ rr ∧ rr ≤ 60)
    (hC : 1 ≤ cw ∧ cw ≤ 120)
    (hi : i ≤ rr)
    (hk : k ≤ cw)
    (h0 : ((↑k : Int) < (↑cw : Int))) :
    CodeOk Try.prog 40 100000 (kAt (kOf Try.prog Try.f23) [true, true, false, true, false, false, true, false, false, true, false, true, false, false]) (LSI rr cw i k) .normal ⟨[(4, (.c (.ptr 1 0 0))), (5, (.c (.ptr 97 0 0))), (6, (.c (.int .i64 (↑i)))), (7, (.c (.sl 257 0 0 cw 4))), (8, (.c (.int .i64 (↑(k + 1)))))], [(1, (.one ⟨true, true, (.cells [(.int .i64 0), (.int .i64 0), .nils, (.int .i64 0), (.int .i64 0), (.bool (false))])⟩)), (97, (.one ⟨true, true, (.cells [(.int .i64 (↑rr)), (.int .i64 (↑cw)), (.sl 153 0 0 i 1), (.int .i64 0), (.int .i64 0), (.bool (false))])⟩)), (153, (.one ⟨true, false, (.gen i (fun j_ => (.sl 154 j_ 0 cw 4)))⟩)), (154, (.many (fun j_ => some ⟨true, true, (.ig (W.rl i (cw * 4) j_) W.ck W.blank)⟩))), (257, (.one ⟨true, true, (.ig (cw * 4) (fun p_ => (bif inR (k * 4) 1 p_ then igK [(IntKind.i32, 32)] (p_ - k * 4) else W.ck p_)) (fun p_ => (bif inR (k * 4) 1 p_ then igG [(IntKind.i32, 32)] (p_ - k * 4) else W.rep k p_)))⟩))], 100016⟩ :=
  CodeOk.of_runs (fuel := 300) (v := ⟨[4, 5, 6, 7, 8], [1, 97, 153, 154, 257], [], 100016⟩) (hs := [(3, ⟨.auto, some (.c (.bool (true)))⟩), (7, ⟨.ask, none⟩), (8, ⟨.auto, some (.c (.ptr 257 0 (k * 4)))⟩), (9, ⟨.ask, none⟩), (11, ⟨.auto, some (.c (.int .i64 (↑(k + 1))))⟩)])
    (cs := [EI .i64 (IntKind.wrap IntKind.i64 ((↑k : Int) + 1)) ((↑(k + 1) : Int)),
      (k * (4 : Nat) + (1 : Nat) ≤ cw * (4 : Nat) ∧ (1 : Nat) = (1 : Nat)),
      ((.c (.ptr 257 0 (addO (k * 4) 0))) : V) = (.c (.ptr 257 0 (k * 4))),
      ((0 : Int) ≤ (↑k : Int) ∧ (↑k : Int) < (↑cw : Int)),
      EB (decide ((↑k : Int) < (↑cw : Int))) true])
    mixed (by kernel_rfl) ⟨.mk (by simp only [addO_eq, mulE_eq, mulE_one, Int.toNat_natCast, IntKind.wrap_i64, mmin, mmax]; omega), (by omega), EV.ptr (by simp only [addO_eq, mulE_eq, mulE_one, Int.toNat_natCast, IntKind.wrap_i64, mmin, mmax]; omega), (by omega), .mk (decide_eq_true h0), trivial⟩
theorem LS_xf (rr cw i k : Nat)
    (hR : 1 ≤ rr ∧ rr ≤ 60)
    (hC : 1 ≤ cw ∧ cw ≤ 120)
    (hi : i ≤ rr)
    (hk : k ≤ cw)
    (h0 : (¬(↑k : Int) < (↑cw : Int))) :
    CodeOk Try.prog 40 100000 (kAt (kOf Try.prog Try.f23) [true, true, false, true, false, false, true, false, false, true, false, true, false, false]) (LSI rr cw i k) (.exit 2) (LSI rr cw i k) :=
  CodeOk.of_runs (fuel := 300) (v := ⟨[4, 5, 6, 7, 8], [1, 97, 153, 154, 257], [], 100016⟩) (hs := [(3, ⟨.auto, some (.c (.bool (false)))⟩)])
    (cs := [EB (decide ((↑k : Int) < (↑cw : Int))) false])
    mixed (by kernel_rfl) ⟨.mk (decide_eq_false h0), trivial⟩
end Go.Proofs.Ytohleiikedpmkaa.Vm

namespace Go.Proofs.Ytohleiikedpmkaa.Vm
open Go Go.Proofs Go.Proofs.Ytohleiikedpmkaa
def LSB (rr cw i : Nat) : S0 :=
  ⟨[(4, (.c (.ptr 1 0 0))), (5, (.c (.ptr 97 0 0))), (6, (.c (.int .i64 (i : Int)))), (7, (.c (.sl 257 0 0 cw 4))), (8, (.c (.int .i64 0)))], [(1, (.one ⟨true, true, (.cells [(.int .i64 0), (.int .i64 0), .nils, (.int .i64 0), (.int .i64 0), (.bool (false))])⟩)), (97, (.one ⟨true, true, .cells [.int .i64 (rr : Int), .int .i64 (cw : Int), .sl 153 0 0 i 1, .int .i64 0, .int .i64 0, .bool false]⟩)), (153, (.one ⟨true, false, .gen i (fun j_ => .sl 154 j_ 0 cw 4)⟩)), (154, (.many (fun j_ => some ⟨true, true, .ig (W.rl i (cw * 4) j_) W.ck W.blank⟩))), (257, (.one ⟨true, true, (.ig (cw * 4) (fun p_ => (igK [(IntKind.i32, 0), (IntKind.i64, 0), (IntKind.i64, 0), (IntKind.i64, 0)] (p_ % 4))) (fun p_ => (igG [(IntKind.i32, 0), (IntKind.i64, 0), (IntKind.i64, 0), (IntKind.i64, 0)] (p_ % 4))))⟩))], 100000⟩
theorem put1_ck (k p : Nat) : (bif inR (k * 4) 1 p then igK [(IntKind.i32, 32)] (p - k * 4) else W.ck p) = W.ck p := by
  cases h : inR (k * 4) 1 p with
  | false => rfl
  | true =>
    have h1 := inR_iff.1 h
    have e : p - k * 4 = 0 := by omega
    rw [e, W.ck_32 (o := p) (by omega)]; rfl
theorem put1_val (k p : Nat) : (bif inR (k * 4) 1 p then igG [(IntKind.i32, 32)] (p - k * 4) else W.rep k p) = W.rep (k + 1) p := by
  cases h : inR (k * 4) 1 p with
  | false =>
    have h1 : ¬ (k * 4 ≤ p ∧ p < k * 4 + 1) := fun e => by rw [inR_iff.2 e] at h; cases h
    show W.rep k p = W.rep (k + 1) p
    unfold W.rep W.blank
    by_cases h2 : p < 4 * k
    · simp only [if_pos h2, if_pos (show p < 4 * (k + 1) by omega)]
    · by_cases h3 : p < 4 * (k + 1)
      · simp only [if_neg h2, if_pos h3, if_neg (show ¬ p % 4 = 0 by omega)]
      · simp only [if_neg h2, if_neg h3]
  | true =>
    have h1 := inR_iff.1 h
    have e : p - k * 4 = 0 := by omega
    rw [e]
    show (32 : Int) = W.rep (k + 1) p
    unfold W.rep W.blank
    rw [if_pos (by omega), if_pos (by omega)]
theorem zero_ck (p : Nat) : igK [(IntKind.i32, 0), (IntKind.i64, 0), (IntKind.i64, 0), (IntKind.i64, 0)] (p % 4) = W.ck p := by
  have key : ∀ q, q < 4 → igK [(IntKind.i32, 0), (IntKind.i64, 0), (IntKind.i64, 0), (IntKind.i64, 0)] q = W.ck q := by decide
  rw [key (p % 4) (by omega)]
  unfold W.ck
  rw [Nat.mod_mod]
theorem zero_val (p : Nat) : igG [(IntKind.i32, 0), (IntKind.i64, 0), (IntKind.i64, 0), (IntKind.i64, 0)] (p % 4) = W.rep 0 p := by
  have key : ∀ q, q < 4 → igG [(IntKind.i32, 0), (IntKind.i64, 0), (IntKind.i64, 0), (IntKind.i64, 0)] q = 0 := by decide
  rw [key (p % 4) (by omega)]
  unfold W.rep
  rw [if_neg (by omega)]
theorem bs_inner (rr cw i : Nat) (hC : 1 ≤ cw ∧ cw ≤ 120) (hR : 1 ≤ rr ∧ rr ≤ 60) (hi : i ≤ rr) :
    CodeOk Try.prog 40 100000 (kAt (kOf Try.prog Try.f23) [true, true, false, true, false, false, true, false, false, true, false, true, false]) (LSB rr cw i) (.exit 2) (LSI rr cw i cw) := by
  have h : CodeOk Try.prog 40 100000 (kAt (kOf Try.prog Try.f23) [true, true, false, true, false, false, true, false, false, true, false, true, false]) (LSI rr cw i 0) (.exit 2) (LSI rr cw i cw) := by
    refine LS_by (fun k => LSI rr cw i k) (fun k => k ≤ cw) (fun k => cw - k) (by simp) ?_ 0 (Nat.zero_le _)
    intro k hk
    by_cases h0 : (k : Int) < (cw : Int)
    · refine .inl ⟨k + 1, by omega, by omega, (LS_rt rr cw i k hR hC hi hk h0).move (Move.same (by decide) (by decide) (by decide) rfl ?_)⟩
      exact ⟨SameB.refl rfl, SameB.refl rfl, SameB.refl rfl, fun j k e => SameB.refl e, SameB.ig rfl (fun h => h) (fun p _ => put1_ck _ p) (fun p _ => put1_val _ p), trivial⟩
    · have e : k = cw := by omega
      subst e
      exact .inr (LS_xf rr k i k hR hC hi hk h0)
  refine CodeOk.enter (Move.same (by decide) (by decide) (by decide) rfl ?_) h
  exact ⟨SameB.refl rfl, SameB.refl rfl, SameB.refl rfl, fun j k e => SameB.refl e, SameB.ig rfl (fun h => h) (fun p _ => zero_ck p) (fun p _ => zero_val p), trivial⟩
end Go.Proofs.Ytohleiikedpmkaa.Vm

namespace Go.Proofs.Ytohleiikedpmkaa.Vm
open Go Go.Proofs Go.Proofs.Ytohleiikedpmkaa
set_option maxRecDepth 100000
def LTI (rr cw i : Nat) : S0 :=
  ⟨[(4, (.c (.ptr 1 0 0))), (5, (.c (.ptr 97 0 0))), (6, (.c (.int .i64 (i : Int))))], [(1, (.one ⟨true, true, (.cells [(.int .i64 0), (.int .i64 0), .nils, (.int .i64 0), (.int .i64 0), (.bool (false))])⟩)), (97, (.one ⟨true, true, .cells [.int .i64 (rr : Int), .int .i64 (cw : Int), .sl 153 0 0 i 1, .int .i64 0, .int .i64 0, .bool false]⟩)), (153, (.one ⟨true, false, .gen i (fun j_ => .sl 154 j_ 0 cw 4)⟩)), (154, (.many (fun j_ => some ⟨true, true, .ig (W.rl i (cw * 4) j_) W.ck W.blank⟩)))], 161⟩
theorem LT_by {α : Type} (I : α → S0) (Inv : α → Prop) (μ : α → Nat) {ex : Ex} {s' : S0} (hex : ex ≠ .normal)
    (step : ∀ x, Inv x → (∃ y, Inv y ∧ μ y < μ x ∧ CodeOk Try.prog 40 145 (kAt (kOf Try.prog Try.f23) [true, true, false, true, false, false]) (I x) .normal (I y)) ∨ CodeOk Try.prog 40 145 (kAt (kOf Try.prog Try.f23) [true, true, false, true, false, false]) (I x) ex s') (x : α) (hx : Inv x) :
    CodeOk Try.prog 40 145 (kAt (kOf Try.prog Try.f23) [true, true, false, true, false]) (I x) ex s' := by
  have hk : (kAt (kOf Try.prog Try.f23) [true, true, false, true, false]) = .loop (kAt (kOf Try.prog Try.f23) [true, true, false, true, false, false]) := by kernel_rfl
  rw [hk]
  exact CodeOk.loop I Inv μ hex step x hx
def LT0 (rr cw : Nat) : S0 :=
  ⟨[(4, (.c (.ptr 1 0 0))), (5, (.c (.ptr 97 0 0))), (6, (.c (.int .i64 0)))], [(1, (.one ⟨true, true, (.cells [(.int .i64 0), (.int .i64 0), .nils, (.int .i64 0), (.int .i64 0), (.bool (false))])⟩)), (97, (.one ⟨true, true, (.cells [(.int .i64 (↑rr)), (.int .i64 (↑cw)), .nils, (.int .i64 0), (.int .i64 0), (.bool (false))])⟩))], 145⟩
theorem LT_rt (rr cw i : Nat)
    (hR : 1 ≤ rr ∧ rr ≤ 60)
    (hC : 1 ≤ cw ∧ cw ≤ 120)
    (hi : i ≤ rr)
    (h0 : ((↑i : Int) < (↑rr : Int))) :
    CodeOk Try.prog 40 145 (kAt (kOf Try.prog Try.f23) [true, true, false, true, false, false]) (LTI rr cw i) .normal ⟨[(4, (.c (.ptr 1 0 0))), (5, (.c (.ptr 97 0 0))), (6, (.c (.int .i64 (↑(i + 1)))))], [(1, (.one ⟨true, true, (.cells [(.int .i64 0), (.int .i64 0), .nils, (.int .i64 0), (.int .i64 0), (.bool (false))])⟩)), (97, (.one ⟨true, true, (.cells [(.int .i64 (↑rr)), (.int .i64 (↑cw)), (.sl 145 0 0 (i + 1) 1), (.int .i64 0), (.int .i64 0), (.bool (false))])⟩)), (154, (.many (fun j_ => some ⟨true, true, (.ig (W.rl i (cw * 4) j_) W.ck W.blank)⟩))), (145, (.one ⟨true, false, (.gen (i + 1) (fun j_ => (renC [(153, 153), (154, 154), (100080, 145), (257, 146)] 145 (bif Nat.blt j_ (mulE i 1) then C.sl 154 (0 + j_) 0 cw 4 else List.getD (List.take 1 (List.drop 0 [C.sl 257 0 0 cw 4])) (j_ - mulE i 1) C.unk))))⟩)), (146, (.one ⟨true, true, (.ig (cw * 4) W.ck (fun p_ => (W.rep cw p_)))⟩))], 161⟩ :=
  CodeOk.of_runs (fuel := 300) (v := ⟨[4, 5, 6], [1, 97, 153, 154, 100080, 257], [(153, 153), (154, 154), (100080, 145), (257, 146)], 161⟩) (hs := [(3, ⟨.auto, some (.c (.bool (true)))⟩), (7, ⟨.ask, none⟩), (10, ⟨.sum ⟨[4, 5, 6, 7, 8], [1, 97, 153, 154, 257], [], 100000⟩ (.exit 2) (LSI rr cw i cw), none⟩), (15, ⟨.ask, some (.c (.sl 100080 0 0 (i + 1) 1))⟩), (19, ⟨.auto, some (.c (.int .i64 (↑(i + 1))))⟩)])
    (cs := [EI .i64 (IntKind.wrap IntKind.i64 ((↑i : Int) + 1)) ((↑(i + 1) : Int)),
      ((.c (.sl 100080 0 0 (addO i 1) 1)) : V) = (.c (.sl 100080 0 0 (i + 1) 1)),
      ((1 : Nat) ≤ (1 : Nat) ∧ (25 : Nat) * (i + (1 : Nat)) ≤ (4398046511104 : Nat) ∧ (0 : Nat) + i * (1 : Nat) ≤ i),
      CodeOk Try.prog 40 305 (kAt (kOf Try.prog Try.f23) [true, true, false, true, false, false, true, false, false, true, false, true, false]) (LSB rr cw i) (.exit 2) (LSI rr cw i cw),
      ((0 : Int) ≤ (↑cw : Int) ∧ (↑cw : Int) ≤ (↑cw : Int) ∧ (↑cw : Int) ≤ (4294967296 : Int) ∧ (32 : Nat) * cw ≤ (4398046511104 : Nat)),
      EB (decide ((↑i : Int) < (↑rr : Int))) true])
    mixed (by kernel_rfl) ⟨.mk (by simp only [addO_eq, mulE_eq, mulE_one, Int.toNat_natCast, IntKind.wrap_i64, mmin, mmax]; omega), EV.sl (by rfl) (by simp only [addO_eq, mulE_eq, mulE_one, Int.toNat_natCast, IntKind.wrap_i64, mmin, mmax]), (by omega), (CodeOk.mono (bs_inner rr cw i (by omega) (by omega) (by omega)) (by decide)), (by omega), .mk (decide_eq_true h0), trivial⟩
theorem LT_xf (rr cw i : Nat)
    (hR : 1 ≤ rr ∧ rr ≤ 60)
    (hC : 1 ≤ cw ∧ cw ≤ 120)
    (hi : i ≤ rr)
    (h0 : (¬(↑i : Int) < (↑rr : Int))) :
    CodeOk Try.prog 40 145 (kAt (kOf Try.prog Try.f23) [true, true, false, true, false, false]) (LTI rr cw i) (.exit 0) (LTI rr cw i) :=
  CodeOk.of_runs (fuel := 300) (v := ⟨[4, 5, 6], [1, 97, 153, 154], [(153, 153), (154, 154)], 161⟩) (hs := [(3, ⟨.auto, some (.c (.bool (false)))⟩)])
    (cs := [EB (decide ((↑i : Int) < (↑rr : Int))) false])
    mixed (by kernel_rfl) ⟨.mk (decide_eq_false h0), trivial⟩
end Go.Proofs.Ytohleiikedpmkaa.Vm

namespace Go.Proofs.Ytohleiikedpmkaa.Vm
open Go Go.Proofs Go.Proofs.Ytohleiikedpmkaa
theorem bs_loop (rr cw : Nat) (hR : 1 ≤ rr ∧ rr ≤ 60) (hC : 1 ≤ cw ∧ cw ≤ 120) : CodeOk Try.prog 40 145 (kAt (kOf Try.prog Try.f23) [true, true, false, true, false]) (LT0 rr cw) (.exit 0) (LTI rr cw rr) := by
  have h : CodeOk Try.prog 40 145 (kAt (kOf Try.prog Try.f23) [true, true, false, true, false]) (LTI rr cw 0) (.exit 0) (LTI rr cw rr) := by
    refine LT_by (fun i => LTI rr cw i) (fun i => i ≤ rr) (fun i => rr - i) (by simp) ?_ 0 (Nat.zero_le _)
    intro i hi
    by_cases h0 : (i : Int) < (rr : Int)
    · refine .inl ⟨i + 1, by omega, by omega, (LT_rt rr cw i hR hC hi h0).move (Move.grow (H := 153) (h' := 145) (F := 154) (N := 146) (i := i) (by decide) (show 145 ≤ 161 ∧ 153 < 161 ∧ 154 < 161 by decide) (by decide) (by decide) ?_ ?_)⟩
      · refine ⟨?_, ?_, ?_, ?_, trivial⟩
        · exact BR.cells (growRho_low (by decide)) rfl (fun h => h) ⟨⟨rfl, rfl⟩, ⟨rfl, rfl⟩, trivial, ⟨rfl, rfl⟩, ⟨rfl, rfl⟩, rfl, trivial⟩
        · exact BR.cells (growRho_low (by decide)) rfl (fun h => h) ⟨⟨rfl, rfl⟩, ⟨rfl, rfl⟩, ⟨growRho_H (by decide), rfl, rfl, rfl⟩, ⟨rfl, rfl⟩, ⟨rfl, rfl⟩, rfl, trivial⟩
        · exact BR.gen (growRho_H (by decide)) rfl (fun h => h) rfl (fun p hp => hdr_cell hp (by decide) (by decide) rfl rfl)
        · refine row_grow (by decide) (by decide) (fun j => rfl) rfl (fun h => h) (fun p hp => ?_)
          show W.blank p = W.rep cw p
          unfold W.rep
          rw [if_pos (by omega)]
      · exact ⟨rfl, ⟨growRho_low (by decide), rfl⟩, rfl, ⟨growRho_low (by decide), rfl⟩, rfl, ⟨rfl, rfl⟩, trivial⟩
    · have e : i = rr := by omega
      subst e
      exact .inr (LT_xf i cw i hR hC hi h0)
  refine CodeOk.enter (Move.begin (fun b _ => Nat.beq b 153 || Nat.beq b 154) (by decide) (show 145 ≤ 161 by decide) ?_ ?_ ?_) h
  · intro b k hb
    have hb : 161 ≤ b := hb
    rw [beqF (by omega), beqF (by omega)]; rfl
  · refine ⟨?_, ?_, ?_, ?_, trivial⟩
    · exact BR.cells (newRho_low (by decide)) rfl (fun h => h) ⟨⟨rfl, rfl⟩, ⟨rfl, rfl⟩, trivial, ⟨rfl, rfl⟩, ⟨rfl, rfl⟩, rfl, trivial⟩
    · exact BR.cells (newRho_low (by decide)) rfl (fun h => h) ⟨⟨rfl, rfl⟩, ⟨rfl, rfl⟩, rfl, ⟨rfl, rfl⟩, ⟨rfl, rfl⟩, rfl, trivial⟩
    · exact BR.none (newRho_high (by decide)) rfl rfl rfl
    · intro j k hk
      injection hk with hk
      subst hk
      exact BR.none (newRho_high (by decide)) rfl rfl (rl_ge (i := 0) (n := cw * 4) (j := j) (Nat.zero_le _))
  · exact ⟨rfl, ⟨newRho_low (by decide), rfl⟩, rfl, ⟨newRho_low (by decide), rfl⟩, rfl, ⟨rfl, rfl⟩, trivial⟩
end Go.Proofs.Ytohleiikedpmkaa.Vm

namespace Go.Proofs.Ytohleiikedpmkaa.Vm
open Go Go.Proofs Go.Proofs.Ytohleiikedpmkaa
set_option maxRecDepth 100000
theorem bs_ok (rr cw : Nat)
    (hR : 1 ≤ rr ∧ rr ≤ 60)
    (hC : 1 ≤ cw ∧ cw ≤ 120) :
    Contract0 Try.prog 23 [(.c (.int .i64 (↑rr))), (.c (.int .i64 (↑cw)))] [] 1 (.agg [(.int .i64 (↑rr)), (.int .i64 (↑cw)), (.sl 1 0 0 rr 1), (.int .i64 0), (.int .i64 0), (.bool (false))]) [] [(1, (.one ⟨true, false, (.gen rr (fun j_ => (.sl 2 j_ 0 cw 4)))⟩)), (2, (.many (fun j_ => some ⟨true, true, (.ig (W.rl rr (cw * 4) j_) W.ck W.blank)⟩)))] :=
  Contract0.renum (Contract0.of_frun (res := (.agg [(.int .i64 (↑rr)), (.int .i64 (↑cw)), (.sl 153 0 0 rr 1), (.int .i64 0), (.int .i64 0), (.bool (false))])) (up := [(153, (.one ⟨true, false, (.gen rr (fun j_ => (.sl 154 j_ 0 cw 4)))⟩)), (154, (.many (fun j_ => some ⟨true, true, (.ig (W.rl rr (cw * 4) j_) W.ck W.blank)⟩)))]) (kill := []) (n0 := 1) (m := []) (args := [(.c (.int .i64 (↑rr))), (.c (.int .i64 (↑cw)))]) (fn := Try.f23) (c := bodyOf Try.f23) (fuel := 300) (k := kOf Try.prog Try.f23) (outs := [153, 154]) (hs := [(2, ⟨.call [] (.c (.int .i64 (↑rr))) [] [], none⟩), (4, ⟨.call [] (.c (.int .i64 (↑cw))) [] [], none⟩), (9, ⟨.sum ⟨[4, 5, 6], [1, 97], [], 145⟩ (.exit 0) (LTI rr cw rr), none⟩)])
    (cs := [OwnF (fun j_ => some ⟨true, true, (.ig (W.rl rr (cw * 4) j_) W.ck W.blank)⟩),
      CodeOk Try.prog 40 145 (kAt (kOf Try.prog Try.f23) [true, true, false, true, false]) (LT0 rr cw) (.exit 0) (LTI rr cw rr),
      Contract Try.prog 40 [(.c (.int .i64 (↑cw))), (.c (.int .i64 1)), (.c (.int .i64 120))] [] 65 (.c (.int .i64 (↑cw))) [] [],
      Contract Try.prog 40 [(.c (.int .i64 (↑rr))), (.c (.int .i64 1)), (.c (.int .i64 60))] [] 33 (.c (.int .i64 (↑rr))) [] []])
    mixed Try.func23 (by kernel_rfl) (by kernel_rfl) (by kernel_rfl) (by kernel_rfl) (by kernel_rfl) ⟨OwnF.of (fun _ => rfl), (bs_loop rr cw (by omega) (by omega)), Contract0.in1 (clip120 cw (by omega)) [] [none, none, none] [] [] (by kernel_rfl), Contract0.in1 (clip60 rr (by omega)) [] [none, none, none] [] [] (by kernel_rfl), trivial⟩) [] [] [(153, 1), (154, 2)] [] (by kernel_rfl) (by kernel_rfl) (by kernel_rfl) (by kernel_rfl) (by kernel_rfl)
theorem pickraw_t (a b : Int)
    (ha : -9223372036854775808 ≤ a ∧ a < 9223372036854775808)
    (hb : 0 < b ∧ b < 4294967296)
    (h0 : (Int.tmod a b < (0 : Int))) :
    PureF Try.prog 14 [(.c (.int .i64 a)), (.c (.int .i64 b))] (.c (.int .i64 (IntKind.wrap IntKind.i64 (Int.tmod a b + b)))) :=
  Contract0.fr 300 [(3, ⟨.ask, none⟩), (6, ⟨.auto, some (.c (.bool (true)))⟩)] [] [EB (decide (Int.tmod a b < 0)) true,
      (b ≠ (0 : Int))] mixed Try.func14 (by kernel_rfl) ⟨.mk (decide_eq_true h0), (by omega), trivial⟩
theorem pickraw_f (a b : Int)
    (ha : -9223372036854775808 ≤ a ∧ a < 9223372036854775808)
    (hb : 0 < b ∧ b < 4294967296)
    (h0 : (¬Int.tmod a b < (0 : Int))) :
    PureF Try.prog 14 [(.c (.int .i64 a)), (.c (.int .i64 b))] (.c (.int .i64 (Int.tmod a b))) :=
  Contract0.fr 300 [(3, ⟨.ask, none⟩), (6, ⟨.auto, some (.c (.bool (false)))⟩)] [] [EB (decide (Int.tmod a b < 0)) false,
      (b ≠ (0 : Int))] mixed Try.func14 (by kernel_rfl) ⟨.mk (decide_eq_false h0), (by omega), trivial⟩
end Go.Proofs.Ytohleiikedpmkaa.Vm

namespace Go.Proofs.Ytohleiikedpmkaa.W
open Go Go.Proofs.Ytohleiikedpmkaa.Vm
def pick (a b : Int) : Nat := (a % b).toNat
theorem pick_lt {a b : Int} (h : 0 < b) : (pick a b : Int) < b := by
  have h1 := Int.emod_nonneg a (Int.ne_of_gt h)
  have h2 := Int.emod_lt_of_pos a h
  unfold pick; omega
end Go.Proofs.Ytohleiikedpmkaa.W
namespace Go.Proofs.Ytohleiikedpmkaa.Vm
open Go Go.Proofs Go.Proofs.Ytohleiikedpmkaa
theorem pick_ok (a b : Int) (ha : -9223372036854775808 ≤ a ∧ a < 9223372036854775808) (hb : 0 < b ∧ b < 4294967296) : PureF Try.prog 14 [(.c (.int .i64 a)), (.c (.int .i64 b))] (.c (.int .i64 ((W.pick a b : Nat) : Int))) := by
  have h1 := Int.tmod_eq_emod (a := a) (b := b)
  have h2 := Int.emod_nonneg a (show b ≠ 0 by omega)
  have h3 := Int.emod_lt_of_pos a hb.1
  have e0 : ((W.pick a b : Nat) : Int) = a % b := by unfold W.pick; omega
  rw [e0]
  by_cases h : a.tmod b < 0
  · have run := pickraw_t a b ha hb h
    have e : IntKind.i64.wrap (a.tmod b + b) = a % b := by
      rw [EI.wrapI (by have := Int.lt_tmod_of_pos a hb.1; omega)]
      split at h1 <;> omega
    rwa [e] at run
  · have run := pickraw_f a b ha hb h
    have e : a.tmod b = a % b := by split at h1 <;> omega
    rwa [e] at run
end Go.Proofs.Ytohleiikedpmkaa.Vm
namespace Go.Proofs.Ytohleiikedpmkaa.W
open Go Go.Proofs.Ytohleiikedpmkaa.Vm
theorem i64r (x : Int) : -9223372036854775808 ≤ IntKind.wrap IntKind.i64 x ∧ IntKind.wrap IntKind.i64 x < 9223372036854775808 := by
  simp only [IntKind.wrap, IntKind.signed, IntKind.bits]
  simp
  constructor <;> omega
theorem scr_side {a b : Int} {rr cw : Nat} (h1 : 1 ≤ rr) (h2 : 1 ≤ cw) : W.pick b cw * 4 + 4 ≤ W.rl rr (cw * 4) (W.pick a rr) := by
  have p1 := pick_lt (a := a) (b := (rr : Int)) (by omega)
  have p2 := pick_lt (a := b) (b := (cw : Int)) (by omega)
  have e : W.rl rr (cw * 4) (W.pick a rr) = cw * 4 := by
    unfold W.rl
    rw [show Nat.blt (W.pick a rr) rr = true from by rw [Nat.blt_eq]; omega]; rfl
  rw [e]; omega
end Go.Proofs.Ytohleiikedpmkaa.W

namespace Go.Proofs.Ytohleiikedpmkaa.Vm
open Go Go.Proofs Go.Proofs.Ytohleiikedpmkaa
set_option maxRecDepth 100000
def LCI (l : List Int) (o n rr cw : Nat) (X : Nat → Nat → Int) (ro co : Int) (hi : Bool) (i : Nat) : S0 :=
  ⟨[(2, (.c (.sl 1 0 o n 1))), (6, (.c (.ptr 2 0 0))), (7, (.c (.ptr 130 0 0))), (8, (.c (.int .i64 (i : Int))))], [(1, (.one ⟨false, false, (.ints .i64 l)⟩)), (2, (.one ⟨true, true, (.cells [(.int .i64 0), (.int .i64 0), .nils, (.int .i64 0), (.int .i64 0), (.bool (false))])⟩)), (114, (.one ⟨true, false, .gen rr (fun j_ => .sl 115 j_ 0 cw 4)⟩)), (115, (.many (fun j_ => some ⟨true, true, .ig (W.rl rr (cw * 4) j_) W.ck (X j_)⟩))), (130, (.one ⟨true, true, .cells [.int .i64 (rr : Int), .int .i64 (cw : Int), .sl 114 0 0 rr 1, .int .i64 ro, .int .i64 co, .bool hi]⟩))], 194⟩
theorem LC_by {α : Type} (I : α → S0) (Inv : α → Prop) (μ : α → Nat) {ex : Ex} {s' : S0} (hex : ex ≠ .normal)
    (step : ∀ x, Inv x → (∃ y, Inv y ∧ μ y < μ x ∧ CodeOk Try.prog 77 178 (kAt (kOf Try.prog Try.f10) [true, true, false, true, false, false]) (I x) .normal (I y)) ∨ CodeOk Try.prog 77 178 (kAt (kOf Try.prog Try.f10) [true, true, false, true, false, false]) (I x) ex s') (x : α) (hx : Inv x) :
    CodeOk Try.prog 77 178 (kAt (kOf Try.prog Try.f10) [true, true, false, true, false]) (I x) ex s' := by
  have hk : (kAt (kOf Try.prog Try.f10) [true, true, false, true, false]) = .loop (kAt (kOf Try.prog Try.f10) [true, true, false, true, false, false]) := by kernel_rfl
  rw [hk]
  exact CodeOk.loop I Inv μ hex step x hx
def LC0 (rows cols : Int) (l : List Int) (o n : Nat) : S0 :=
  ⟨[(2, (.c (.sl 1 0 o n 1))), (6, (.c (.ptr 2 0 0))), (7, (.c (.ptr 130 0 0))), (8, (.c (.int .i64 0)))], [(1, (.one ⟨false, false, (.ints .i64 l)⟩)), (2, (.one ⟨true, true, (.cells [(.int .i64 0), (.int .i64 0), .nils, (.int .i64 0), (.int .i64 0), (.bool (false))])⟩)), (114, (.one ⟨true, false, (.gen (1 + W.pick rows 6) (fun j_ => (.sl 115 j_ 0 (1 + W.pick cols 9) 4)))⟩)), (115, (.many (fun j_ => some ⟨true, true, (.ig (W.rl (1 + W.pick rows 6) ((1 + W.pick cols 9) * 4) j_) W.ck W.blank)⟩))), (130, (.one ⟨true, true, (.cells [(.int .i64 (↑(1 + W.pick rows 6))), (.int .i64 (↑(1 + W.pick cols 9))), (.sl 114 0 0 (1 + W.pick rows 6) 1), (.int .i64 0), (.int .i64 0), (.bool (false))])⟩))], 178⟩
theorem LC_rtt (rows cols : Int) (l : List Int) (o n rr cw : Nat) (X : Nat → Nat → Int) (ro co : Int) (hi : Bool) (i : Nat)
    (hr : -9223372036854775808 ≤ rows ∧ rows < 9223372036854775808)
    (hc : -9223372036854775808 ≤ cols ∧ cols < 9223372036854775808)
    (hl : o + n ≤ l.length)
    (hn : n ≤ 1048576)
    (h6 : W.pick rows 6 < 6)
    (h9 : W.pick cols 9 < 9)
    (hlb : ∀ j, -9223372036854775808 ≤ List.getD l j 0 ∧ List.getD l j 0 < 9223372036854775808)
    (hrr : 1 ≤ rr ∧ rr ≤ 6)
    (hcw : 1 ≤ cw ∧ cw ≤ 9)
    (hil : i ≤ 60)
    (h0 : ((↑i : Int) < (↑n : Int)))
    (h1 : ((↑i : Int) < (60 : Int)))
    (c2 : (W.pick (List.getD l (o + i) (0 : Int)) (↑rr : Int) + (1 : Nat) ≤ rr)) :
    CodeOk Try.prog 77 178 (kAt (kOf Try.prog Try.f10) [true, true, false, true, false, false]) (LCI l o n rr cw X ro co hi i) .normal ⟨[(2, (.c (.sl 1 0 o n 1))), (6, (.c (.ptr 2 0 0))), (7, (.c (.ptr 130 0 0))), (8, (.c (.int .i64 (↑(i + 1)))))], [(1, (.one ⟨false, false, (.ints .i64 l)⟩)), (2, (.one ⟨true, true, (.cells [(.int .i64 0), (.int .i64 0), .nils, (.int .i64 0), (.int .i64 0), (.bool (false))])⟩)), (114, (.one ⟨true, false, (.gen rr (fun j_ => (.sl 115 j_ 0 cw 4)))⟩)), (115, (.many (renF [] 178 (updF (fun j_ => some ⟨true, true, (.ig (W.rl rr (cw * 4) j_) W.ck (fun p_ => (X j_ p_)))⟩) (W.pick (List.getD l (o + i) 0) ↑rr) ⟨true, true, (.ig (W.rl rr (cw * 4) (W.pick (List.getD l (o + i) 0) ↑rr)) (fun p_ => (bif inR (W.pick (IntKind.wrap IntKind.i64 (Int.tdiv (List.getD l (o + i) 0) 7)) (↑cw : Int) * 4) (List.length [(IntKind.i32, List.getD [97, 98, 8364, 32] (W.pick (IntKind.wrap IntKind.i64 (Int.tdiv (List.getD l (o + i) 0) 70)) 4) 0), (IntKind.i64, (↑(W.pick (IntKind.wrap IntKind.i64 (Int.tdiv (List.getD l (o + i) 0) 300)) 9) : Int)), (IntKind.i64, (↑(W.pick (IntKind.wrap IntKind.i64 (Int.tdiv (List.getD l (o + i) 0) 3000)) 9) : Int)), (IntKind.i64, (↑(W.pick (IntKind.wrap IntKind.i64 (Int.tdiv (List.getD l (o + i) 0) 30000)) 8) : Int))]) p_ then igK [(IntKind.i32, List.getD [97, 98, 8364, 32] (W.pick (IntKind.wrap IntKind.i64 (Int.tdiv (List.getD l (o + i) 0) 70)) 4) 0), (IntKind.i64, (↑(W.pick (IntKind.wrap IntKind.i64 (Int.tdiv (List.getD l (o + i) 0) 300)) 9) : Int)), (IntKind.i64, (↑(W.pick (IntKind.wrap IntKind.i64 (Int.tdiv (List.getD l (o + i) 0) 3000)) 9) : Int)), (IntKind.i64, (↑(W.pick (IntKind.wrap IntKind.i64 (Int.tdiv (List.getD l (o + i) 0) 30000)) 8) : Int))] (p_ - W.pick (IntKind.wrap IntKind.i64 (Int.tdiv (List.getD l (o + i) 0) 7)) (↑cw : Int) * 4) else W.ck p_)) (fun p_ => (bif inR (W.pick (IntKind.wrap IntKind.i64 (Int.tdiv (List.getD l (o + i) 0) 7)) (↑cw : Int) * 4) (List.length [(IntKind.i32, List.getD [97, 98, 8364, 32] (W.pick (IntKind.wrap IntKind.i64 (Int.tdiv (List.getD l (o + i) 0) 70)) 4) 0), (IntKind.i64, (↑(W.pick (IntKind.wrap IntKind.i64 (Int.tdiv (List.getD l (o + i) 0) 300)) 9) : Int)), (IntKind.i64, (↑(W.pick (IntKind.wrap IntKind.i64 (Int.tdiv (List.getD l (o + i) 0) 3000)) 9) : Int)), (IntKind.i64, (↑(W.pick (IntKind.wrap IntKind.i64 (Int.tdiv (List.getD l (o + i) 0) 30000)) 8) : Int))]) p_ then igG [(IntKind.i32, List.getD [97, 98, 8364, 32] (W.pick (IntKind.wrap IntKind.i64 (Int.tdiv (List.getD l (o + i) 0) 70)) 4) 0), (IntKind.i64, (↑(W.pick (IntKind.wrap IntKind.i64 (Int.tdiv (List.getD l (o + i) 0) 300)) 9) : Int)), (IntKind.i64, (↑(W.pick (IntKind.wrap IntKind.i64 (Int.tdiv (List.getD l (o + i) 0) 3000)) 9) : Int)), (IntKind.i64, (↑(W.pick (IntKind.wrap IntKind.i64 (Int.tdiv (List.getD l (o + i) 0) 30000)) 8) : Int))] (p_ - W.pick (IntKind.wrap IntKind.i64 (Int.tdiv (List.getD l (o + i) 0) 7)) (↑cw : Int) * 4) else X (W.pick (List.getD l (o + i) 0) (↑rr : Int)) p_)))⟩)))), (130, (.one ⟨true, true, (.cells [(.int .i64 (↑rr)), (.int .i64 (↑cw)), (.sl 114 0 0 rr 1), (.int .i64 (↑(W.pick (IntKind.wrap IntKind.i64 (Int.tdiv (List.getD l (o + i) 0) 11)) ↑rr))), (.int .i64 (↑(W.pick (IntKind.wrap IntKind.i64 (Int.tdiv (List.getD l (o + i) 0) 13)) ↑cw))), (.bool (Int.tmod (List.getD l (o + i) 0) 5 == 0))])⟩))], 194⟩ :=
  CodeOk.of_runs (fuel := 300) (v := ⟨[2, 6, 7, 8], [1, 2, 114, 115, 130], [], 194⟩) (hs := [(4, ⟨.auto, some (.c (.bool (true)))⟩), (7, ⟨.auto, some (.c (.bool (true)))⟩), (11, ⟨.ask, some (.c (.ptr 1 0 (o + i)))⟩), (12, ⟨.ask, none⟩), (19, ⟨.call [] (.c (.int .i64 (↑(W.pick (List.getD l (o + i) 0) ↑rr)))) [] [], none⟩), (20, ⟨.ask, none⟩), (21, ⟨.ask, none⟩), (26, ⟨.call [] (.c (.int .i64 (↑(W.pick (IntKind.wrap IntKind.i64 (Int.tdiv (List.getD l (o + i) 0) 7)) ↑cw)))) [] [], none⟩), (30, ⟨.call [] (.c (.int .i64 (↑(W.pick (IntKind.wrap IntKind.i64 (Int.tdiv (List.getD l (o + i) 0) 70)) 4)))) [] [], none⟩), (31, ⟨.ask, some (.c (.int .i32 (List.getD [97, 98, 8364, 32] (W.pick (IntKind.wrap IntKind.i64 (Int.tdiv (List.getD l (o + i) 0) 70)) 4) 0)))⟩), (34, ⟨.call [] (.c (.int .i64 (↑(W.pick (IntKind.wrap IntKind.i64 (Int.tdiv (List.getD l (o + i) 0) 300)) 9)))) [] [], none⟩), (37, ⟨.call [] (.c (.int .i64 (↑(W.pick (IntKind.wrap IntKind.i64 (Int.tdiv (List.getD l (o + i) 0) 3000)) 9)))) [] [], none⟩), (40, ⟨.call [] (.c (.int .i64 (↑(W.pick (IntKind.wrap IntKind.i64 (Int.tdiv (List.getD l (o + i) 0) 30000)) 8)))) [] [], none⟩), (42, ⟨.ask, none⟩), (43, ⟨.ask, none⟩), (48, ⟨.call [] (.c (.int .i64 (↑(W.pick (IntKind.wrap IntKind.i64 (Int.tdiv (List.getD l (o + i) 0) 11)) ↑rr)))) [] [], none⟩), (55, ⟨.call [] (.c (.int .i64 (↑(W.pick (IntKind.wrap IntKind.i64 (Int.tdiv (List.getD l (o + i) 0) 13)) ↑cw)))) [] [], none⟩), (64, ⟨.auto, some (.c (.int .i64 (↑(i + 1))))⟩)])
    (cs := [EI .i64 (IntKind.wrap IntKind.i64 ((↑i : Int) + 1)) ((↑(i + 1) : Int)),
      Contract Try.prog 14 [(.c (.int .i64 (IntKind.wrap IntKind.i64 (Int.tdiv (List.getD l (o + i) 0) 13)))), (.c (.int .i64 (↑cw)))] [] 1058 (.c (.int .i64 (↑(W.pick (IntKind.wrap IntKind.i64 (Int.tdiv (List.getD l (o + i) 0) 13)) ↑cw)))) [] [],
      Contract Try.prog 14 [(.c (.int .i64 (IntKind.wrap IntKind.i64 (Int.tdiv (List.getD l (o + i) 0) 11)))), (.c (.int .i64 (↑rr)))] [] 946 (.c (.int .i64 (↑(W.pick (IntKind.wrap IntKind.i64 (Int.tdiv (List.getD l (o + i) 0) 11)) ↑rr)))) [] [],
      (W.pick (IntKind.wrap IntKind.i64 (Int.tdiv (List.getD l (o + i) (0 : Int)) (7 : Int))) (↑cw : Int) * (4 : Nat) + (4 : Nat) ≤ W.rl rr (cw * (4 : Nat)) (W.pick (List.getD l (o + i) (0 : Int)) (↑rr : Int)) ∧ (4 : Nat) = (4 : Nat)),
      ((0 : Int) ≤ (↑(W.pick (IntKind.wrap IntKind.i64 (Int.tdiv (List.getD l (o + i) (0 : Int)) (7 : Int))) (↑cw : Int)) : Int) ∧ (↑(W.pick (IntKind.wrap IntKind.i64 (Int.tdiv (List.getD l (o + i) (0 : Int)) (7 : Int))) (↑cw : Int)) : Int) < (↑cw : Int)),
      Contract Try.prog 14 [(.c (.int .i64 (IntKind.wrap IntKind.i64 (Int.tdiv (List.getD l (o + i) 0) 30000)))), (.c (.int .i64 8))] [] 818 (.c (.int .i64 (↑(W.pick (IntKind.wrap IntKind.i64 (Int.tdiv (List.getD l (o + i) 0) 30000)) 8)))) [] [],
      Contract Try.prog 14 [(.c (.int .i64 (IntKind.wrap IntKind.i64 (Int.tdiv (List.getD l (o + i) 0) 3000)))), (.c (.int .i64 9))] [] 770 (.c (.int .i64 (↑(W.pick (IntKind.wrap IntKind.i64 (Int.tdiv (List.getD l (o + i) 0) 3000)) 9)))) [] [],
      Contract Try.prog 14 [(.c (.int .i64 (IntKind.wrap IntKind.i64 (Int.tdiv (List.getD l (o + i) 0) 300)))), (.c (.int .i64 9))] [] 722 (.c (.int .i64 (↑(W.pick (IntKind.wrap IntKind.i64 (Int.tdiv (List.getD l (o + i) 0) 300)) 9)))) [] [],
      ((.c (Body.get (.cells [(.int .i32 97), (.int .i32 98), (.int .i32 8364), (.int .i32 32)]) (Int.toNat (↑(W.pick (IntKind.wrap IntKind.i64 (Int.tdiv (List.getD l (o + i) 0) 70)) 4) : Int)))) : V) = (.c (.int .i32 (List.getD [97, 98, 8364, 32] (W.pick (IntKind.wrap IntKind.i64 (Int.tdiv (List.getD l (o + i) 0) 70)) 4) 0))),
      ((0 : Int) ≤ (↑(W.pick (IntKind.wrap IntKind.i64 (Int.tdiv (List.getD l (o + i) (0 : Int)) (70 : Int))) (4 : Int)) : Int) ∧ (↑(W.pick (IntKind.wrap IntKind.i64 (Int.tdiv (List.getD l (o + i) (0 : Int)) (70 : Int))) (4 : Int)) : Int) < (4 : Int) ∧ (4 : Nat) = (4 : Nat)),
      Contract Try.prog 14 [(.c (.int .i64 (IntKind.wrap IntKind.i64 (Int.tdiv (List.getD l (o + i) 0) 70)))), (.c (.int .i64 4))] [] 658 (.c (.int .i64 (↑(W.pick (IntKind.wrap IntKind.i64 (Int.tdiv (List.getD l (o + i) 0) 70)) 4)))) [] [],
      Contract Try.prog 14 [(.c (.int .i64 (IntKind.wrap IntKind.i64 (Int.tdiv (List.getD l (o + i) 0) 7)))), (.c (.int .i64 (↑cw)))] [] 594 (.c (.int .i64 (↑(W.pick (IntKind.wrap IntKind.i64 (Int.tdiv (List.getD l (o + i) 0) 7)) ↑cw)))) [] [],
      (W.pick (List.getD l (o + i) (0 : Int)) (↑rr : Int) + (1 : Nat) ≤ rr),
      ((0 : Int) ≤ (↑(W.pick (List.getD l (o + i) (0 : Int)) (↑rr : Int)) : Int) ∧ (↑(W.pick (List.getD l (o + i) (0 : Int)) (↑rr : Int)) : Int) < (↑rr : Int)),
      Contract Try.prog 14 [(.c (.int .i64 (List.getD l (o + i) 0))), (.c (.int .i64 (↑rr)))] [] 482 (.c (.int .i64 (↑(W.pick (List.getD l (o + i) 0) ↑rr)))) [] [],
      (o + i + (1 : Nat) ≤ List.length l),
      ((.c (.ptr 1 0 (addO o i))) : V) = (.c (.ptr 1 0 (o + i))),
      ((0 : Int) ≤ (↑i : Int) ∧ (↑i : Int) < (↑n : Int)),
      EB (decide ((↑i : Int) < 60)) true,
      EB (decide ((↑i : Int) < (↑n : Int))) true])
    mixed (by kernel_rfl) ⟨.mk (by simp only [addO_eq, mulE_eq, mulE_one, Int.toNat_natCast, IntKind.wrap_i64, mmin, mmax]; omega), Contract0.in1 (pick_ok (IntKind.wrap IntKind.i64 (Int.tdiv (List.getD l (o + i) 0) 13)) ((↑cw : Int)) (by exact W.i64r _) (by omega)) [] [none, none] [] [] (by kernel_rfl), Contract0.in1 (pick_ok (IntKind.wrap IntKind.i64 (Int.tdiv (List.getD l (o + i) 0) 11)) ((↑rr : Int)) (by exact W.i64r _) (by omega)) [] [none, none] [] [] (by kernel_rfl), (by exact ⟨W.scr_side (by omega) (by omega), rfl⟩), (by exact ⟨by omega, W.pick_lt (by omega)⟩), Contract0.in1 (pick_ok (IntKind.wrap IntKind.i64 (Int.tdiv (List.getD l (o + i) 0) 30000)) 8 (by exact W.i64r _) (by omega)) [] [none, none] [] [] (by kernel_rfl), Contract0.in1 (pick_ok (IntKind.wrap IntKind.i64 (Int.tdiv (List.getD l (o + i) 0) 3000)) 9 (by exact W.i64r _) (by omega)) [] [none, none] [] [] (by kernel_rfl), Contract0.in1 (pick_ok (IntKind.wrap IntKind.i64 (Int.tdiv (List.getD l (o + i) 0) 300)) 9 (by exact W.i64r _) (by omega)) [] [none, none] [] [] (by kernel_rfl), EV.ixk (q := [97, 98, 8364, 32]) (by show _ < 4; have := W.pick_lt (a := IntKind.wrap IntKind.i64 (Int.tdiv (List.getD l (o + i) 0) 70)) (b := 4) (by decide); omega), (by have := W.pick_lt (a := IntKind.wrap IntKind.i64 (Int.tdiv (List.getD l (o + i) 0) 70)) (b := 4) (by decide); omega), Contract0.in1 (pick_ok (IntKind.wrap IntKind.i64 (Int.tdiv (List.getD l (o + i) 0) 70)) 4 (by exact W.i64r _) (by omega)) [] [none, none] [] [] (by kernel_rfl), Contract0.in1 (pick_ok (IntKind.wrap IntKind.i64 (Int.tdiv (List.getD l (o + i) 0) 7)) ((↑cw : Int)) (by exact W.i64r _) (by omega)) [] [none, none] [] [] (by kernel_rfl), c2, (by exact ⟨by omega, W.pick_lt (by omega)⟩), Contract0.in1 (pick_ok (List.getD l (o + i) 0) ((↑rr : Int)) (by exact hlb _) (by omega)) [] [none, none] [] [] (by kernel_rfl), (by omega), EV.ptr (by simp only [addO_eq, mulE_eq, mulE_one, Int.toNat_natCast, IntKind.wrap_i64, mmin, mmax]), (by omega), .mk (decide_eq_true h1), .mk (decide_eq_true h0), trivial⟩
theorem LC_xtf (rows cols : Int) (l : List Int) (o n rr cw : Nat) (X : Nat → Nat → Int) (ro co : Int) (hi : Bool) (i : Nat)
    (hr : -9223372036854775808 ≤ rows ∧ rows < 9223372036854775808)
    (hc : -9223372036854775808 ≤ cols ∧ cols < 9223372036854775808)
    (hl : o + n ≤ l.length)
    (hn : n ≤ 1048576)
    (h6 : W.pick rows 6 < 6)
    (h9 : W.pick cols 9 < 9)
    (hlb : ∀ j, -9223372036854775808 ≤ List.getD l j 0 ∧ List.getD l j 0 < 9223372036854775808)
    (hrr : 1 ≤ rr ∧ rr ≤ 6)
    (hcw : 1 ≤ cw ∧ cw ≤ 9)
    (hil : i ≤ 60)
    (h0 : ((↑i : Int) < (↑n : Int)))
    (h1 : (¬(↑i : Int) < (60 : Int))) :
    CodeOk Try.prog 77 178 (kAt (kOf Try.prog Try.f10) [true, true, false, true, false, false]) (LCI l o n rr cw X ro co hi i) (.exit 0) (LCI l o n rr cw (fun j_ p_ => X j_ p_) ro co hi i) :=
  CodeOk.of_runs (fuel := 300) (v := ⟨[2, 6, 7, 8], [1, 2, 114, 115, 130], [], 194⟩) (hs := [(4, ⟨.auto, some (.c (.bool (true)))⟩), (7, ⟨.auto, some (.c (.bool (false)))⟩)])
    (cs := [EB (decide ((↑i : Int) < 60)) false,
      EB (decide ((↑i : Int) < (↑n : Int))) true])
    mixed (by kernel_rfl) ⟨.mk (decide_eq_false h1), .mk (decide_eq_true h0), trivial⟩
theorem LC_xf (rows cols : Int) (l : List Int) (o n rr cw : Nat) (X : Nat → Nat → Int) (ro co : Int) (hi : Bool) (i : Nat)
    (hr : -9223372036854775808 ≤ rows ∧ rows < 9223372036854775808)
    (hc : -9223372036854775808 ≤ cols ∧ cols < 9223372036854775808)
    (hl : o + n ≤ l.length)
    (hn : n ≤ 1048576)
    (h6 : W.pick rows 6 < 6)
    (h9 : W.pick cols 9 < 9)
    (hlb : ∀ j, -9223372036854775808 ≤ List.getD l j 0 ∧ List.getD l j 0 < 9223372036854775808)
    (hrr : 1 ≤ rr ∧ rr ≤ 6)
    (hcw : 1 ≤ cw ∧ cw ≤ 9)
    (hil : i ≤ 60)
    (h0 : (¬(↑i : Int) < (↑n : Int))) :
    CodeOk Try.prog 77 178 (kAt (kOf Try.prog Try.f10) [true, true, false, true, false, false]) (LCI l o n rr cw X ro co hi i) (.exit 0) (LCI l o n rr cw (fun j_ p_ => X j_ p_) ro co hi i) :=
  CodeOk.of_runs (fuel := 300) (v := ⟨[2, 6, 7, 8], [1, 2, 114, 115, 130], [], 194⟩) (hs := [(4, ⟨.auto, some (.c (.bool (false)))⟩)])
    (cs := [EB (decide ((↑i : Int) < (↑n : Int))) false])
    mixed (by kernel_rfl) ⟨.mk (decide_eq_false h0), trivial⟩
end Go.Proofs.Ytohleiikedpmkaa.Vm

namespace Go.Proofs.Ytohleiikedpmkaa.W
open Go Go.Proofs.Ytohleiikedpmkaa.Vm
def tq (n d : Int) : Int := IntKind.wrap IntKind.i64 (Int.tdiv n d)
def four (n : Int) : List (IntKind × Int) := [(IntKind.i32, List.getD [97, 98, 8364, 32] (pick (tq n 70) 4) 0), (IntKind.i64, (pick (tq n 300) 9 : Int)), (IntKind.i64, (pick (tq n 3000) 9 : Int)), (IntKind.i64, (pick (tq n 30000) 8 : Int))]
def putX (X : Nat → Nat → Int) (j0 o0 : Nat) (v : Nat → Int) : Nat → Nat → Int := fun j p => bif Nat.beq j j0 && inR o0 4 p then v (p - o0) else X j p
def sX (rr cw : Nat) (l : List Int) (o : Nat) : Nat → Nat → Nat → Int
  | 0 => fun _ => blank
  | i + 1 => putX (sX rr cw l o i) (pick (List.getD l (o + i) 0) rr) (pick (tq (List.getD l (o + i) 0) 7) cw * 4) (igG (four (List.getD l (o + i) 0)))
def sRo (rr : Nat) (l : List Int) (o : Nat) : Nat → Int
  | 0 => 0
  | i + 1 => pick (tq (List.getD l (o + i) 0) 11) rr
def sCo (cw : Nat) (l : List Int) (o : Nat) : Nat → Int
  | 0 => 0
  | i + 1 => pick (tq (List.getD l (o + i) 0) 13) cw
def sHi (l : List Int) (o : Nat) : Nat → Bool
  | 0 => false
  | i + 1 => Int.tmod (List.getD l (o + i) 0) 5 == 0
end Go.Proofs.Ytohleiikedpmkaa.W
namespace Go.Proofs.Ytohleiikedpmkaa.Vm
open Go Go.Proofs Go.Proofs.Ytohleiikedpmkaa
theorem renF_upd {t : Th} {n0 : Nat} {F : Nat → Option Blk} {i : Nat} {k : Blk} (j : Nat) : renF t n0 (updF F i k) j = bif Nat.beq j i then some (renBlk t n0 k) else renF t n0 F j := by
  simp only [renF, updF]
  cases Nat.beq j i <;> rfl
theorem put4_ck {q : List (IntKind × Int)} (hq : ∀ c, c < 4 → igK q c = W.ck c) (k p : Nat) : (bif inR (k * 4) 4 p then igK q (p - k * 4) else W.ck p) = W.ck p := by
  cases h : inR (k * 4) 4 p with
  | false => rfl
  | true =>
    have h1 := inR_iff.1 h
    show igK q (p - k * 4) = W.ck p
    rw [hq _ (by omega)]
    unfold W.ck
    have : (p - k * 4) % 4 = p % 4 := by omega
    rw [this]
theorem four_ck {a b c d : Int} : ∀ q, q < 4 → igK [(IntKind.i32, a), (IntKind.i64, b), (IntKind.i64, c), (IntKind.i64, d)] q = W.ck q := by
  intro q hq
  rcases q with _ | _ | _ | _ | q
  all_goals first | rfl | omega
theorem scr_loop (rows cols : Int) (l : List Int) (o n : Nat) (hr : -9223372036854775808 ≤ rows ∧ rows < 9223372036854775808) (hc : -9223372036854775808 ≤ cols ∧ cols < 9223372036854775808) (hl : o + n ≤ l.length) (hn : n ≤ 1048576) (h6 : W.pick rows 6 < 6) (h9 : W.pick cols 9 < 9)
    (hlb : ∀ j, -9223372036854775808 ≤ List.getD l j 0 ∧ List.getD l j 0 < 9223372036854775808) :
    CodeOk Try.prog 77 178 (kAt (kOf Try.prog Try.f10) [true, true, false, true, false]) (LC0 rows cols l o n) (.exit 0) (LCI l o n (1 + W.pick rows 6) (1 + W.pick cols 9) (W.sX (1 + W.pick rows 6) (1 + W.pick cols 9) l o (min n 60)) (W.sRo (1 + W.pick rows 6) l o (min n 60)) (W.sCo (1 + W.pick cols 9) l o (min n 60)) (W.sHi l o (min n 60)) (min n 60)) := by
  have hrr : 1 ≤ 1 + W.pick rows 6 ∧ 1 + W.pick rows 6 ≤ 6 := by omega
  have hcw : 1 ≤ 1 + W.pick cols 9 ∧ 1 + W.pick cols 9 ≤ 9 := by omega
  generalize hR : 1 + W.pick rows 6 = rr at hrr ⊢
  generalize hC : 1 + W.pick cols 9 = cw at hcw ⊢
  have h : CodeOk Try.prog 77 178 (kAt (kOf Try.prog Try.f10) [true, true, false, true, false]) (LCI l o n rr cw (W.sX rr cw l o 0) (W.sRo rr l o 0) (W.sCo cw l o 0) (W.sHi l o 0) 0) (.exit 0) (LCI l o n rr cw (W.sX rr cw l o (min n 60)) (W.sRo rr l o (min n 60)) (W.sCo cw l o (min n 60)) (W.sHi l o (min n 60)) (min n 60)) := by
    refine LC_by (fun i => LCI l o n rr cw (W.sX rr cw l o i) (W.sRo rr l o i) (W.sCo cw l o i) (W.sHi l o i) i) (fun i => i ≤ 60 ∧ i ≤ n) (fun i => 60 - i) (by simp) ?_ 0 ⟨by omega, by omega⟩
    intro i hi
    by_cases h0 : (i : Int) < (n : Int)
    · by_cases h1 : (i : Int) < 60
      · have hp : W.pick (List.getD l (o + i) 0) (rr : Int) + 1 ≤ rr := by
          have := W.pick_lt (a := List.getD l (o + i) 0) (b := (rr : Int)) (by omega)
          omega
        refine .inl ⟨i + 1, by omega, by omega, (LC_rtt rows cols l o n rr cw _ _ _ _ i hr hc hl hn h6 h9 hlb hrr hcw hi.1 h0 h1 hp).move (Move.same (by decide) (by decide) (by decide) rfl ?_)⟩
        refine ⟨SameB.refl rfl, SameB.refl rfl, SameB.refl rfl, ?_, SameB.refl rfl, trivial⟩
        intro j k e
        injection e with e
        subst e
        by_cases hj : j = W.pick (List.getD l (o + i) 0) (rr : Int)
        · subst hj
          refine SameB.ig (((renF_upd _).trans (by rw [Nat.beq_refl]; rfl))) (fun h => h) (fun p _ => put4_ck four_ck _ p) (fun p _ => ?_)
          show _ = W.putX _ _ _ _ _ p
          unfold W.putX
          rw [Nat.beq_refl]
          rfl
        · refine SameB.ig (((renF_upd _).trans (by rw [beqF hj]; rfl))) (fun h => h) (fun p _ => rfl) (fun p _ => ?_)
          show _ = W.putX _ _ _ _ _ p
          unfold W.putX
          rw [beqF hj]
          rfl
      · have e : i = 60 := by omega
        have e2 : min n 60 = i := by omega
        rw [e2]
        exact .inr (LC_xtf rows cols l o n rr cw _ _ _ _ i hr hc hl hn h6 h9 hlb hrr hcw hi.1 h0 h1)
    · have e2 : min n 60 = i := by omega
      rw [e2]
      exact .inr (LC_xf rows cols l o n rr cw _ _ _ _ i hr hc hl hn h6 h9 hlb hrr hcw hi.1 h0)
  subst hR; subst hC
  refine CodeOk.enter (Move.same (by decide) (by decide) (by decide) rfl ?_) h
  exact ⟨SameB.refl rfl, SameB.refl rfl, SameB.refl rfl, fun j k e => SameB.refl e, SameB.refl rfl, trivial⟩
end Go.Proofs.Ytohleiikedpmkaa.Vm

namespace Go.Proofs.Ytohleiikedpmkaa.Vm
open Go Go.Proofs Go.Proofs.Ytohleiikedpmkaa
set_option maxRecDepth 100000
theorem scr_ok (rows cols : Int) (l : List Int) (o n : Nat)
    (hr : -9223372036854775808 ≤ rows ∧ rows < 9223372036854775808)
    (hc : -9223372036854775808 ≤ cols ∧ cols < 9223372036854775808)
    (hl : o + n ≤ l.length)
    (hn : n ≤ 1048576)
    (h6 : W.pick rows 6 < 6)
    (h9 : W.pick cols 9 < 9)
    (hlb : ∀ j, -9223372036854775808 ≤ List.getD l j 0 ∧ List.getD l j 0 < 9223372036854775808) :
    Contract0 Try.prog 10 [(.c (.int .i64 rows)), (.c (.int .i64 cols)), (.c (.sl 1 0 o n 1))] [(1, (.one ⟨false, false, (.ints .i64 l)⟩))] 2 (.agg [(.int .i64 (↑(1 + W.pick rows 6))), (.int .i64 (↑(1 + W.pick cols 9))), (.sl 2 0 0 (1 + W.pick rows 6) 1), (.int .i64 (W.sRo (1 + W.pick rows 6) l o (min n 60))), (.int .i64 (W.sCo (1 + W.pick cols 9) l o (min n 60))), (.bool (W.sHi l o (min n 60)))]) [] [(2, (.one ⟨true, false, (.gen (1 + W.pick rows 6) (fun j_ => (.sl 3 j_ 0 (1 + W.pick cols 9) 4)))⟩)), (3, (.many (fun j_ => some ⟨true, true, (.ig (W.rl (1 + W.pick rows 6) ((1 + W.pick cols 9) * 4) j_) W.ck (fun p_ => (W.sX (1 + W.pick rows 6) (1 + W.pick cols 9) l o (min n 60) j_ p_)))⟩)))] :=
  Contract0.renum (Contract0.of_frun (res := (.agg [(.int .i64 (↑(1 + W.pick rows 6))), (.int .i64 (↑(1 + W.pick cols 9))), (.sl 114 0 0 (1 + W.pick rows 6) 1), (.int .i64 (W.sRo (1 + W.pick rows 6) l o (min n 60))), (.int .i64 (W.sCo (1 + W.pick cols 9) l o (min n 60))), (.bool (W.sHi l o (min n 60)))])) (up := [(114, (.one ⟨true, false, (.gen (1 + W.pick rows 6) (fun j_ => (.sl 115 j_ 0 (1 + W.pick cols 9) 4)))⟩)), (115, (.many (fun j_ => some ⟨true, true, (.ig (W.rl (1 + W.pick rows 6) ((1 + W.pick cols 9) * 4) j_) W.ck (fun p_ => (W.sX (1 + W.pick rows 6) (1 + W.pick cols 9) l o (min n 60) j_ p_)))⟩)))]) (kill := []) (n0 := 2) (m := [(1, (.one ⟨false, false, (.ints .i64 l)⟩))]) (args := [(.c (.int .i64 rows)), (.c (.int .i64 cols)), (.c (.sl 1 0 o n 1))]) (fn := Try.f10) (c := bodyOf Try.f10) (fuel := 300) (k := kOf Try.prog Try.f10) (outs := [114, 115]) (hs := [(2, ⟨.call [] (.c (.int .i64 (↑(W.pick rows 6)))) [] [], none⟩), (3, ⟨.auto, some (.c (.int .i64 (↑(1 + W.pick rows 6))))⟩), (5, ⟨.call [] (.c (.int .i64 (↑(W.pick cols 9)))) [] [], none⟩), (6, ⟨.auto, some (.c (.int .i64 (↑(1 + W.pick cols 9))))⟩), (7, ⟨.call [] (.agg [(.int .i64 (↑(1 + W.pick rows 6))), (.int .i64 (↑(1 + W.pick cols 9))), (.sl 114 0 0 (1 + W.pick rows 6) 1), (.int .i64 0), (.int .i64 0), (.bool (false))]) [] [(114, (.one ⟨true, false, (.gen (1 + W.pick rows 6) (fun j_ => (.sl 115 j_ 0 (1 + W.pick cols 9) 4)))⟩)), (115, (.many (fun j_ => some ⟨true, true, (.ig (W.rl (1 + W.pick rows 6) ((1 + W.pick cols 9) * 4) j_) W.ck W.blank)⟩)))], none⟩), (11, ⟨.sum ⟨[2, 6, 7, 8], [1, 2, 114, 115, 130], [], 178⟩ (.exit 0) (LCI l o n (1 + W.pick rows 6) (1 + W.pick cols 9) (W.sX (1 + W.pick rows 6) (1 + W.pick cols 9) l o (min n 60)) (W.sRo (1 + W.pick rows 6) l o (min n 60)) (W.sCo (1 + W.pick cols 9) l o (min n 60)) (W.sHi l o (min n 60)) (min n 60)), none⟩)])
    (cs := [OwnF (fun j_ => some ⟨true, true, (.ig (W.rl (1 + W.pick rows 6) ((1 + W.pick cols 9) * 4) j_) W.ck (fun p_ => (W.sX (1 + W.pick rows 6) (1 + W.pick cols 9) l o (min n 60) j_ p_)))⟩),
      CodeOk Try.prog 77 178 (kAt (kOf Try.prog Try.f10) [true, true, false, true, false]) (LC0 rows cols l o n) (.exit 0) (LCI l o n (1 + W.pick rows 6) (1 + W.pick cols 9) (W.sX (1 + W.pick rows 6) (1 + W.pick cols 9) l o (min n 60)) (W.sRo (1 + W.pick rows 6) l o (min n 60)) (W.sCo (1 + W.pick cols 9) l o (min n 60)) (W.sHi l o (min n 60)) (min n 60)),
      Contract Try.prog 23 [(.c (.int .i64 (↑(1 + W.pick rows 6)))), (.c (.int .i64 (↑(1 + W.pick cols 9))))] [] 114 (.agg [(.int .i64 (↑(1 + W.pick rows 6))), (.int .i64 (↑(1 + W.pick cols 9))), (.sl 114 0 0 (1 + W.pick rows 6) 1), (.int .i64 0), (.int .i64 0), (.bool (false))]) [] [(114, (.one ⟨true, false, (.gen (1 + W.pick rows 6) (fun j_ => (.sl 115 j_ 0 (1 + W.pick cols 9) 4)))⟩)), (115, (.many (fun j_ => some ⟨true, true, (.ig (W.rl (1 + W.pick rows 6) ((1 + W.pick cols 9) * 4) j_) W.ck W.blank)⟩)))],
      EI .i64 (IntKind.wrap IntKind.i64 (1 + (↑(W.pick cols 9) : Int))) ((↑(1 + W.pick cols 9) : Int)),
      Contract Try.prog 14 [(.c (.int .i64 cols)), (.c (.int .i64 9))] [] 82 (.c (.int .i64 (↑(W.pick cols 9)))) [] [],
      EI .i64 (IntKind.wrap IntKind.i64 (1 + (↑(W.pick rows 6) : Int))) ((↑(1 + W.pick rows 6) : Int)),
      Contract Try.prog 14 [(.c (.int .i64 rows)), (.c (.int .i64 6))] [] 34 (.c (.int .i64 (↑(W.pick rows 6)))) [] []])
    mixed Try.func10 (by kernel_rfl) (by kernel_rfl) (by kernel_rfl) (by kernel_rfl) (by kernel_rfl) ⟨OwnF.of (fun _ => rfl), (scr_loop rows cols l o n (by omega) (by omega) (by omega) (by omega) (by omega) (by omega) (by omega)), Contract0.in1 (bs_ok (1 + W.pick rows 6) (1 + W.pick cols 9) (by omega) (by omega)) [] [none, none] [(1, 114), (2, 115)] [] (by kernel_rfl), .mk (by simp only [addO_eq, mulE_eq, mulE_one, Int.toNat_natCast, IntKind.wrap_i64, mmin, mmax]; omega), Contract0.in1 (pick_ok cols 9 (by omega) (by omega)) [] [none, none] [] [] (by kernel_rfl), .mk (by simp only [addO_eq, mulE_eq, mulE_one, Int.toNat_natCast, IntKind.wrap_i64, mmin, mmax]; omega), Contract0.in1 (pick_ok rows 6 (by omega) (by omega)) [] [none, none] [] [] (by kernel_rfl), trivial⟩) [.b 1 1 true] [] [(114, 2), (115, 3)] [] (by kernel_rfl) (by kernel_rfl) (by kernel_rfl) (by kernel_rfl) (by kernel_rfl)
end Go.Proofs.Ytohleiikedpmkaa.Vm

namespace Go.Proofs.Ytohleiikedpmkaa.Vm
open Go Go.Proofs Go.Proofs.Ytohleiikedpmkaa
set_option maxRecDepth 100000
theorem kcell97 :
    PureF Try.prog 50 [(.agg [(.int .i32 97), (.int .i64 0), (.int .i64 0), (.int .i64 0)])] (.c (.bool (true))) :=
  Contract0.fr 300 [] [] [] mixed Try.func50 (by kernel_rfl) trivial
theorem kcell98 :
    PureF Try.prog 50 [(.agg [(.int .i32 98), (.int .i64 0), (.int .i64 0), (.int .i64 0)])] (.c (.bool (true))) :=
  Contract0.fr 300 [] [] [] mixed Try.func50 (by kernel_rfl) trivial
theorem kcell99 :
    PureF Try.prog 50 [(.agg [(.int .i32 99), (.int .i64 0), (.int .i64 0), (.int .i64 0)])] (.c (.bool (true))) :=
  Contract0.fr 300 [] [] [] mixed Try.func50 (by kernel_rfl) trivial
theorem kcell88 :
    PureF Try.prog 50 [(.agg [(.int .i32 88), (.int .i64 0), (.int .i64 0), (.int .i64 0)])] (.c (.bool (true))) :=
  Contract0.fr 300 [] [] [] mixed Try.func50 (by kernel_rfl) trivial
theorem kcell89 :
    PureF Try.prog 50 [(.agg [(.int .i32 89), (.int .i64 0), (.int .i64 0), (.int .i64 0)])] (.c (.bool (true))) :=
  Contract0.fr 300 [] [] [] mixed Try.func50 (by kernel_rfl) trivial
end Go.Proofs.Ytohleiikedpmkaa.Vm

namespace Go.Proofs.Ytohleiikedpmkaa.Vm
open Go Go.Proofs Go.Proofs.Ytohleiikedpmkaa
set_option maxRecDepth 100000
theorem kcel_97 :
    PureF Try.prog 49 [(.agg [(.int .i32 97), (.int .i64 0), (.int .i64 0), (.int .i64 0)])] (.c (.bool (false))) :=
  Contract0.fr 300 [(3, ⟨.call [] (.c (.bool (true))) [] [], none⟩)] [] [Contract Try.prog 50 [(.agg [(.int .i32 97), (.int .i64 0), (.int .i64 0), (.int .i64 0)])] [] 49 (.c (.bool (true))) [] []] mixed Try.func49 (by kernel_rfl) ⟨Contract0.in1 kcell97 [] [none] [] [] (by kernel_rfl), trivial⟩
theorem kcel_98 :
    PureF Try.prog 49 [(.agg [(.int .i32 98), (.int .i64 0), (.int .i64 0), (.int .i64 0)])] (.c (.bool (false))) :=
  Contract0.fr 300 [(3, ⟨.call [] (.c (.bool (true))) [] [], none⟩)] [] [Contract Try.prog 50 [(.agg [(.int .i32 98), (.int .i64 0), (.int .i64 0), (.int .i64 0)])] [] 49 (.c (.bool (true))) [] []] mixed Try.func49 (by kernel_rfl) ⟨Contract0.in1 kcell98 [] [none] [] [] (by kernel_rfl), trivial⟩
theorem kcel_99 :
    PureF Try.prog 49 [(.agg [(.int .i32 99), (.int .i64 0), (.int .i64 0), (.int .i64 0)])] (.c (.bool (false))) :=
  Contract0.fr 300 [(3, ⟨.call [] (.c (.bool (true))) [] [], none⟩)] [] [Contract Try.prog 50 [(.agg [(.int .i32 99), (.int .i64 0), (.int .i64 0), (.int .i64 0)])] [] 49 (.c (.bool (true))) [] []] mixed Try.func49 (by kernel_rfl) ⟨Contract0.in1 kcell99 [] [none] [] [] (by kernel_rfl), trivial⟩
theorem kcel_88 :
    PureF Try.prog 49 [(.agg [(.int .i32 88), (.int .i64 0), (.int .i64 0), (.int .i64 0)])] (.c (.bool (false))) :=
  Contract0.fr 300 [(3, ⟨.call [] (.c (.bool (true))) [] [], none⟩)] [] [Contract Try.prog 50 [(.agg [(.int .i32 88), (.int .i64 0), (.int .i64 0), (.int .i64 0)])] [] 49 (.c (.bool (true))) [] []] mixed Try.func49 (by kernel_rfl) ⟨Contract0.in1 kcell88 [] [none] [] [] (by kernel_rfl), trivial⟩
theorem kcel_89 :
    PureF Try.prog 49 [(.agg [(.int .i32 89), (.int .i64 0), (.int .i64 0), (.int .i64 0)])] (.c (.bool (false))) :=
  Contract0.fr 300 [(3, ⟨.call [] (.c (.bool (true))) [] [], none⟩)] [] [Contract Try.prog 50 [(.agg [(.int .i32 89), (.int .i64 0), (.int .i64 0), (.int .i64 0)])] [] 49 (.c (.bool (true))) [] []] mixed Try.func49 (by kernel_rfl) ⟨Contract0.in1 kcell89 [] [none] [] [] (by kernel_rfl), trivial⟩
end Go.Proofs.Ytohleiikedpmkaa.Vm

namespace Go.Proofs.Ytohleiikedpmkaa.W
def okC (a b c d : Int) : Prop := 32 ≤ a ∧ a ≤ 1114111 ∧ ¬ a = 127 ∧ (a < 55296 ∨ 57343 < a) ∧ 0 ≤ b ∧ b ≤ 8 ∧ 0 ≤ c ∧ c ≤ 8 ∧ 0 ≤ d ∧ d ≤ 7
def okRow (X : Nat → Int) (n : Nat) : Prop := ∀ k, k < n → okC (X (k * 4)) (X (k * 4 + 1)) (X (k * 4 + 2)) (X (k * 4 + 3))
end Go.Proofs.Ytohleiikedpmkaa.W

namespace Go.Proofs.Ytohleiikedpmkaa.Vm
open Go Go.Proofs Go.Proofs.Ytohleiikedpmkaa
set_option maxRecDepth 100000
theorem cell_ok_t (a b c d : Int)
    (h : 32 ≤ a ∧ a ≤ 1114111 ∧ ¬ a = 127 ∧ (a < 55296 ∨ 57343 < a) ∧ 0 ≤ b ∧ b ≤ 8 ∧ 0 ≤ c ∧ c ≤ 8 ∧ 0 ≤ d ∧ d ≤ 7)
    (h0 : (a < (55296 : Int))) :
    PureF Try.prog 50 [(.agg [(.int .i32 a), (.int .i64 b), (.int .i64 c), (.int .i64 d)])] (.c (.bool (true))) :=
  Contract0.fr 300 [(4, ⟨.auto, some (.c (.bool (true)))⟩), (8, ⟨.auto, some (.c (.bool (true)))⟩), (13, ⟨.auto, some (.c (.bool (true)))⟩), (19, ⟨.auto, some (.c (.bool (true)))⟩), (28, ⟨.auto, some (.c (.bool (true)))⟩), (33, ⟨.auto, some (.c (.bool (true)))⟩), (38, ⟨.auto, some (.c (.bool (true)))⟩), (43, ⟨.auto, some (.c (.bool (true)))⟩), (48, ⟨.auto, some (.c (.bool (true)))⟩), (53, ⟨.auto, some (.c (.bool (true)))⟩)] [] [EB (decide (d ≤ 7)) true,
      EB (decide (d ≥ 0)) true,
      EB (decide (c ≤ 8)) true,
      EB (decide (c ≥ 0)) true,
      EB (decide (b ≤ 8)) true,
      EB (decide (b ≥ 0)) true,
      EB (decide (a < 55296)) true,
      EB (a != 127) true,
      EB (decide (a ≤ 1114111)) true,
      EB (decide (a ≥ 32)) true] mixed Try.func50 (by kernel_rfl) ⟨.mk (decide_eq_true (by omega)), .mk (decide_eq_true (by omega)), .mk (decide_eq_true (by omega)), .mk (decide_eq_true (by omega)), .mk (decide_eq_true (by omega)), .mk (decide_eq_true (by omega)), .mk (decide_eq_true h0), .mk (bne_t (by omega)), .mk (decide_eq_true (by omega)), .mk (decide_eq_true (by omega)), trivial⟩
theorem cell_ok_f (a b c d : Int)
    (h : 32 ≤ a ∧ a ≤ 1114111 ∧ ¬ a = 127 ∧ (a < 55296 ∨ 57343 < a) ∧ 0 ≤ b ∧ b ≤ 8 ∧ 0 ≤ c ∧ c ≤ 8 ∧ 0 ≤ d ∧ d ≤ 7)
    (h0 : (¬a < (55296 : Int))) :
    PureF Try.prog 50 [(.agg [(.int .i32 a), (.int .i64 b), (.int .i64 c), (.int .i64 d)])] (.c (.bool (true))) :=
  Contract0.fr 300 [(4, ⟨.auto, some (.c (.bool (true)))⟩), (8, ⟨.auto, some (.c (.bool (true)))⟩), (13, ⟨.auto, some (.c (.bool (true)))⟩), (19, ⟨.auto, some (.c (.bool (false)))⟩), (22, ⟨.auto, some (.c (.bool (true)))⟩), (28, ⟨.auto, some (.c (.bool (true)))⟩), (33, ⟨.auto, some (.c (.bool (true)))⟩), (38, ⟨.auto, some (.c (.bool (true)))⟩), (43, ⟨.auto, some (.c (.bool (true)))⟩), (48, ⟨.auto, some (.c (.bool (true)))⟩), (53, ⟨.auto, some (.c (.bool (true)))⟩)] [] [EB (decide (d ≤ 7)) true,
      EB (decide (d ≥ 0)) true,
      EB (decide (c ≤ 8)) true,
      EB (decide (c ≥ 0)) true,
      EB (decide (b ≤ 8)) true,
      EB (decide (b ≥ 0)) true,
      EB (decide (a > 57343)) true,
      EB (decide (a < 55296)) false,
      EB (a != 127) true,
      EB (decide (a ≤ 1114111)) true,
      EB (decide (a ≥ 32)) true] mixed Try.func50 (by kernel_rfl) ⟨.mk (decide_eq_true (by omega)), .mk (decide_eq_true (by omega)), .mk (decide_eq_true (by omega)), .mk (decide_eq_true (by omega)), .mk (decide_eq_true (by omega)), .mk (decide_eq_true (by omega)), .mk (decide_eq_true (by omega)), .mk (decide_eq_false h0), .mk (bne_t (by omega)), .mk (decide_eq_true (by omega)), .mk (decide_eq_true (by omega)), trivial⟩
theorem size_ok (r c a b : Int)
    (h0 : 1 ≤ r ∧ r ≤ 60)
    (h1 : 1 ≤ c ∧ c ≤ 120)
    (h2 : 0 ≤ a ∧ a < r)
    (h3 : 0 ≤ b ∧ b < c) :
    PureF Try.prog 32 [(.c (.int .i64 r)), (.c (.int .i64 c)), (.c (.int .i64 a)), (.c (.int .i64 b))] (.c (.bool (true))) :=
  Contract0.fr 300 [(2, ⟨.auto, some (.c (.bool (true)))⟩), (5, ⟨.auto, some (.c (.bool (true)))⟩), (9, ⟨.auto, some (.c (.bool (true)))⟩), (13, ⟨.auto, some (.c (.bool (true)))⟩), (17, ⟨.auto, some (.c (.bool (true)))⟩), (22, ⟨.auto, some (.c (.bool (true)))⟩), (26, ⟨.auto, some (.c (.bool (true)))⟩), (31, ⟨.auto, some (.c (.bool (true)))⟩)] [] [EB (decide (b < c)) true,
      EB (decide (b ≥ 0)) true,
      EB (decide (a < r)) true,
      EB (decide (a ≥ 0)) true,
      EB (decide (c ≤ 120)) true,
      EB (decide (c ≥ 1)) true,
      EB (decide (r ≤ 60)) true,
      EB (decide (r ≥ 1)) true] mixed Try.func32 (by kernel_rfl) ⟨.mk (decide_eq_true (by omega)), .mk (decide_eq_true (by omega)), .mk (decide_eq_true (by omega)), .mk (decide_eq_true (by omega)), .mk (decide_eq_true (by omega)), .mk (decide_eq_true (by omega)), .mk (decide_eq_true (by omega)), .mk (decide_eq_true (by omega)), trivial⟩
end Go.Proofs.Ytohleiikedpmkaa.Vm

namespace Go.Proofs.Ytohleiikedpmkaa.Vm
open Go Go.Proofs Go.Proofs.Ytohleiikedpmkaa
theorem cell_ok (a b c d : Int) (h : 32 ≤ a ∧ a ≤ 1114111 ∧ ¬ a = 127 ∧ (a < 55296 ∨ 57343 < a) ∧ 0 ≤ b ∧ b ≤ 8 ∧ 0 ≤ c ∧ c ≤ 8 ∧ 0 ≤ d ∧ d ≤ 7) : PureF Try.prog 50 [(.agg [(.int .i32 a), (.int .i64 b), (.int .i64 c), (.int .i64 d)])] (.c (.bool true)) := by
  by_cases h0 : a < 55296
  · exact cell_ok_t a b c d h h0
  · exact cell_ok_f a b c d h h0
end Go.Proofs.Ytohleiikedpmkaa.Vm

namespace Go.Proofs.Ytohleiikedpmkaa.Vm
open Go Go.Proofs Go.Proofs.Ytohleiikedpmkaa
set_option maxRecDepth 100000
theorem cel_ok (a b c d : Int)
    (h : 32 ≤ a ∧ a ≤ 1114111 ∧ ¬ a = 127 ∧ (a < 55296 ∨ 57343 < a) ∧ 0 ≤ b ∧ b ≤ 8 ∧ 0 ≤ c ∧ c ≤ 8 ∧ 0 ≤ d ∧ d ≤ 7) :
    PureF Try.prog 49 [(.agg [(.int .i32 a), (.int .i64 b), (.int .i64 c), (.int .i64 d)])] (.c (.bool (false))) :=
  Contract0.fr 300 [(3, ⟨.call [] (.c (.bool (true))) [] [], none⟩)] [] [Contract Try.prog 50 [(.agg [(.int .i32 a), (.int .i64 b), (.int .i64 c), (.int .i64 d)])] [] 49 (.c (.bool (true))) [] []] mixed Try.func49 (by kernel_rfl) ⟨Contract0.in1 (cell_ok a b c d (by omega)) [] [none] [] [] (by kernel_rfl), trivial⟩
end Go.Proofs.Ytohleiikedpmkaa.Vm

namespace Go.Proofs.Ytohleiikedpmkaa.Vm
open Go Go.Proofs Go.Proofs.Ytohleiikedpmkaa
set_option maxRecDepth 100000
def LDI (X : Nat → Int) (n N i : Nat) : S0 :=
  ⟨[(0, (.c (.sl 1 0 0 n 4))), (1, (.c (.fn 49 []))), (7, (.c (.int .i64 (↑n)))), (4, (.c (.int .i64 0))), (8, (.c (.int .i64 (i : Int))))], [(1, (.one ⟨false, false, (.ig N W.ck X)⟩))], 66⟩
theorem LD_by {α : Type} (I : α → S0) (Inv : α → Prop) (μ : α → Nat) {ex : Ex} {s' : S0} (hex : ex ≠ .normal)
    (step : ∀ x, Inv x → (∃ y, Inv y ∧ μ y < μ x ∧ CodeOk Try.prog 19 66 (kAt (kOf Try.prog Try.f54) [true, false, true, false, false]) (I x) .normal (I y)) ∨ CodeOk Try.prog 19 66 (kAt (kOf Try.prog Try.f54) [true, false, true, false, false]) (I x) ex s') (x : α) (hx : Inv x) :
    CodeOk Try.prog 19 66 (kAt (kOf Try.prog Try.f54) [true, false, true, false]) (I x) ex s' := by
  have hk : (kAt (kOf Try.prog Try.f54) [true, false, true, false]) = .loop (kAt (kOf Try.prog Try.f54) [true, false, true, false, false]) := by kernel_rfl
  rw [hk]
  exact CodeOk.loop I Inv μ hex step x hx
def LD0 (X : Nat → Int) (n N : Nat) : S0 :=
  ⟨[(0, (.c (.sl 1 0 0 n 4))), (1, (.c (.fn 49 []))), (7, (.c (.int .i64 (↑n)))), (4, (.c (.int .i64 0))), (8, (.c (.int .i64 0)))], [(1, (.one ⟨false, false, (.ig N W.ck X)⟩))], 66⟩
theorem LD_rt (X : Nat → Int) (n N i : Nat)
    (hN : n * 4 ≤ N)
    (hn : n ≤ 1048576)
    (hok : W.okRow X n)
    (hi : i ≤ n)
    (h0 : ((↑i : Int) < (↑n : Int))) :
    CodeOk Try.prog 19 66 (kAt (kOf Try.prog Try.f54) [true, false, true, false, false]) (LDI X n N i) .normal (LDI X n N (i + 1)) :=
  CodeOk.of_runs (fuel := 300) (v := ⟨[0, 1, 7, 4, 8], [1], [], 66⟩) (hs := [(0, ⟨.auto, some (.c (.bool (true)))⟩), (7, ⟨.ask, none⟩), (8, ⟨.ask, some (.agg [(.int .i32 (X (i * 4))), (.int .i64 (X (i * 4 + 1))), (.int .i64 (X (i * 4 + 2))), (.int .i64 (X (i * 4 + 3)))])⟩), (9, ⟨.call [] (.c (.bool (false))) [] [], none⟩), (11, ⟨.auto, some (.c (.int .i64 (↑(i + 1))))⟩)])
    (cs := [EI .i64 (IntKind.wrap IntKind.i64 ((↑i : Int) + 1)) ((↑(i + 1) : Int)),
      Contract Try.prog 49 [(.agg [(.int .i32 (X (i * 4))), (.int .i64 (X (i * 4 + 1))), (.int .i64 (X (i * 4 + 2))), (.int .i64 (X (i * 4 + 3)))])] [] 194 (.c (.bool (false))) [] [],
      ((.agg ((List.range 4).map (fun p_ => .int (W.ck (p_ + i * 4)) (X (p_ + i * 4))))) : V) = (.agg [(.int .i32 (X (i * 4))), (.int .i64 (X (i * 4 + 1))), (.int .i64 (X (i * 4 + 2))), (.int .i64 (X (i * 4 + 3)))]),
      (i * (4 : Nat) + (4 : Nat) ≤ N),
      ((0 : Int) ≤ (↑i : Int) ∧ (↑i : Int) < (↑n : Int)),
      EB (decide ((↑i : Int) < (↑n : Int))) true])
    mixed (by kernel_rfl) ⟨.mk (by simp only [addO_eq, mulE_eq, mulE_one, Int.toNat_natCast, IntKind.wrap_i64, mmin, mmax]; omega), Contract0.in1 (cel_ok (X (i * 4)) (X (i * 4 + 1)) (X (i * 4 + 2)) (X (i * 4 + 3)) (by exact hok _ (by omega))) [] [none] [] [] (by kernel_rfl), EV.ck4 (g := (fun p_ => (X p_))) (o := (i * 4)) (by omega) (by omega), (by omega), (by omega), .mk (decide_eq_true h0), trivial⟩
theorem LD_xf (X : Nat → Int) (n N i : Nat)
    (hN : n * 4 ≤ N)
    (hn : n ≤ 1048576)
    (hok : W.okRow X n)
    (hi : i ≤ n)
    (h0 : (¬(↑i : Int) < (↑n : Int))) :
    CodeOk Try.prog 19 66 (kAt (kOf Try.prog Try.f54) [true, false, true, false, false]) (LDI X n N i) (.exit 0) (LDI X n N i) :=
  CodeOk.of_runs (fuel := 300) (v := ⟨[0, 1, 7, 4, 8], [1], [], 66⟩) (hs := [(0, ⟨.auto, some (.c (.bool (false)))⟩)])
    (cs := [EB (decide ((↑i : Int) < (↑n : Int))) false])
    mixed (by kernel_rfl) ⟨.mk (decide_eq_false h0), trivial⟩
end Go.Proofs.Ytohleiikedpmkaa.Vm

namespace Go.Proofs.Ytohleiikedpmkaa.Vm
open Go Go.Proofs Go.Proofs.Ytohleiikedpmkaa
theorem idx_loop (X : Nat → Int) (n N : Nat) (hN : n * 4 ≤ N) (hn : n ≤ 1048576) (hok : W.okRow X n) : CodeOk Try.prog 19 66 (kAt (kOf Try.prog Try.f54) [true, false, true, false]) (LD0 X n N) (.exit 0) (LDI X n N n) := by
  refine LD_by (fun i => LDI X n N i) (fun i => i ≤ n) (fun i => n - i) (by simp) ?_ 0 (Nat.zero_le _)
  intro i hi
  by_cases h0 : (i : Int) < (n : Int)
  · exact .inl ⟨i + 1, by omega, by omega, LD_rt X n N i hN hn hok hi h0⟩
  · have e : i = n := by omega
    subst e
    exact .inr (LD_xf X i N i hN hn hok hi h0)
end Go.Proofs.Ytohleiikedpmkaa.Vm

namespace Go.Proofs.Ytohleiikedpmkaa.Vm
open Go Go.Proofs Go.Proofs.Ytohleiikedpmkaa
set_option maxRecDepth 100000
theorem idx_ok (X : Nat → Int) (n N : Nat)
    (hN : n * 4 ≤ N)
    (hn : n ≤ 1048576)
    (hok : W.okRow X n) :
    Contract0 Try.prog 54 [(.c (.sl 1 0 0 n 4)), (.c (.fn 49 []))] [(1, (.one ⟨false, false, (.ig N W.ck X)⟩))] 2 (.c (.int .i64 (-1))) [] [] :=
  Contract0.fr 300 [(4, ⟨.sum ⟨[0, 1, 7, 4, 8], [1], [], 66⟩ (.exit 0) (LDI X n N n), none⟩)] [] [CodeOk Try.prog 19 66 (kAt (kOf Try.prog Try.f54) [true, false, true, false]) (LD0 X n N) (.exit 0) (LDI X n N n)] mixed Try.func54 (by kernel_rfl) ⟨(idx_loop X n N (by omega) (by omega) (by omega)), trivial⟩
end Go.Proofs.Ytohleiikedpmkaa.Vm

namespace Go.Proofs.Ytohleiikedpmkaa.Vm
open Go Go.Proofs Go.Proofs.Ytohleiikedpmkaa
set_option maxRecDepth 100000
theorem cont_ok (X : Nat → Int) (n N : Nat)
    (hN : n * 4 ≤ N)
    (hn : n ≤ 1048576)
    (hok : W.okRow X n) :
    Contract0 Try.prog 48 [(.c (.sl 1 0 0 n 4)), (.c (.fn 49 []))] [(1, (.one ⟨false, false, (.ig N W.ck X)⟩))] 2 (.c (.bool (false))) [] [] :=
  Contract0.fr 300 [(3, ⟨.call [1] (.c (.int .i64 (-1))) [] [], none⟩)] [] [Contract Try.prog 54 [(.c (.sl 1 0 0 n 4)), (.c (.fn 49 []))] [(1, (.one ⟨false, false, (.ig N W.ck X)⟩))] 50 (.c (.int .i64 (-1))) [] []] mixed Try.func48 (by kernel_rfl) ⟨Contract0.in1 (idx_ok X n N (by omega) (by omega) (by omega)) [.b 1 1 true []] [none, none] [] [] (by kernel_rfl), trivial⟩
end Go.Proofs.Ytohleiikedpmkaa.Vm

namespace Go.Proofs.Ytohleiikedpmkaa.Vm
open Go Go.Proofs Go.Proofs.Ytohleiikedpmkaa
set_option maxRecDepth 100000
theorem cells_ok (X : Nat → Int) (n N : Nat)
    (hN : n * 4 ≤ N)
    (hn : n ≤ 1048576)
    (hok : W.okRow X n) :
    Contract0 Try.prog 33 [(.c (.sl 1 0 0 n 4))] [(1, (.one ⟨false, false, (.ig N W.ck X)⟩))] 2 (.c (.bool (true))) [] [] :=
  Contract0.fr 300 [(2, ⟨.call [1] (.c (.bool (false))) [] [], none⟩)] [] [Contract Try.prog 48 [(.c (.sl 1 0 0 n 4)), (.c (.fn 49 []))] [(1, (.one ⟨false, false, (.ig N W.ck X)⟩))] 34 (.c (.bool (false))) [] []] mixed Try.func33 (by kernel_rfl) ⟨Contract0.in1 (cont_ok X n N (by omega) (by omega) (by omega)) [.b 1 1 true []] [none, none] [] [] (by kernel_rfl), trivial⟩
end Go.Proofs.Ytohleiikedpmkaa.Vm

namespace Go.Proofs.Ytohleiikedpmkaa.Vm
open Go Go.Proofs Go.Proofs.Ytohleiikedpmkaa
set_option maxRecDepth 100000
def LEI (rr cw : Nat) (X : Nat → Nat → Int) (ro co : Int) (hi : Bool) (i : Nat) : S0 :=
  ⟨[(1, (.c (.ptr 3 0 0))), (24, (.c (.sl 1 0 0 rr 1))), (25, (.c (.int .i64 (↑rr)))), (2, (.c (.bool (false)))), (26, (.c (.int .i64 (i : Int))))], [(1, (.one ⟨false, false, (.gen rr (fun j_ => (.sl 2 j_ 0 cw 4)))⟩)), (2, (.many (fun j_ => some ⟨false, false, (.ig (W.rl rr (cw * 4) j_) W.ck (fun p_ => (X j_ p_)))⟩))), (3, (.one ⟨true, true, (.cells [(.int .i64 (↑rr)), (.int .i64 (↑cw)), (.sl 1 0 0 rr 1), (.int .i64 ro), (.int .i64 co), (.bool hi)])⟩))], 387⟩
theorem LE_by {α : Type} (I : α → S0) (Inv : α → Prop) (μ : α → Nat) {ex : Ex} {s' : S0} (hex : ex ≠ .normal)
    (step : ∀ x, Inv x → (∃ y, Inv y ∧ μ y < μ x ∧ CodeOk Try.prog 41 387 (kAt (kOf Try.prog Try.f19) [true, true, false, true, false, false]) (I x) .normal (I y)) ∨ CodeOk Try.prog 41 387 (kAt (kOf Try.prog Try.f19) [true, true, false, true, false, false]) (I x) ex s') (x : α) (hx : Inv x) :
    CodeOk Try.prog 41 387 (kAt (kOf Try.prog Try.f19) [true, true, false, true, false]) (I x) ex s' := by
  have hk : (kAt (kOf Try.prog Try.f19) [true, true, false, true, false]) = .loop (kAt (kOf Try.prog Try.f19) [true, true, false, true, false, false]) := by kernel_rfl
  rw [hk]
  exact CodeOk.loop I Inv μ hex step x hx
def LE0 (rr cw : Nat) (X : Nat → Nat → Int) (ro co : Int) (hi : Bool) : S0 :=
  ⟨[(1, (.c (.ptr 3 0 0))), (24, (.c (.sl 1 0 0 rr 1))), (25, (.c (.int .i64 (↑rr)))), (2, (.c (.bool (false)))), (26, (.c (.int .i64 0)))], [(1, (.one ⟨false, false, (.gen rr (fun j_ => (.sl 2 j_ 0 cw 4)))⟩)), (2, (.many (fun j_ => some ⟨false, false, (.ig (W.rl rr (cw * 4) j_) W.ck (fun p_ => (X j_ p_)))⟩))), (3, (.one ⟨true, true, (.cells [(.int .i64 (↑rr)), (.int .i64 (↑cw)), (.sl 1 0 0 rr 1), (.int .i64 ro), (.int .i64 co), (.bool hi)])⟩))], 387⟩
theorem LE_rt (rr cw : Nat) (X : Nat → Nat → Int) (ro co : Int) (hi : Bool) (i : Nat)
    (hrr : 1 ≤ rr ∧ rr ≤ 60)
    (hcw : 1 ≤ cw ∧ cw ≤ 120)
    (hro : 0 ≤ ro ∧ ro < rr)
    (hco : 0 ≤ co ∧ co < cw)
    (hX : ∀ j, j < rr → W.okRow (X j) cw)
    (hil : i ≤ rr)
    (h0 : ((↑i : Int) < (↑rr : Int))) :
    CodeOk Try.prog 41 387 (kAt (kOf Try.prog Try.f19) [true, true, false, true, false, false]) (LEI rr cw X ro co hi i) .normal (LEI rr cw X ro co hi (i + 1)) :=
  CodeOk.of_runs (fuel := 300) (v := ⟨[1, 24, 25, 2, 26], [1, 2, 3], [], 387⟩) (hs := [(0, ⟨.auto, some (.c (.bool (true)))⟩), (2, ⟨.ask, none⟩), (3, ⟨.ask, none⟩), (9, ⟨.auto, some (.c (.bool (false)))⟩), (12, ⟨.call [2] (.c (.bool (true))) [] [], none⟩), (16, ⟨.auto, some (.c (.int .i64 (↑(i + 1))))⟩)])
    (cs := [EI .i64 (IntKind.wrap IntKind.i64 ((↑i : Int) + 1)) ((↑(i + 1) : Int)),
      Contract Try.prog 33 [(.c (.sl 2 i 0 cw 4))] [(2, (.many (fun j_ => some ⟨false, false, (.ig (W.rl rr (cw * 4) j_) W.ck (fun p_ => (X j_ p_)))⟩)))] 563 (.c (.bool (true))) [] [],
      EB ((↑cw : Int) != (↑cw : Int)) false,
      (i + (1 : Nat) ≤ rr),
      ((0 : Int) ≤ (↑i : Int) ∧ (↑i : Int) < (↑rr : Int)),
      EB (decide ((↑i : Int) < (↑rr : Int))) true])
    mixed (by kernel_rfl) ⟨.mk (by simp only [addO_eq, mulE_eq, mulE_one, Int.toNat_natCast, IntKind.wrap_i64, mmin, mmax]; omega), ContractN.fin (ContractN.famB (bd := (.ig (W.rl rr (cw * 4) i) W.ck (fun p_ => (X i p_)))) (ex := false) (args1 := [(.c (.sl 578 0 0 cw 4))]) 578 2 i (Contract0.instN (cells_ok (fun p_ => X i p_) cw (W.rl rr (cw * 4) i) (by rw [rl_lt (by omega)]; omega) (by omega) (by exact hX _ (by omega))) [.b 578 1 true []] [none] [] [] (by kernel_rfl) (by kernel_rfl) (by kernel_rfl) (by kernel_rfl) (by kernel_rfl)) (by kernel_rfl) (by kernel_rfl) (by kernel_rfl) (by kernel_rfl) (by kernel_rfl) (by kernel_rfl)) (by kernel_rfl), .mk (bne_f (Decidable.of_not_not (by omega))), (by omega), (by omega), .mk (decide_eq_true h0), trivial⟩
theorem LE_xf (rr cw : Nat) (X : Nat → Nat → Int) (ro co : Int) (hi : Bool) (i : Nat)
    (hrr : 1 ≤ rr ∧ rr ≤ 60)
    (hcw : 1 ≤ cw ∧ cw ≤ 120)
    (hro : 0 ≤ ro ∧ ro < rr)
    (hco : 0 ≤ co ∧ co < cw)
    (hX : ∀ j, j < rr → W.okRow (X j) cw)
    (hil : i ≤ rr)
    (h0 : (¬(↑i : Int) < (↑rr : Int))) :
    CodeOk Try.prog 41 387 (kAt (kOf Try.prog Try.f19) [true, true, false, true, false, false]) (LEI rr cw X ro co hi i) (.exit 0) (LEI rr cw X ro co hi i) :=
  CodeOk.of_runs (fuel := 300) (v := ⟨[1, 24, 25, 2, 26], [1, 2, 3], [], 387⟩) (hs := [(0, ⟨.auto, some (.c (.bool (false)))⟩)])
    (cs := [EB (decide ((↑i : Int) < (↑rr : Int))) false])
    mixed (by kernel_rfl) ⟨.mk (decide_eq_false h0), trivial⟩
end Go.Proofs.Ytohleiikedpmkaa.Vm

namespace Go.Proofs.Ytohleiikedpmkaa.Vm
open Go Go.Proofs Go.Proofs.Ytohleiikedpmkaa
theorem right_loop (rr cw : Nat) (X : Nat → Nat → Int) (ro co : Int) (hi : Bool) (hrr : 1 ≤ rr ∧ rr ≤ 60) (hcw : 1 ≤ cw ∧ cw ≤ 120) (hro : 0 ≤ ro ∧ ro < rr) (hco : 0 ≤ co ∧ co < cw) (hX : ∀ j, j < rr → W.okRow (X j) cw) :
    CodeOk Try.prog 41 387 (kAt (kOf Try.prog Try.f19) [true, true, false, true, false]) (LE0 rr cw X ro co hi) (.exit 0) (LEI rr cw X ro co hi rr) := by
  refine LE_by (fun i => LEI rr cw X ro co hi i) (fun i => i ≤ rr) (fun i => rr - i) (by simp) ?_ 0 (Nat.zero_le _)
  intro i hil
  by_cases h0 : (i : Int) < (rr : Int)
  · exact .inl ⟨i + 1, by omega, by omega, LE_rt rr cw X ro co hi i hrr hcw hro hco hX hil h0⟩
  · have e : i = rr := by omega
    subst e
    exact .inr (LE_xf i cw X ro co hi i hrr hcw hro hco hX hil h0)
end Go.Proofs.Ytohleiikedpmkaa.Vm

namespace Go.Proofs.Ytohleiikedpmkaa.Vm
open Go Go.Proofs Go.Proofs.Ytohleiikedpmkaa
set_option maxRecDepth 100000
theorem right_ok (rr cw : Nat) (X : Nat → Nat → Int) (ro co : Int) (hi : Bool)
    (hrr : 1 ≤ rr ∧ rr ≤ 60)
    (hcw : 1 ≤ cw ∧ cw ≤ 120)
    (hro : 0 ≤ ro ∧ ro < rr)
    (hco : 0 ≤ co ∧ co < cw)
    (hX : ∀ j, j < rr → W.okRow (X j) cw) :
    Contract0 Try.prog 19 [(.agg [(.int .i64 (↑rr)), (.int .i64 (↑cw)), (.sl 1 0 0 rr 1), (.int .i64 ro), (.int .i64 co), (.bool hi)])] [(1, (.one ⟨false, false, (.gen rr (fun j_ => (.sl 2 j_ 0 cw 4)))⟩)), (2, (.many (fun j_ => some ⟨false, false, (.ig (W.rl rr (cw * 4) j_) W.ck (fun p_ => (X j_ p_)))⟩)))] 3 (.c (.bool (true))) [] [] :=
  Contract0.of_frunF (res := (.c (.bool (true)))) (up := []) (kill := []) (n0 := 3) (m := [(1, (.one ⟨false, false, (.gen rr (fun j_ => (.sl 2 j_ 0 cw 4)))⟩)), (2, (.many (fun j_ => some ⟨false, false, (.ig (W.rl rr (cw * 4) j_) W.ck (fun p_ => (X j_ p_)))⟩)))]) (args := [(.agg [(.int .i64 (↑rr)), (.int .i64 (↑cw)), (.sl 1 0 0 rr 1), (.int .i64 ro), (.int .i64 co), (.bool hi)])]) (fn := Try.f19) (c := bodyOf Try.f19) (fuel := 300) (k := kOf Try.prog Try.f19) (outs := []) (hs := [(10, ⟨.call [] (.c (.bool (true))) [] [], none⟩), (18, ⟨.auto, some (.c (.bool (false)))⟩), (25, ⟨.sum ⟨[1, 24, 25, 2, 26], [1, 2, 3], [], 387⟩ (.exit 0) (LEI rr cw X ro co hi rr), none⟩)])
    (cs := [CodeOk Try.prog 41 387 (kAt (kOf Try.prog Try.f19) [true, true, false, true, false]) (LE0 rr cw X ro co hi) (.exit 0) (LEI rr cw X ro co hi rr),
      EB ((↑rr : Int) != (↑rr : Int)) false,
      Contract Try.prog 32 [(.c (.int .i64 (↑rr))), (.c (.int .i64 (↑cw))), (.c (.int .i64 ro)), (.c (.int .i64 co))] [] 163 (.c (.bool (true))) [] []])
    mixed Try.func19 (by kernel_rfl) (by kernel_rfl) (by kernel_rfl) ⟨rfl, (.inr (RoF.of (fun _ => rfl))), trivial⟩ (by kernel_rfl) ⟨(right_loop rr cw X ro co hi (by omega) (by omega) (by omega) (by omega) (by omega)), .mk (bne_f (Decidable.of_not_not (by omega))), Contract0.in1 (size_ok ((↑rr : Int)) ((↑cw : Int)) ro co (by omega) (by omega) (by omega) (by omega)) [] [none, none, none, none] [] [] (by kernel_rfl), trivial⟩
end Go.Proofs.Ytohleiikedpmkaa.Vm

namespace Go.Proofs.Ytohleiikedpmkaa.Vm
open Go Go.Proofs Go.Proofs.Ytohleiikedpmkaa
set_option maxRecDepth 100000
theorem clone_ (X : Nat → Int) (n N q : Nat)
    (hN : q * 4 + n * 4 ≤ N)
    (hn : 1 ≤ n ∧ n ≤ 1048576) :
    Contract0 Try.prog 31 [(.c (.sl 1 0 (q * 4) n 4))] [(1, (.one ⟨false, false, (.ig N W.ck X)⟩))] 2 (.c (.sl 2 0 0 n 4)) [] [(2, (.one ⟨true, false, (.ig (mulE n 4) (fun p_ => (W.ck (p_ + q * 4))) (fun p_ => (X (p_ + q * 4))))⟩))] :=
  Contract0.renum (Contract0.of_frun (res := (.c (.sl 82 0 0 n 4))) (up := [(82, (.one ⟨true, false, (.ig (mulE n 4) (fun p_ => (W.ck (p_ + q * 4))) (fun p_ => (X (p_ + q * 4))))⟩))]) (kill := []) (n0 := 2) (m := [(1, (.one ⟨false, false, (.ig N W.ck X)⟩))]) (args := [(.c (.sl 1 0 (q * 4) n 4))]) (fn := Try.f31) (c := bodyOf Try.f31) (fuel := 300) (k := kOf Try.prog Try.f31) (outs := [82]) (hs := [(2, ⟨.ask, none⟩), (6, ⟨.ask, none⟩)])
    (cs := [(q * (4 : Nat) + n * (4 : Nat) ≤ N ∧ (33 : Nat) * ((0 : Nat) + n) ≤ (4398046511104 : Nat) ∧ (0 : Nat) ≤ (0 : Nat)),
      ((0 : Nat) < n)])
    mixed Try.func31 (by kernel_rfl) (by kernel_rfl) (by kernel_rfl) (by kernel_rfl) (by kernel_rfl) ⟨(by omega), (by omega), trivial⟩) [.b 1 1 true] [] [(82, 2)] [] (by kernel_rfl) (by kernel_rfl) (by kernel_rfl) (by kernel_rfl) (by kernel_rfl)
end Go.Proofs.Ytohleiikedpmkaa.Vm

namespace Go.Proofs.Ytohleiikedpmkaa.Vm
open Go Go.Proofs Go.Proofs.Ytohleiikedpmkaa
theorem clone0_ok (X : Nat → Int) (n N : Nat) (hN : n * 4 ≤ N) (hn : 1 ≤ n ∧ n ≤ 1048576) :
    Contract0 Try.prog 31 [(.c (.sl 1 0 0 n 4))] [(1, (.one ⟨false, false, (.ig N W.ck X)⟩))] 2 (.c (.sl 2 0 0 n 4)) [] [(2, (.one ⟨true, false, (.ig (n * 4) W.ck X)⟩))] :=
  (clone_ X n N 0 (by omega) hn).same_up rfl ⟨SameB.ig (n := n * 4) rfl (fun h => h) (fun _ _ => rfl) (fun _ _ => rfl), trivial⟩
end Go.Proofs.Ytohleiikedpmkaa.Vm

namespace Go.Proofs.Ytohleiikedpmkaa.Vm
open Go Go.Proofs Go.Proofs.Ytohleiikedpmkaa
set_option maxRecDepth 100000
theorem from_d_t (rr cw : Nat) (X : Nat → Nat → Int) (ro co : Int) (hi : Bool) (r2 c2 : Nat)
    (hrr : 1 ≤ rr ∧ rr ≤ 60)
    (hcw : 1 ≤ cw ∧ cw ≤ 120)
    (hro : 0 ≤ ro ∧ ro < rr)
    (hco : 0 ≤ co ∧ co < cw)
    (hX : ∀ j, j < rr → W.okRow (X j) cw)
    (hr2 : 1 ≤ r2 ∧ r2 ≤ 60)
    (hc2 : 1 ≤ c2 ∧ c2 ≤ 120)
    (hd : ¬ (r2 = rr ∧ c2 = cw))
    (h0 : (¬(↑rr : Int) = (↑r2 : Int))) :
    Contract0 Try.prog 30 [(.agg [(.int .i64 (↑rr)), (.int .i64 (↑cw)), (.sl 1 0 0 rr 1), (.int .i64 ro), (.int .i64 co), (.bool hi)]), (.c (.int .i64 (↑r2))), (.c (.int .i64 (↑c2)))] [(1, (.one ⟨false, false, (.gen rr (fun j_ => (.sl 2 j_ 0 cw 4)))⟩)), (2, (.many (fun j_ => some ⟨false, false, (.ig (W.rl rr (cw * 4) j_) W.ck (fun p_ => (X j_ p_)))⟩)))] 3 (.c (.sl 3 0 0 r2 1)) [] [(3, (.one ⟨true, false, (.gen r2 (fun j_ => (.sl 4 j_ 0 c2 4)))⟩)), (4, (.many (fun j_ => some ⟨true, true, (.ig (W.rl r2 (c2 * 4) j_) W.ck W.blank)⟩)))] :=
  Contract0.renum (Contract0.of_frunF (res := (.c (.sl 227 0 0 r2 1))) (up := [(227, (.one ⟨true, false, (.gen r2 (fun j_ => (.sl 228 j_ 0 c2 4)))⟩)), (228, (.many (fun j_ => some ⟨true, true, (.ig (W.rl r2 (c2 * 4) j_) W.ck W.blank)⟩)))]) (kill := []) (n0 := 3) (m := [(1, (.one ⟨false, false, (.gen rr (fun j_ => (.sl 2 j_ 0 cw 4)))⟩)), (2, (.many (fun j_ => some ⟨false, false, (.ig (W.rl rr (cw * 4) j_) W.ck (fun p_ => (X j_ p_)))⟩)))]) (args := [(.agg [(.int .i64 (↑rr)), (.int .i64 (↑cw)), (.sl 1 0 0 rr 1), (.int .i64 ro), (.int .i64 co), (.bool hi)]), (.c (.int .i64 (↑r2))), (.c (.int .i64 (↑c2)))]) (fn := Try.f30) (c := bodyOf Try.f30) (fuel := 300) (k := kOf Try.prog Try.f30) (outs := [227, 228]) (hs := [(6, ⟨.auto, some (.c (.bool (true)))⟩), (15, ⟨.call [] (.agg [(.int .i64 (↑r2)), (.int .i64 (↑c2)), (.sl 227 0 0 r2 1), (.int .i64 0), (.int .i64 0), (.bool (false))]) [] [(227, (.one ⟨true, false, (.gen r2 (fun j_ => (.sl 228 j_ 0 c2 4)))⟩)), (228, (.many (fun j_ => some ⟨true, true, (.ig (W.rl r2 (c2 * 4) j_) W.ck W.blank)⟩)))], none⟩)])
    (cs := [OwnF (fun j_ => some ⟨true, true, (.ig (W.rl r2 (c2 * 4) j_) W.ck W.blank)⟩),
      Contract Try.prog 22 [(.c (.int .i64 (↑r2))), (.c (.int .i64 (↑c2)))] [] 227 (.agg [(.int .i64 (↑r2)), (.int .i64 (↑c2)), (.sl 227 0 0 r2 1), (.int .i64 0), (.int .i64 0), (.bool (false))]) [] [(227, (.one ⟨true, false, (.gen r2 (fun j_ => (.sl 228 j_ 0 c2 4)))⟩)), (228, (.many (fun j_ => some ⟨true, true, (.ig (W.rl r2 (c2 * 4) j_) W.ck W.blank)⟩)))],
      EB ((↑rr : Int) != (↑r2 : Int)) true])
    mixed Try.func30 (by kernel_rfl) (by kernel_rfl) (by kernel_rfl) ⟨rfl, (.inr (RoF.of (fun _ => rfl))), trivial⟩ (by kernel_rfl) ⟨OwnF.of (fun _ => rfl), Contract0.in1 (blank_ok r2 c2 (by omega) (by omega)) [] [none, none] [(1, 227), (2, 228)] [] (by kernel_rfl), .mk (bne_t h0), trivial⟩) [.b 1 1 true, .b 2 2 true] [] [(227, 3), (228, 4)] [] (by kernel_rfl) (by kernel_rfl) (by kernel_rfl) (by kernel_rfl) (by kernel_rfl)
theorem from_d_f (rr cw : Nat) (X : Nat → Nat → Int) (ro co : Int) (hi : Bool) (r2 c2 : Nat)
    (hrr : 1 ≤ rr ∧ rr ≤ 60)
    (hcw : 1 ≤ cw ∧ cw ≤ 120)
    (hro : 0 ≤ ro ∧ ro < rr)
    (hco : 0 ≤ co ∧ co < cw)
    (hX : ∀ j, j < rr → W.okRow (X j) cw)
    (hr2 : 1 ≤ r2 ∧ r2 ≤ 60)
    (hc2 : 1 ≤ c2 ∧ c2 ≤ 120)
    (hd : ¬ (r2 = rr ∧ c2 = cw))
    (h0 : (¬¬(↑rr : Int) = (↑r2 : Int))) :
    Contract0 Try.prog 30 [(.agg [(.int .i64 (↑rr)), (.int .i64 (↑cw)), (.sl 1 0 0 rr 1), (.int .i64 ro), (.int .i64 co), (.bool hi)]), (.c (.int .i64 (↑r2))), (.c (.int .i64 (↑c2)))] [(1, (.one ⟨false, false, (.gen rr (fun j_ => (.sl 2 j_ 0 cw 4)))⟩)), (2, (.many (fun j_ => some ⟨false, false, (.ig (W.rl rr (cw * 4) j_) W.ck (fun p_ => (X j_ p_)))⟩)))] 3 (.c (.sl 3 0 0 r2 1)) [] [(3, (.one ⟨true, false, (.gen r2 (fun j_ => (.sl 4 j_ 0 c2 4)))⟩)), (4, (.many (fun j_ => some ⟨true, true, (.ig (W.rl r2 (c2 * 4) j_) W.ck W.blank)⟩)))] :=
  Contract0.renum (Contract0.of_frunF (res := (.c (.sl 227 0 0 r2 1))) (up := [(227, (.one ⟨true, false, (.gen r2 (fun j_ => (.sl 228 j_ 0 c2 4)))⟩)), (228, (.many (fun j_ => some ⟨true, true, (.ig (W.rl r2 (c2 * 4) j_) W.ck W.blank)⟩)))]) (kill := []) (n0 := 3) (m := [(1, (.one ⟨false, false, (.gen rr (fun j_ => (.sl 2 j_ 0 cw 4)))⟩)), (2, (.many (fun j_ => some ⟨false, false, (.ig (W.rl rr (cw * 4) j_) W.ck (fun p_ => (X j_ p_)))⟩)))]) (args := [(.agg [(.int .i64 (↑rr)), (.int .i64 (↑cw)), (.sl 1 0 0 rr 1), (.int .i64 ro), (.int .i64 co), (.bool hi)]), (.c (.int .i64 (↑r2))), (.c (.int .i64 (↑c2)))]) (fn := Try.f30) (c := bodyOf Try.f30) (fuel := 300) (k := kOf Try.prog Try.f30) (outs := [227, 228]) (hs := [(6, ⟨.auto, some (.c (.bool (false)))⟩), (10, ⟨.auto, some (.c (.bool (true)))⟩), (15, ⟨.call [] (.agg [(.int .i64 (↑r2)), (.int .i64 (↑c2)), (.sl 227 0 0 r2 1), (.int .i64 0), (.int .i64 0), (.bool (false))]) [] [(227, (.one ⟨true, false, (.gen r2 (fun j_ => (.sl 228 j_ 0 c2 4)))⟩)), (228, (.many (fun j_ => some ⟨true, true, (.ig (W.rl r2 (c2 * 4) j_) W.ck W.blank)⟩)))], none⟩)])
    (cs := [OwnF (fun j_ => some ⟨true, true, (.ig (W.rl r2 (c2 * 4) j_) W.ck W.blank)⟩),
      Contract Try.prog 22 [(.c (.int .i64 (↑r2))), (.c (.int .i64 (↑c2)))] [] 227 (.agg [(.int .i64 (↑r2)), (.int .i64 (↑c2)), (.sl 227 0 0 r2 1), (.int .i64 0), (.int .i64 0), (.bool (false))]) [] [(227, (.one ⟨true, false, (.gen r2 (fun j_ => (.sl 228 j_ 0 c2 4)))⟩)), (228, (.many (fun j_ => some ⟨true, true, (.ig (W.rl r2 (c2 * 4) j_) W.ck W.blank)⟩)))],
      EB ((↑cw : Int) != (↑c2 : Int)) true,
      EB ((↑rr : Int) != (↑r2 : Int)) false])
    mixed Try.func30 (by kernel_rfl) (by kernel_rfl) (by kernel_rfl) ⟨rfl, (.inr (RoF.of (fun _ => rfl))), trivial⟩ (by kernel_rfl) ⟨OwnF.of (fun _ => rfl), Contract0.in1 (blank_ok r2 c2 (by omega) (by omega)) [] [none, none] [(1, 227), (2, 228)] [] (by kernel_rfl), .mk (bne_t (by omega)), .mk (bne_f (Decidable.of_not_not h0)), trivial⟩) [.b 1 1 true, .b 2 2 true] [] [(227, 3), (228, 4)] [] (by kernel_rfl) (by kernel_rfl) (by kernel_rfl) (by kernel_rfl) (by kernel_rfl)
end Go.Proofs.Ytohleiikedpmkaa.Vm

namespace Go.Proofs.Ytohleiikedpmkaa.Vm
open Go Go.Proofs Go.Proofs.Ytohleiikedpmkaa
set_option maxRecDepth 100000
def LFI (rr cw : Nat) (X : Nat → Nat → Int) (i : Nat) : S0 :=
  ⟨[(6, (.c .nils)), (25, (.c (.sl 1 0 0 rr 1))), (26, (.c (.int .i64 (↑rr)))), (7, (.c (.sl 283 0 0 i 1))), (27, (.c (.int .i64 (i : Int))))], [(1, (.one ⟨false, false, (.gen rr (fun j_ => (.sl 2 j_ 0 cw 4)))⟩)), (2, (.many (fun j_ => some ⟨false, false, (.ig (W.rl rr (cw * 4) j_) W.ck (fun p_ => (X j_ p_)))⟩))), (283, (.one ⟨true, false, .gen i (fun j_ => .sl 284 j_ 0 cw 4)⟩)), (284, (.many (fun j_ => some ⟨true, false, .ig (W.rl i (cw * 4) j_) W.ck (X j_)⟩)))], 291⟩
theorem LF_by {α : Type} (I : α → S0) (Inv : α → Prop) (μ : α → Nat) {ex : Ex} {s' : S0} (hex : ex ≠ .normal)
    (step : ∀ x, Inv x → (∃ y, Inv y ∧ μ y < μ x ∧ CodeOk Try.prog 38 275 (kAt (kOf Try.prog Try.f30) [true, true, true, false, true, false, false]) (I x) .normal (I y)) ∨ CodeOk Try.prog 38 275 (kAt (kOf Try.prog Try.f30) [true, true, true, false, true, false, false]) (I x) ex s') (x : α) (hx : Inv x) :
    CodeOk Try.prog 38 275 (kAt (kOf Try.prog Try.f30) [true, true, true, false, true, false]) (I x) ex s' := by
  have hk : (kAt (kOf Try.prog Try.f30) [true, true, true, false, true, false]) = .loop (kAt (kOf Try.prog Try.f30) [true, true, true, false, true, false, false]) := by kernel_rfl
  rw [hk]
  exact CodeOk.loop I Inv μ hex step x hx
def LF0 (rr cw : Nat) (X : Nat → Nat → Int) : S0 :=
  ⟨[(6, (.c .nils)), (25, (.c (.sl 1 0 0 rr 1))), (26, (.c (.int .i64 (↑rr)))), (7, (.c .nils)), (27, (.c (.int .i64 0)))], [(1, (.one ⟨false, false, (.gen rr (fun j_ => (.sl 2 j_ 0 cw 4)))⟩)), (2, (.many (fun j_ => some ⟨false, false, (.ig (W.rl rr (cw * 4) j_) W.ck (fun p_ => (X j_ p_)))⟩)))], 275⟩
theorem LF_rt (rr cw : Nat) (X : Nat → Nat → Int) (ro co : Int) (i : Nat)
    (hrr : 1 ≤ rr ∧ rr ≤ 60)
    (hcw : 1 ≤ cw ∧ cw ≤ 120)
    (hro : 0 ≤ ro ∧ ro < rr)
    (hco : 0 ≤ co ∧ co < cw)
    (hX : ∀ j, j < rr → W.okRow (X j) cw)
    (hil : i ≤ rr)
    (h0 : ((↑i : Int) < (↑rr : Int))) :
    CodeOk Try.prog 38 275 (kAt (kOf Try.prog Try.f30) [true, true, true, false, true, false, false]) (LFI rr cw X i) .normal ⟨[(6, (.c .nils)), (25, (.c (.sl 1 0 0 rr 1))), (26, (.c (.int .i64 (↑rr)))), (7, (.c (.sl 275 0 0 (i + 1) 1))), (27, (.c (.int .i64 (↑(i + 1)))))], [(1, (.one ⟨false, false, (.gen rr (fun j_ => (.sl 2 j_ 0 cw 4)))⟩)), (2, (.many (fun j_ => some ⟨false, false, (.ig (W.rl rr (cw * 4) j_) W.ck (fun p_ => (X j_ p_)))⟩))), (284, (.many (fun j_ => some ⟨true, false, (.ig (W.rl i (cw * 4) j_) W.ck (fun p_ => (X j_ p_)))⟩))), (275, (.one ⟨true, false, (.gen (i + 1) (fun j_ => (renC [(283, 283), (284, 284), (419, 275), (387, 276)] 275 (bif Nat.blt j_ (mulE i 1) then C.sl 284 (0 + j_) 0 cw 4 else List.getD (List.take 1 (List.drop 0 [C.sl 387 0 0 cw 4])) (j_ - mulE i 1) C.unk))))⟩)), (276, (.one ⟨true, false, (.ig (cw * 4) W.ck (fun p_ => (X i p_)))⟩))], 291⟩ :=
  CodeOk.of_runs (fuel := 300) (v := ⟨[6, 25, 26, 7, 27], [1, 2, 283, 284, 419, 387], [(283, 283), (284, 284), (419, 275), (387, 276)], 291⟩) (hs := [(0, ⟨.auto, some (.c (.bool (true)))⟩), (2, ⟨.ask, none⟩), (3, ⟨.ask, none⟩), (7, ⟨.call [2] (.c (.sl 387 0 0 cw 4)) [] [(387, (.one ⟨true, false, (.ig (cw * 4) W.ck (fun p_ => (X i p_)))⟩))], none⟩), (9, ⟨.ask, some (.c (.sl 419 0 0 (i + 1) 1))⟩), (11, ⟨.auto, some (.c (.int .i64 (↑(i + 1))))⟩)])
    (cs := [EI .i64 (IntKind.wrap IntKind.i64 ((↑i : Int) + 1)) ((↑(i + 1) : Int)),
      ((.c (.sl 419 0 0 (addO i 1) 1)) : V) = (.c (.sl 419 0 0 (i + 1) 1)),
      ((1 : Nat) ≤ (1 : Nat) ∧ (25 : Nat) * (i + (1 : Nat)) ≤ (4398046511104 : Nat) ∧ (0 : Nat) + i * (1 : Nat) ≤ i),
      Contract Try.prog 31 [(.c (.sl 2 i 0 cw 4))] [(2, (.many (fun j_ => some ⟨false, false, (.ig (W.rl rr (cw * 4) j_) W.ck (fun p_ => (X j_ p_)))⟩)))] 387 (.c (.sl 387 0 0 cw 4)) [] [(387, (.one ⟨true, false, (.ig (cw * 4) W.ck (fun p_ => (X i p_)))⟩))],
      (i + (1 : Nat) ≤ rr),
      ((0 : Int) ≤ (↑i : Int) ∧ (↑i : Int) < (↑rr : Int)),
      EB (decide ((↑i : Int) < (↑rr : Int))) true])
    mixed (by kernel_rfl) ⟨.mk (by simp only [addO_eq, mulE_eq, mulE_one, Int.toNat_natCast, IntKind.wrap_i64, mmin, mmax]; omega), EV.sl (by rfl) (by simp only [addO_eq, mulE_eq, mulE_one, Int.toNat_natCast, IntKind.wrap_i64, mmin, mmax]), (by omega), ContractN.fin (ContractN.famB (bd := (.ig (W.rl rr (cw * 4) i) W.ck (fun p_ => (X i p_)))) (ex := false) (args1 := [(.c (.sl 402 0 0 cw 4))]) 402 2 i (Contract0.instN (clone0_ok (fun p_ => X i p_) cw (W.rl rr (cw * 4) i) (by rw [rl_lt (by omega)]; omega) (by omega)) [.b 402 1 true []] [none] [(2, 387)] [] (by kernel_rfl) (by kernel_rfl) (by kernel_rfl) (by kernel_rfl) (by kernel_rfl)) (by kernel_rfl) (by kernel_rfl) (by kernel_rfl) (by kernel_rfl) (by kernel_rfl) (by kernel_rfl)) (by kernel_rfl), (by omega), (by omega), .mk (decide_eq_true h0), trivial⟩
theorem LF_xf (rr cw : Nat) (X : Nat → Nat → Int) (ro co : Int) (i : Nat)
    (hrr : 1 ≤ rr ∧ rr ≤ 60)
    (hcw : 1 ≤ cw ∧ cw ≤ 120)
    (hro : 0 ≤ ro ∧ ro < rr)
    (hco : 0 ≤ co ∧ co < cw)
    (hX : ∀ j, j < rr → W.okRow (X j) cw)
    (hil : i ≤ rr)
    (h0 : (¬(↑i : Int) < (↑rr : Int))) :
    CodeOk Try.prog 38 275 (kAt (kOf Try.prog Try.f30) [true, true, true, false, true, false, false]) (LFI rr cw X i) (.exit 0) (LFI rr cw X i) :=
  CodeOk.of_runs (fuel := 300) (v := ⟨[6, 25, 26, 7, 27], [1, 2, 283, 284], [(283, 283), (284, 284)], 291⟩) (hs := [(0, ⟨.auto, some (.c (.bool (false)))⟩)])
    (cs := [EB (decide ((↑i : Int) < (↑rr : Int))) false])
    mixed (by kernel_rfl) ⟨.mk (decide_eq_false h0), trivial⟩
end Go.Proofs.Ytohleiikedpmkaa.Vm

namespace Go.Proofs.Ytohleiikedpmkaa.Vm
open Go Go.Proofs Go.Proofs.Ytohleiikedpmkaa
theorem from_loop (rr cw : Nat) (X : Nat → Nat → Int) (hrr : 1 ≤ rr ∧ rr ≤ 60) (hcw : 1 ≤ cw ∧ cw ≤ 120) (hX : ∀ j, j < rr → W.okRow (X j) cw) :
    CodeOk Try.prog 38 275 (kAt (kOf Try.prog Try.f30) [true, true, true, false, true, false]) (LF0 rr cw X) (.exit 0) (LFI rr cw X rr) := by
  have hro : (0 : Int) ≤ 0 ∧ (0 : Int) < rr := by omega
  have hco : (0 : Int) ≤ 0 ∧ (0 : Int) < cw := by omega
  have h : CodeOk Try.prog 38 275 (kAt (kOf Try.prog Try.f30) [true, true, true, false, true, false]) (LFI rr cw X 0) (.exit 0) (LFI rr cw X rr) := by
    refine LF_by (fun i => LFI rr cw X i) (fun i => i ≤ rr) (fun i => rr - i) (by simp) ?_ 0 (Nat.zero_le _)
    intro i hil
    by_cases h0 : (i : Int) < (rr : Int)
    · refine .inl ⟨i + 1, by omega, by omega, (LF_rt rr cw X 0 0 i hrr hcw hro hco hX hil h0).move (Move.grow (H := 283) (h' := 275) (F := 284) (N := 276) (i := i) (by decide) (show 275 ≤ 291 ∧ 283 < 291 ∧ 284 < 291 by decide) (by decide) (by decide) ?_ ?_)⟩
      · refine ⟨?_, ?_, ?_, ?_, trivial⟩
        · exact BR.gen (growRho_low (by decide)) rfl (fun h => h) rfl (fun p hp => ⟨growRho_low (by decide), rfl, rfl, rfl⟩)
        · intro j k hk
          injection hk with hk
          subst hk
          exact BR.ig (growRho_low (by decide)) rfl (fun h => h) rfl (fun _ _ => rfl) (fun _ _ => rfl)
        · exact BR.gen (growRho_H (by decide)) rfl (fun h => h) rfl (fun p hp => hdr_cell hp (by decide) (by decide) rfl rfl)
        · exact row_grow (by decide) (by decide) (fun j => rfl) rfl (fun h => h) (fun p hp => rfl)
      · exact ⟨rfl, trivial, rfl, ⟨growRho_low (by decide), rfl, rfl, rfl⟩, rfl, ⟨rfl, rfl⟩, rfl, ⟨growRho_H (by decide), rfl, rfl, rfl⟩, rfl, ⟨rfl, rfl⟩, trivial⟩
    · have e : i = rr := by omega
      subst e
      exact .inr (LF_xf i cw X 0 0 i hrr hcw hro hco hX hil h0)
  refine CodeOk.enter (Move.begin (fun b _ => Nat.beq b 283 || Nat.beq b 284) (by decide) (show 275 ≤ 291 by decide) ?_ ?_ ?_) h
  · intro b k hb
    have hb : 291 ≤ b := hb
    rw [beqF (by omega), beqF (by omega)]; rfl
  · refine ⟨?_, ?_, ?_, ?_, trivial⟩
    · exact BR.gen (newRho_low (by decide)) rfl (fun h => h) rfl (fun p hp => ⟨newRho_low (by decide), rfl, rfl, rfl⟩)
    · intro j k hk
      injection hk with hk
      subst hk
      exact BR.ig (newRho_low (by decide)) rfl (fun h => h) rfl (fun _ _ => rfl) (fun _ _ => rfl)
    · exact BR.none (newRho_high (by decide)) rfl rfl rfl
    · intro j k hk
      injection hk with hk
      subst hk
      exact BR.none (newRho_high (by decide)) rfl rfl (rl_ge (i := 0) (n := cw * 4) (j := j) (Nat.zero_le _))
  · exact ⟨rfl, trivial, rfl, ⟨newRho_low (by decide), rfl, rfl, rfl⟩, rfl, ⟨rfl, rfl⟩, rfl, rfl, rfl, ⟨rfl, rfl⟩, trivial⟩
end Go.Proofs.Ytohleiikedpmkaa.Vm

namespace Go.Proofs.Ytohleiikedpmkaa.Vm
open Go Go.Proofs Go.Proofs.Ytohleiikedpmkaa
set_option maxRecDepth 100000
theorem from_s (rr cw : Nat) (X : Nat → Nat → Int) (ro co : Int) (hi : Bool)
    (hrr : 1 ≤ rr ∧ rr ≤ 60)
    (hcw : 1 ≤ cw ∧ cw ≤ 120)
    (hro : 0 ≤ ro ∧ ro < rr)
    (hco : 0 ≤ co ∧ co < cw)
    (hX : ∀ j, j < rr → W.okRow (X j) cw) :
    Contract0 Try.prog 30 [(.agg [(.int .i64 (↑rr)), (.int .i64 (↑cw)), (.sl 1 0 0 rr 1), (.int .i64 ro), (.int .i64 co), (.bool hi)]), (.c (.int .i64 (↑rr))), (.c (.int .i64 (↑cw)))] [(1, (.one ⟨false, false, (.gen rr (fun j_ => (.sl 2 j_ 0 cw 4)))⟩)), (2, (.many (fun j_ => some ⟨false, false, (.ig (W.rl rr (cw * 4) j_) W.ck (fun p_ => (X j_ p_)))⟩)))] 3 (.c (.sl 3 0 0 rr 1)) [] [(3, (.one ⟨true, false, (.gen rr (fun j_ => (.sl 4 j_ 0 cw 4)))⟩)), (4, (.many (fun j_ => some ⟨true, false, (.ig (W.rl rr (cw * 4) j_) W.ck (fun p_ => (X j_ p_)))⟩)))] :=
  Contract0.renum (Contract0.of_frunF (res := (.c (.sl 283 0 0 rr 1))) (up := [(283, (.one ⟨true, false, (.gen rr (fun j_ => (.sl 284 j_ 0 cw 4)))⟩)), (284, (.many (fun j_ => some ⟨true, false, (.ig (W.rl rr (cw * 4) j_) W.ck (fun p_ => (X j_ p_)))⟩)))]) (kill := []) (n0 := 3) (m := [(1, (.one ⟨false, false, (.gen rr (fun j_ => (.sl 2 j_ 0 cw 4)))⟩)), (2, (.many (fun j_ => some ⟨false, false, (.ig (W.rl rr (cw * 4) j_) W.ck (fun p_ => (X j_ p_)))⟩)))]) (args := [(.agg [(.int .i64 (↑rr)), (.int .i64 (↑cw)), (.sl 1 0 0 rr 1), (.int .i64 ro), (.int .i64 co), (.bool hi)]), (.c (.int .i64 (↑rr))), (.c (.int .i64 (↑cw)))]) (fn := Try.f30) (c := bodyOf Try.f30) (fuel := 300) (k := kOf Try.prog Try.f30) (outs := [283, 284]) (hs := [(5, ⟨.auto, some (.c (.bool (false)))⟩), (10, ⟨.auto, some (.c (.bool (false)))⟩), (18, ⟨.sum ⟨[6, 25, 26, 7, 27], [1, 2], [], 275⟩ (.exit 0) (LFI rr cw X rr), none⟩)])
    (cs := [OwnF (fun j_ => some ⟨true, false, (.ig (W.rl rr (cw * 4) j_) W.ck (fun p_ => (X j_ p_)))⟩),
      CodeOk Try.prog 38 275 (kAt (kOf Try.prog Try.f30) [true, true, true, false, true, false]) (LF0 rr cw X) (.exit 0) (LFI rr cw X rr),
      EB ((↑cw : Int) != (↑cw : Int)) false,
      EB ((↑rr : Int) != (↑rr : Int)) false])
    mixed Try.func30 (by kernel_rfl) (by kernel_rfl) (by kernel_rfl) ⟨rfl, (.inr (RoF.of (fun _ => rfl))), trivial⟩ (by kernel_rfl) ⟨OwnF.of (fun _ => rfl), (from_loop rr cw X (by omega) (by omega) (by omega)), .mk (bne_f (Decidable.of_not_not (by omega))), .mk (bne_f (Decidable.of_not_not (by omega))), trivial⟩) [.b 1 1 true, .b 2 2 true] [] [(283, 3), (284, 4)] [] (by kernel_rfl) (by kernel_rfl) (by kernel_rfl) (by kernel_rfl) (by kernel_rfl)
end Go.Proofs.Ytohleiikedpmkaa.Vm

namespace Go.Proofs.Ytohleiikedpmkaa.W
open Go Go.Proofs.Ytohleiikedpmkaa.Vm
noncomputable def frX (rr cw : Nat) (X : Nat → Nat → Int) (r2 c2 : Nat) : Nat → Nat → Int := open Classical in if r2 = rr ∧ c2 = cw then X else fun _ => blank
end Go.Proofs.Ytohleiikedpmkaa.W
namespace Go.Proofs.Ytohleiikedpmkaa.Vm
open Go Go.Proofs Go.Proofs.Ytohleiikedpmkaa
theorem from_ok (rr cw : Nat) (X : Nat → Nat → Int) (ro co : Int) (hi : Bool) (r2 c2 : Nat) (hrr : 1 ≤ rr ∧ rr ≤ 60) (hcw : 1 ≤ cw ∧ cw ≤ 120) (hro : 0 ≤ ro ∧ ro < rr) (hco : 0 ≤ co ∧ co < cw) (hX : ∀ j, j < rr → W.okRow (X j) cw) (hr2 : 1 ≤ r2 ∧ r2 ≤ 60) (hc2 : 1 ≤ c2 ∧ c2 ≤ 120) :
    Contract0 Try.prog 30 [(.agg [(.int .i64 (↑rr)), (.int .i64 (↑cw)), (.sl 1 0 0 rr 1), (.int .i64 ro), (.int .i64 co), (.bool hi)]), (.c (.int .i64 (↑r2))), (.c (.int .i64 (↑c2)))] [(1, (.one ⟨false, false, (.gen rr (fun j_ => (.sl 2 j_ 0 cw 4)))⟩)), (2, (.many (fun j_ => some ⟨false, false, (.ig (W.rl rr (cw * 4) j_) W.ck (X j_))⟩)))] 3 (.c (.sl 3 0 0 r2 1)) [] [(3, (.one ⟨true, false, (.gen r2 (fun j_ => (.sl 4 j_ 0 c2 4)))⟩)), (4, (.many (fun j_ => some ⟨true, false, (.ig (W.rl r2 (c2 * 4) j_) W.ck (W.frX rr cw X r2 c2 j_))⟩)))] := by
  by_cases h : r2 = rr ∧ c2 = cw
  · obtain ⟨rfl, rfl⟩ := h
    have e : W.frX r2 c2 X r2 c2 = X := by unfold W.frX; rw [if_pos ⟨rfl, rfl⟩]
    rw [e]
    exact from_s r2 c2 X ro co hi hrr hcw hro hco hX
  · have e : W.frX rr cw X r2 c2 = fun _ => W.blank := by unfold W.frX; rw [if_neg h]
    rw [e]
    by_cases h0 : (rr : Int) = (r2 : Int)
    · exact (from_d_f rr cw X ro co hi r2 c2 hrr hcw hro hco hX hr2 hc2 h (by simpa using h0)).same_up rfl ⟨SameB.refl rfl, fun j k e => by injection e with e; subst e; exact SameB.ig rfl (fun h => by cases h) (fun _ _ => rfl) (fun _ _ => rfl), trivial⟩
    · exact (from_d_t rr cw X ro co hi r2 c2 hrr hcw hro hco hX hr2 hc2 h h0).same_up rfl ⟨SameB.refl rfl, fun j k e => by injection e with e; subst e; exact SameB.ig rfl (fun h => by cases h) (fun _ _ => rfl) (fun _ _ => rfl), trivial⟩
end Go.Proofs.Ytohleiikedpmkaa.Vm

namespace Go.Proofs.Ytohleiikedpmkaa.W
open Go Go.Proofs.Ytohleiikedpmkaa.Vm
def eqc (Y Z : Nat → Nat → Int) (j k : Nat) : Bool := (Y j (k * 4) == Z j (k * 4) && (Y j (k * 4 + 1) == Z j (k * 4 + 1) && (Y j (k * 4 + 2) == Z j (k * 4 + 2) && (Y j (k * 4 + 3) == Z j (k * 4 + 3) && true))))
abbrev Rn := List (Nat × Nat × Nat)
def ra (L : Rn) (k : Nat) : Nat := (L.getD k (0, 0, 0)).1
def rb (L : Rn) (k : Nat) : Nat := (L.getD k (0, 0, 0)).2.1
def rn (L : Rn) (k : Nat) : Nat := (L.getD k (0, 0, 0)).2.2
def stop (Y Z : Nat → Nat → Int) (j cw : Nat) : Nat → Nat → Nat
  | 0, e => e
  | n + 1, e => bif Nat.blt e cw && !eqc Y Z j e then stop Y Z j cw n (e + 1) else e
def stopAt (Y Z : Nat → Nat → Int) (j cw e : Nat) : Nat := stop Y Z j cw (cw - e) e
theorem stop_spec (Y Z : Nat → Nat → Int) (j cw : Nat) : ∀ n e, e ≤ cw → cw - e ≤ n → e ≤ stop Y Z j cw n e ∧ stop Y Z j cw n e ≤ cw ∧ (∀ k, e ≤ k → k < stop Y Z j cw n e → eqc Y Z j k = false) ∧ (stop Y Z j cw n e = cw ∨ eqc Y Z j (stop Y Z j cw n e) = true)
  | 0, e, h1, h2 => by
    refine ⟨Nat.le_refl _, h1, fun k h3 h4 => ?_, .inl (by show e = cw; omega)⟩
    have h4 : k < e := h4
    omega
  | n + 1, e, h1, h2 => by
    by_cases he : e < cw
    · cases hq : eqc Y Z j e with
      | true =>
        have e0 : stop Y Z j cw (n + 1) e = e := by simp only [stop, hq, Bool.not_true, Bool.and_false, cond_false]
        rw [e0]
        exact ⟨Nat.le_refl _, h1, fun k h3 h4 => by omega, .inr hq⟩
      | false =>
        have e0 : stop Y Z j cw (n + 1) e = stop Y Z j cw n (e + 1) := by simp only [stop, hq, bltT he, Bool.not_false, Bool.and_true, cond_true]
        rw [e0]
        obtain ⟨g1, g2, g3, g4⟩ := stop_spec Y Z j cw n (e + 1) (by omega) (by omega)
        refine ⟨by omega, g2, fun k h3 h4 => ?_, g4⟩
        by_cases hk : k = e
        · subst hk; exact hq
        · exact g3 k (by omega) h4
    · have e0 : stop Y Z j cw (n + 1) e = e := by simp only [stop, bltF he, Bool.false_and, cond_false]
      rw [e0]
      exact ⟨Nat.le_refl _, h1, fun k h3 h4 => by omega, .inl (by omega)⟩
theorem stopAt_spec (Y Z : Nat → Nat → Int) (j : Nat) {cw e : Nat} (h : e ≤ cw) : e ≤ stopAt Y Z j cw e ∧ stopAt Y Z j cw e ≤ cw ∧ (∀ k, e ≤ k → k < stopAt Y Z j cw e → eqc Y Z j k = false) ∧ (stopAt Y Z j cw e = cw ∨ eqc Y Z j (stopAt Y Z j cw e) = true) :=
  stop_spec Y Z j cw _ e h (Nat.le_refl _)
def rowRuns (Y Z : Nat → Nat → Int) (j cw : Nat) : Nat → Nat → Rn → Rn
  | 0, _, L => L
  | n + 1, k, L => bif Nat.blt k cw then rowRuns Y Z j cw n (stopAt Y Z j cw k + 1) (bif Nat.blt k (stopAt Y Z j cw k) then L ++ [(j, k, stopAt Y Z j cw k - k)] else L) else L
def runs (Y Z : Nat → Nat → Int) (cw : Nat) : Nat → Rn
  | 0 => []
  | i + 1 => rowRuns Y Z i cw cw 0 (runs Y Z cw i)
end Go.Proofs.Ytohleiikedpmkaa.W

namespace Go.Proofs.Ytohleiikedpmkaa.Vm
open Go Go.Proofs Go.Proofs.Ytohleiikedpmkaa
set_option maxRecDepth 100000
end Go.Proofs.Ytohleiikedpmkaa.Vm

namespace Go.Proofs.Ytohleiikedpmkaa.Vm
open Go Go.Proofs Go.Proofs.Ytohleiikedpmkaa
end Go.Proofs.Ytohleiikedpmkaa.Vm
