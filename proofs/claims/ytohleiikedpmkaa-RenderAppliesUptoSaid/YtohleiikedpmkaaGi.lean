/- What functions of the program come to: parts of the walk (Gi). -/
import Derived.Test.YtohleiikedpmkaaGh
import Derived.KernelRfl
import Derived.Test.YtohleiikedpmkaaProg
import Derived.Test.YtohleiikedpmkaaVmc
import Derived.Test.YtohleiikedpmkaaGe
set_option linter.unusedSimpArgs false
set_option linter.unusedVariables false
namespace Go.Proofs.Ytohleiikedpmkaa.Vm
open Go Go.Proofs Go.Proofs.Ytohleiikedpmkaa
set_option maxRecDepth 100000
noncomputable def LJI (l : List Int) (n : Nat) (l2 : List Int) (how at_ pr pc po pq : Int) (ph : Bool) (A B : Nat → Int) (nn MM : Nat → Nat) (G : Nat → Nat → Int) (N m : Nat) (is_ : Bool) (rr cw : Nat) (X : Nat → Nat → Int) (ro co : Int) (hi : Bool) (rr2 cw2 : Nat) (ro2 co2 : Int) (hi2 : Bool) (L : W.Rn) (Y : Nat → Nat → Int) : S0 :=
  ⟨[(4, (.c (.int .i64 how))), (5, (.c (.int .i64 at_))), (7, (.c (.bool is_))), (14, (.c (.ptr 5 0 0))), (16, (.c (.bool (false)))), (17, (.c (.ptr 101 0 0))), (18, (.c (.ptr 277 0 0))), (40, (.c (.bool (true))))], [(1, (.one ⟨false, false, (.ints .i64 l)⟩)), (2, (.one ⟨false, false, (.ints .i64 l2)⟩)), (3, (.one ⟨false, false, (.row (N * 3) 3 (fun j_ => [(.int .i64 (A j_)), (.int .i64 (B j_)), (.sl 4 j_ 0 (nn j_) 4)]))⟩)), (4, (.many (fun j_ => some ⟨false, false, (.ig (MM j_ * 4) W.ck (fun p_ => (G j_ p_)))⟩))), (5, (.one ⟨true, true, (.cells [(.int .i64 pr), (.int .i64 pc), (.int .i64 po), (.int .i64 pq), (.bool ph), (.sl 3 0 0 m 3)])⟩)), (85, (.one ⟨true, false, .gen rr (fun j_ => .sl 86 j_ 0 cw 4)⟩)), (86, (.many (fun j_ => some ⟨true, true, .ig (W.rl rr (cw * 4) j_) W.ck (X j_)⟩))), (101, (.one ⟨true, true, .cells [.int .i64 (rr : Int), .int .i64 (cw : Int), .sl 85 0 0 rr 1, .int .i64 ro, .int .i64 co, .bool hi]⟩)), (261, (.one ⟨true, false, .row (L.length * 3) 3 (fun k_ => [.int .i64 (W.ra L k_ : Int), .int .i64 (W.rb L k_ : Int), .sl 262 k_ 0 (W.rn L k_) 4])⟩)), (262, (.many (fun j_ => some ⟨true, false, .ig (W.rn L j_ * 4) W.ck (fun p_ => Y (W.ra L j_) (p_ + W.rb L j_ * 4))⟩))), (277, (.one ⟨true, true, .cells [.int .i64 (rr2 : Int), .int .i64 (cw2 : Int), .int .i64 ro2, .int .i64 co2, .bool hi2, .sl 261 0 0 L.length 3]⟩))], 389⟩
theorem LJ_rt (rows cols : Int) (l : List Int) (o n : Nat) (l2 : List Int) (p q : Nat) (how at_ pr pc po pq : Int) (ph : Bool) (A B : Nat → Int) (nn MM : Nat → Nat) (G : Nat → Nat → Int) (N m : Nat) (is_ : Bool) (rr cw : Nat) (X : Nat → Nat → Int) (ro co : Int) (hi : Bool) (rr2 cw2 : Nat) (ro2 co2 : Int) (hi2 : Bool) (L : W.Rn) (Y : Nat → Nat → Int)
    (hr : -9223372036854775808 ≤ rows ∧ rows < 9223372036854775808)
    (hc : -9223372036854775808 ≤ cols ∧ cols < 9223372036854775808)
    (hl : o + n ≤ l.length)
    (hn : n ≤ 1048576)
    (hl2 : p + q ≤ l2.length)
    (hq : q ≤ 1048576)
    (hho : -9223372036854775808 ≤ how ∧ how < 9223372036854775808)
    (hat : -9223372036854775808 ≤ at_ ∧ at_ < 9223372036854775808)
    (h6 : W.pick rows 6 < 6)
    (h9 : W.pick cols 9 < 9)
    (h6b : W.pick (IntKind.wrap IntKind.i64 (rows + Int.tmod how 2)) 6 < 6)
    (hlb : ∀ j, -9223372036854775808 ≤ List.getD l j 0 ∧ List.getD l j 0 < 9223372036854775808)
    (hlb2 : ∀ j, -9223372036854775808 ≤ List.getD l2 j 0 ∧ List.getD l2 j 0 < 9223372036854775808)
    (h9h : W.pick how 9 < 9)
    (hm : m ≤ N)
    (hms : m ≤ 1048576)
    (hnM : ∀ j, nn j ≤ MM j)
    (hMs : ∀ j, MM j ≤ 1048576)
    (hA : ∀ j, -9223372036854775808 ≤ A j ∧ A j < 9223372036854775808)
    (hB : ∀ j, -9223372036854775808 ≤ B j ∧ B j < 9223372036854775808)
    (hL1 : 0 < L.length)
    (hLl : L.length ≤ 4000)
    (hk : W.pick at_ (L.length : Int) < L.length)
    (hn1 : 1 ≤ W.rn L (W.pick at_ (L.length : Int)))
    (h12 : W.pick (IntKind.wrap IntKind.i64 (Int.tdiv at_ 9)) 12 < 12)
    (h14 : W.pick (IntKind.wrap IntKind.i64 (Int.tdiv at_ 9)) 14 < 14)
    (h111 : W.pick (IntKind.wrap IntKind.i64 (Int.tdiv at_ 9)) 1114368 < 1114368)
    (h0 : ((↑(W.pick how (9 : Int)) : Int) = (0 : Int))) :
    CodeOk Try.prog 137 373 (kAt (kOf Try.prog Try.f4) [true, true, true, false, true]) (LJI l n l2 how at_ pr pc po pq ph A B nn MM G N m is_ rr cw X ro co hi rr2 cw2 ro2 co2 hi2 L Y) .normal ⟨[(4, (.c (.int .i64 how))), (5, (.c (.int .i64 at_))), (7, (.c (.bool is_))), (14, (.c (.ptr 5 0 0))), (16, (.c (.bool (false)))), (17, (.c (.ptr 101 0 0))), (18, (.c (.ptr 277 0 0))), (40, (.c (.bool (true))))], [(1, (.one ⟨false, false, (.ints .i64 l)⟩)), (2, (.one ⟨false, false, (.ints .i64 l2)⟩)), (3, (.one ⟨false, false, (.row (N * 3) 3 (fun j_ => [(.int .i64 (A j_)), (.int .i64 (B j_)), (.sl 4 j_ 0 (nn j_) 4)]))⟩)), (4, (.many (fun j_ => some ⟨false, false, (.ig (MM j_ * 4) W.ck (fun p_ => (G j_ p_)))⟩))), (5, (.one ⟨true, true, (.cells [(.int .i64 pr), (.int .i64 pc), (.int .i64 po), (.int .i64 pq), (.bool ph), (.sl 3 0 0 m 3)])⟩)), (85, (.one ⟨true, false, (.gen rr (fun j_ => (.sl 86 j_ 0 cw 4)))⟩)), (86, (.many (fun j_ => some ⟨true, true, (.ig (W.rl rr (cw * 4) j_) W.ck (fun p_ => (X j_ p_)))⟩))), (101, (.one ⟨true, true, (.cells [(.int .i64 (↑rr)), (.int .i64 (↑cw)), (.sl 85 0 0 rr 1), (.int .i64 ro), (.int .i64 co), (.bool hi)])⟩)), (261, (.one ⟨true, false, (.gen (List.length L * 3) (fun j_ => (renC [] 373 (bif inR (W.pick at_ (↑(List.length L) : Int) * 3) (List.length [C.int IntKind.i64 (IntKind.wrap IntKind.i64 ((↑(W.pick (IntKind.wrap IntKind.i64 (Int.tdiv at_ 9)) 12) : Int) - 2))]) j_ then List.getD [C.int IntKind.i64 (IntKind.wrap IntKind.i64 ((↑(W.pick (IntKind.wrap IntKind.i64 (Int.tdiv at_ 9)) 12) : Int) - 2))] (j_ - W.pick at_ (↑(List.length L) : Int) * 3) C.unk else recGet 3 (fun k_ => [C.int IntKind.i64 (↑(W.ra L k_) : Int), C.int IntKind.i64 (↑(W.rb L k_) : Int), C.sl 262 k_ 0 (W.rn L k_) 4]) j_))))⟩)), (262, (.many (fun j_ => some ⟨true, false, (.ig (W.rn L j_ * 4) W.ck (fun p_ => (Y (W.ra L j_) (p_ + W.rb L j_ * 4))))⟩))), (277, (.one ⟨true, true, (.cells [(.int .i64 (↑rr2)), (.int .i64 (↑cw2)), (.int .i64 ro2), (.int .i64 co2), (.bool hi2), (.sl 261 0 0 (List.length L) 3)])⟩))], 389⟩ :=
  CodeOk.of_runs (fuel := 300) (v := ⟨[4, 5, 7, 14, 16, 17, 18, 40], [1, 2, 3, 4, 5, 85, 86, 101, 261, 262, 277], [], 389⟩) (hs := [(5, ⟨.call [] (.c (.int .i64 (↑(W.pick at_ ↑(List.length L))))) [] [], none⟩), (8, ⟨.call [] (.c (.int .i64 (↑(W.pick how 9)))) [] [], none⟩), (10, ⟨.auto, some (.c (.bool (true)))⟩), (17, ⟨.call [] (.c (.int .i64 (↑(W.pick (IntKind.wrap IntKind.i64 (Int.tdiv at_ 9)) 12)))) [] [], none⟩), (19, ⟨.ask, none⟩), (20, ⟨.auto, some (.c (.ptr 261 0 (W.pick at_ ↑(List.length L) * 3)))⟩), (21, ⟨.ask, none⟩)])
    (cs := [(W.pick at_ (↑(List.length L) : Int) * (3 : Nat) + (1 : Nat) ≤ List.length L * (3 : Nat) ∧ (1 : Nat) = (1 : Nat)),
      ((.c (.ptr 261 0 (addO (W.pick at_ ↑(List.length L) * 3) 0))) : V) = (.c (.ptr 261 0 (W.pick at_ ↑(List.length L) * 3))),
      ((0 : Int) ≤ (↑(W.pick at_ (↑(List.length L) : Int)) : Int) ∧ (↑(W.pick at_ (↑(List.length L) : Int)) : Int) < (↑(List.length L) : Int)),
      Contract Try.prog 14 [(.c (.int .i64 (IntKind.wrap IntKind.i64 (Int.tdiv at_ 9)))), (.c (.int .i64 12))] [] 629 (.c (.int .i64 (↑(W.pick (IntKind.wrap IntKind.i64 (Int.tdiv at_ 9)) 12)))) [] [],
      EB ((↑(W.pick how 9) : Int) == 0) true,
      Contract Try.prog 14 [(.c (.int .i64 how)), (.c (.int .i64 9))] [] 501 (.c (.int .i64 (↑(W.pick how 9)))) [] [],
      Contract Try.prog 14 [(.c (.int .i64 at_)), (.c (.int .i64 (↑(List.length L))))] [] 453 (.c (.int .i64 (↑(W.pick at_ ↑(List.length L))))) [] []])
    mixed (by kernel_rfl) ⟨(by omega), EV.ptr (by simp only [addO_eq, mulE_eq, mulE_one, Int.toNat_natCast, IntKind.wrap_i64, mmin, mmax]; omega), (by omega), Contract0.in1 (pick_ok (IntKind.wrap IntKind.i64 (Int.tdiv at_ 9)) 12 (by exact W.i64r _) (by omega)) [] [none, none] [] [] (by kernel_rfl), .mk (beq_t h0), Contract0.in1 (pick_ok how 9 (by omega) (by omega)) [] [none, none] [] [] (by kernel_rfl), Contract0.in1 (pick_ok at_ ((↑(List.length L) : Int)) (by omega) (by omega)) [] [none, none] [] [] (by kernel_rfl), trivial⟩
theorem LJ_rft (rows cols : Int) (l : List Int) (o n : Nat) (l2 : List Int) (p q : Nat) (how at_ pr pc po pq : Int) (ph : Bool) (A B : Nat → Int) (nn MM : Nat → Nat) (G : Nat → Nat → Int) (N m : Nat) (is_ : Bool) (rr cw : Nat) (X : Nat → Nat → Int) (ro co : Int) (hi : Bool) (rr2 cw2 : Nat) (ro2 co2 : Int) (hi2 : Bool) (L : W.Rn) (Y : Nat → Nat → Int)
    (hr : -9223372036854775808 ≤ rows ∧ rows < 9223372036854775808)
    (hc : -9223372036854775808 ≤ cols ∧ cols < 9223372036854775808)
    (hl : o + n ≤ l.length)
    (hn : n ≤ 1048576)
    (hl2 : p + q ≤ l2.length)
    (hq : q ≤ 1048576)
    (hho : -9223372036854775808 ≤ how ∧ how < 9223372036854775808)
    (hat : -9223372036854775808 ≤ at_ ∧ at_ < 9223372036854775808)
    (h6 : W.pick rows 6 < 6)
    (h9 : W.pick cols 9 < 9)
    (h6b : W.pick (IntKind.wrap IntKind.i64 (rows + Int.tmod how 2)) 6 < 6)
    (hlb : ∀ j, -9223372036854775808 ≤ List.getD l j 0 ∧ List.getD l j 0 < 9223372036854775808)
    (hlb2 : ∀ j, -9223372036854775808 ≤ List.getD l2 j 0 ∧ List.getD l2 j 0 < 9223372036854775808)
    (h9h : W.pick how 9 < 9)
    (hm : m ≤ N)
    (hms : m ≤ 1048576)
    (hnM : ∀ j, nn j ≤ MM j)
    (hMs : ∀ j, MM j ≤ 1048576)
    (hA : ∀ j, -9223372036854775808 ≤ A j ∧ A j < 9223372036854775808)
    (hB : ∀ j, -9223372036854775808 ≤ B j ∧ B j < 9223372036854775808)
    (hL1 : 0 < L.length)
    (hLl : L.length ≤ 4000)
    (hk : W.pick at_ (L.length : Int) < L.length)
    (hn1 : 1 ≤ W.rn L (W.pick at_ (L.length : Int)))
    (h12 : W.pick (IntKind.wrap IntKind.i64 (Int.tdiv at_ 9)) 12 < 12)
    (h14 : W.pick (IntKind.wrap IntKind.i64 (Int.tdiv at_ 9)) 14 < 14)
    (h111 : W.pick (IntKind.wrap IntKind.i64 (Int.tdiv at_ 9)) 1114368 < 1114368)
    (h0 : (¬(↑(W.pick how (9 : Int)) : Int) = (0 : Int)))
    (h1 : ((↑(W.pick how (9 : Int)) : Int) = (1 : Int))) :
    CodeOk Try.prog 137 373 (kAt (kOf Try.prog Try.f4) [true, true, true, false, true]) (LJI l n l2 how at_ pr pc po pq ph A B nn MM G N m is_ rr cw X ro co hi rr2 cw2 ro2 co2 hi2 L Y) .normal ⟨[(4, (.c (.int .i64 how))), (5, (.c (.int .i64 at_))), (7, (.c (.bool is_))), (14, (.c (.ptr 5 0 0))), (16, (.c (.bool (false)))), (17, (.c (.ptr 101 0 0))), (18, (.c (.ptr 277 0 0))), (40, (.c (.bool (true))))], [(1, (.one ⟨false, false, (.ints .i64 l)⟩)), (2, (.one ⟨false, false, (.ints .i64 l2)⟩)), (3, (.one ⟨false, false, (.row (N * 3) 3 (fun j_ => [(.int .i64 (A j_)), (.int .i64 (B j_)), (.sl 4 j_ 0 (nn j_) 4)]))⟩)), (4, (.many (fun j_ => some ⟨false, false, (.ig (MM j_ * 4) W.ck (fun p_ => (G j_ p_)))⟩))), (5, (.one ⟨true, true, (.cells [(.int .i64 pr), (.int .i64 pc), (.int .i64 po), (.int .i64 pq), (.bool ph), (.sl 3 0 0 m 3)])⟩)), (85, (.one ⟨true, false, (.gen rr (fun j_ => (.sl 86 j_ 0 cw 4)))⟩)), (86, (.many (fun j_ => some ⟨true, true, (.ig (W.rl rr (cw * 4) j_) W.ck (fun p_ => (X j_ p_)))⟩))), (101, (.one ⟨true, true, (.cells [(.int .i64 (↑rr)), (.int .i64 (↑cw)), (.sl 85 0 0 rr 1), (.int .i64 ro), (.int .i64 co), (.bool hi)])⟩)), (261, (.one ⟨true, false, (.gen (List.length L * 3) (fun j_ => (renC [] 373 (bif inR (W.pick at_ (↑(List.length L) : Int) * 3 + 1) (List.length [C.int IntKind.i64 (IntKind.wrap IntKind.i64 ((↑(W.pick (IntKind.wrap IntKind.i64 (Int.tdiv at_ 9)) 14) : Int) - 2))]) j_ then List.getD [C.int IntKind.i64 (IntKind.wrap IntKind.i64 ((↑(W.pick (IntKind.wrap IntKind.i64 (Int.tdiv at_ 9)) 14) : Int) - 2))] (j_ - (W.pick at_ (↑(List.length L) : Int) * 3 + 1)) C.unk else recGet 3 (fun k_ => [C.int IntKind.i64 (↑(W.ra L k_) : Int), C.int IntKind.i64 (↑(W.rb L k_) : Int), C.sl 262 k_ 0 (W.rn L k_) 4]) j_))))⟩)), (262, (.many (fun j_ => some ⟨true, false, (.ig (W.rn L j_ * 4) W.ck (fun p_ => (Y (W.ra L j_) (p_ + W.rb L j_ * 4))))⟩))), (277, (.one ⟨true, true, (.cells [(.int .i64 (↑rr2)), (.int .i64 (↑cw2)), (.int .i64 ro2), (.int .i64 co2), (.bool hi2), (.sl 261 0 0 (List.length L) 3)])⟩))], 389⟩ :=
  CodeOk.of_runs (fuel := 300) (v := ⟨[4, 5, 7, 14, 16, 17, 18, 40], [1, 2, 3, 4, 5, 85, 86, 101, 261, 262, 277], [], 389⟩) (hs := [(5, ⟨.call [] (.c (.int .i64 (↑(W.pick at_ ↑(List.length L))))) [] [], none⟩), (8, ⟨.call [] (.c (.int .i64 (↑(W.pick how 9)))) [] [], none⟩), (10, ⟨.auto, some (.c (.bool (false)))⟩), (13, ⟨.auto, some (.c (.bool (true)))⟩), (20, ⟨.call [] (.c (.int .i64 (↑(W.pick (IntKind.wrap IntKind.i64 (Int.tdiv at_ 9)) 14)))) [] [], none⟩), (22, ⟨.ask, none⟩), (23, ⟨.auto, some (.c (.ptr 261 0 (W.pick at_ ↑(List.length L) * 3 + 1)))⟩), (24, ⟨.ask, none⟩)])
    (cs := [(W.pick at_ (↑(List.length L) : Int) * (3 : Nat) + (1 : Nat) + (1 : Nat) ≤ List.length L * (3 : Nat) ∧ (1 : Nat) = (1 : Nat)),
      ((.c (.ptr 261 0 (addO (W.pick at_ ↑(List.length L) * 3) 1))) : V) = (.c (.ptr 261 0 (W.pick at_ ↑(List.length L) * 3 + 1))),
      ((0 : Int) ≤ (↑(W.pick at_ (↑(List.length L) : Int)) : Int) ∧ (↑(W.pick at_ (↑(List.length L) : Int)) : Int) < (↑(List.length L) : Int)),
      Contract Try.prog 14 [(.c (.int .i64 (IntKind.wrap IntKind.i64 (Int.tdiv at_ 9)))), (.c (.int .i64 14))] [] 661 (.c (.int .i64 (↑(W.pick (IntKind.wrap IntKind.i64 (Int.tdiv at_ 9)) 14)))) [] [],
      EB ((↑(W.pick how 9) : Int) == 1) true,
      EB ((↑(W.pick how 9) : Int) == 0) false,
      Contract Try.prog 14 [(.c (.int .i64 how)), (.c (.int .i64 9))] [] 501 (.c (.int .i64 (↑(W.pick how 9)))) [] [],
      Contract Try.prog 14 [(.c (.int .i64 at_)), (.c (.int .i64 (↑(List.length L))))] [] 453 (.c (.int .i64 (↑(W.pick at_ ↑(List.length L))))) [] []])
    mixed (by kernel_rfl) ⟨(by omega), EV.ptr (by simp only [addO_eq, mulE_eq, mulE_one, Int.toNat_natCast, IntKind.wrap_i64, mmin, mmax]), (by omega), Contract0.in1 (pick_ok (IntKind.wrap IntKind.i64 (Int.tdiv at_ 9)) 14 (by exact W.i64r _) (by omega)) [] [none, none] [] [] (by kernel_rfl), .mk (beq_t h1), .mk (beq_f h0), Contract0.in1 (pick_ok how 9 (by omega) (by omega)) [] [none, none] [] [] (by kernel_rfl), Contract0.in1 (pick_ok at_ ((↑(List.length L) : Int)) (by omega) (by omega)) [] [none, none] [] [] (by kernel_rfl), trivial⟩
theorem LJ_rfft (rows cols : Int) (l : List Int) (o n : Nat) (l2 : List Int) (p q : Nat) (how at_ pr pc po pq : Int) (ph : Bool) (A B : Nat → Int) (nn MM : Nat → Nat) (G : Nat → Nat → Int) (N m : Nat) (is_ : Bool) (rr cw : Nat) (X : Nat → Nat → Int) (ro co : Int) (hi : Bool) (rr2 cw2 : Nat) (ro2 co2 : Int) (hi2 : Bool) (L : W.Rn) (Y : Nat → Nat → Int)
    (hr : -9223372036854775808 ≤ rows ∧ rows < 9223372036854775808)
    (hc : -9223372036854775808 ≤ cols ∧ cols < 9223372036854775808)
    (hl : o + n ≤ l.length)
    (hn : n ≤ 1048576)
    (hl2 : p + q ≤ l2.length)
    (hq : q ≤ 1048576)
    (hho : -9223372036854775808 ≤ how ∧ how < 9223372036854775808)
    (hat : -9223372036854775808 ≤ at_ ∧ at_ < 9223372036854775808)
    (h6 : W.pick rows 6 < 6)
    (h9 : W.pick cols 9 < 9)
    (h6b : W.pick (IntKind.wrap IntKind.i64 (rows + Int.tmod how 2)) 6 < 6)
    (hlb : ∀ j, -9223372036854775808 ≤ List.getD l j 0 ∧ List.getD l j 0 < 9223372036854775808)
    (hlb2 : ∀ j, -9223372036854775808 ≤ List.getD l2 j 0 ∧ List.getD l2 j 0 < 9223372036854775808)
    (h9h : W.pick how 9 < 9)
    (hm : m ≤ N)
    (hms : m ≤ 1048576)
    (hnM : ∀ j, nn j ≤ MM j)
    (hMs : ∀ j, MM j ≤ 1048576)
    (hA : ∀ j, -9223372036854775808 ≤ A j ∧ A j < 9223372036854775808)
    (hB : ∀ j, -9223372036854775808 ≤ B j ∧ B j < 9223372036854775808)
    (hL1 : 0 < L.length)
    (hLl : L.length ≤ 4000)
    (hk : W.pick at_ (L.length : Int) < L.length)
    (hn1 : 1 ≤ W.rn L (W.pick at_ (L.length : Int)))
    (h12 : W.pick (IntKind.wrap IntKind.i64 (Int.tdiv at_ 9)) 12 < 12)
    (h14 : W.pick (IntKind.wrap IntKind.i64 (Int.tdiv at_ 9)) 14 < 14)
    (h111 : W.pick (IntKind.wrap IntKind.i64 (Int.tdiv at_ 9)) 1114368 < 1114368)
    (h0 : (¬(↑(W.pick how (9 : Int)) : Int) = (0 : Int)))
    (h1 : (¬(↑(W.pick how (9 : Int)) : Int) = (1 : Int)))
    (h2 : ((↑(W.pick how (9 : Int)) : Int) = (2 : Int))) :
    CodeOk Try.prog 137 373 (kAt (kOf Try.prog Try.f4) [true, true, true, false, true]) (LJI l n l2 how at_ pr pc po pq ph A B nn MM G N m is_ rr cw X ro co hi rr2 cw2 ro2 co2 hi2 L Y) .normal ⟨[(4, (.c (.int .i64 how))), (5, (.c (.int .i64 at_))), (7, (.c (.bool is_))), (14, (.c (.ptr 5 0 0))), (16, (.c (.bool (false)))), (17, (.c (.ptr 101 0 0))), (18, (.c (.ptr 277 0 0))), (40, (.c (.bool (true))))], [(1, (.one ⟨false, false, (.ints .i64 l)⟩)), (2, (.one ⟨false, false, (.ints .i64 l2)⟩)), (3, (.one ⟨false, false, (.row (N * 3) 3 (fun j_ => [(.int .i64 (A j_)), (.int .i64 (B j_)), (.sl 4 j_ 0 (nn j_) 4)]))⟩)), (4, (.many (fun j_ => some ⟨false, false, (.ig (MM j_ * 4) W.ck (fun p_ => (G j_ p_)))⟩))), (5, (.one ⟨true, true, (.cells [(.int .i64 pr), (.int .i64 pc), (.int .i64 po), (.int .i64 pq), (.bool ph), (.sl 3 0 0 m 3)])⟩)), (85, (.one ⟨true, false, (.gen rr (fun j_ => (.sl 86 j_ 0 cw 4)))⟩)), (86, (.many (fun j_ => some ⟨true, true, (.ig (W.rl rr (cw * 4) j_) W.ck (fun p_ => (X j_ p_)))⟩))), (101, (.one ⟨true, true, (.cells [(.int .i64 (↑rr)), (.int .i64 (↑cw)), (.sl 85 0 0 rr 1), (.int .i64 ro), (.int .i64 co), (.bool hi)])⟩)), (261, (.one ⟨true, false, (.gen (List.length L * 3) (fun j_ => (renC [] 373 (bif inR (W.pick at_ (↑(List.length L) : Int) * 3 + 2) 1 j_ then List.getD [C.nils] (j_ - (W.pick at_ (↑(List.length L) : Int) * 3 + 2)) C.unk else recGet 3 (fun k_ => [C.int IntKind.i64 (↑(W.ra L k_) : Int), C.int IntKind.i64 (↑(W.rb L k_) : Int), C.sl 262 k_ 0 (W.rn L k_) 4]) j_))))⟩)), (262, (.many (fun j_ => some ⟨true, false, (.ig (W.rn L j_ * 4) W.ck (fun p_ => (Y (W.ra L j_) (p_ + W.rb L j_ * 4))))⟩))), (277, (.one ⟨true, true, (.cells [(.int .i64 (↑rr2)), (.int .i64 (↑cw2)), (.int .i64 ro2), (.int .i64 co2), (.bool hi2), (.sl 261 0 0 (List.length L) 3)])⟩))], 389⟩ :=
  CodeOk.of_runs (fuel := 300) (v := ⟨[4, 5, 7, 14, 16, 17, 18, 40], [1, 2, 3, 4, 5, 85, 86, 101, 261, 262, 277], [], 389⟩) (hs := [(5, ⟨.call [] (.c (.int .i64 (↑(W.pick at_ ↑(List.length L))))) [] [], none⟩), (8, ⟨.call [] (.c (.int .i64 (↑(W.pick how 9)))) [] [], none⟩), (10, ⟨.auto, some (.c (.bool (false)))⟩), (13, ⟨.auto, some (.c (.bool (false)))⟩), (16, ⟨.auto, some (.c (.bool (true)))⟩), (21, ⟨.ask, none⟩), (22, ⟨.auto, some (.c (.ptr 261 0 (W.pick at_ ↑(List.length L) * 3 + 2)))⟩), (23, ⟨.ask, none⟩)])
    (cs := [(W.pick at_ (↑(List.length L) : Int) * (3 : Nat) + (2 : Nat) + (1 : Nat) ≤ List.length L * (3 : Nat) ∧ (1 : Nat) = (1 : Nat)),
      ((.c (.ptr 261 0 (addO (W.pick at_ ↑(List.length L) * 3) 2))) : V) = (.c (.ptr 261 0 (W.pick at_ ↑(List.length L) * 3 + 2))),
      ((0 : Int) ≤ (↑(W.pick at_ (↑(List.length L) : Int)) : Int) ∧ (↑(W.pick at_ (↑(List.length L) : Int)) : Int) < (↑(List.length L) : Int)),
      EB ((↑(W.pick how 9) : Int) == 2) true,
      EB ((↑(W.pick how 9) : Int) == 1) false,
      EB ((↑(W.pick how 9) : Int) == 0) false,
      Contract Try.prog 14 [(.c (.int .i64 how)), (.c (.int .i64 9))] [] 501 (.c (.int .i64 (↑(W.pick how 9)))) [] [],
      Contract Try.prog 14 [(.c (.int .i64 at_)), (.c (.int .i64 (↑(List.length L))))] [] 453 (.c (.int .i64 (↑(W.pick at_ ↑(List.length L))))) [] []])
    mixed (by kernel_rfl) ⟨(by omega), EV.ptr (by simp only [addO_eq, mulE_eq, mulE_one, Int.toNat_natCast, IntKind.wrap_i64, mmin, mmax]), (by omega), .mk (beq_t h2), .mk (beq_f h1), .mk (beq_f h0), Contract0.in1 (pick_ok how 9 (by omega) (by omega)) [] [none, none] [] [] (by kernel_rfl), Contract0.in1 (pick_ok at_ ((↑(List.length L) : Int)) (by omega) (by omega)) [] [none, none] [] [] (by kernel_rfl), trivial⟩
theorem LJ_rffft (rows cols : Int) (l : List Int) (o n : Nat) (l2 : List Int) (p q : Nat) (how at_ pr pc po pq : Int) (ph : Bool) (A B : Nat → Int) (nn MM : Nat → Nat) (G : Nat → Nat → Int) (N m : Nat) (is_ : Bool) (rr cw : Nat) (X : Nat → Nat → Int) (ro co : Int) (hi : Bool) (rr2 cw2 : Nat) (ro2 co2 : Int) (hi2 : Bool) (L : W.Rn) (Y : Nat → Nat → Int)
    (hr : -9223372036854775808 ≤ rows ∧ rows < 9223372036854775808)
    (hc : -9223372036854775808 ≤ cols ∧ cols < 9223372036854775808)
    (hl : o + n ≤ l.length)
    (hn : n ≤ 1048576)
    (hl2 : p + q ≤ l2.length)
    (hq : q ≤ 1048576)
    (hho : -9223372036854775808 ≤ how ∧ how < 9223372036854775808)
    (hat : -9223372036854775808 ≤ at_ ∧ at_ < 9223372036854775808)
    (h6 : W.pick rows 6 < 6)
    (h9 : W.pick cols 9 < 9)
    (h6b : W.pick (IntKind.wrap IntKind.i64 (rows + Int.tmod how 2)) 6 < 6)
    (hlb : ∀ j, -9223372036854775808 ≤ List.getD l j 0 ∧ List.getD l j 0 < 9223372036854775808)
    (hlb2 : ∀ j, -9223372036854775808 ≤ List.getD l2 j 0 ∧ List.getD l2 j 0 < 9223372036854775808)
    (h9h : W.pick how 9 < 9)
    (hm : m ≤ N)
    (hms : m ≤ 1048576)
    (hnM : ∀ j, nn j ≤ MM j)
    (hMs : ∀ j, MM j ≤ 1048576)
    (hA : ∀ j, -9223372036854775808 ≤ A j ∧ A j < 9223372036854775808)
    (hB : ∀ j, -9223372036854775808 ≤ B j ∧ B j < 9223372036854775808)
    (hL1 : 0 < L.length)
    (hLl : L.length ≤ 4000)
    (hk : W.pick at_ (L.length : Int) < L.length)
    (hn1 : 1 ≤ W.rn L (W.pick at_ (L.length : Int)))
    (h12 : W.pick (IntKind.wrap IntKind.i64 (Int.tdiv at_ 9)) 12 < 12)
    (h14 : W.pick (IntKind.wrap IntKind.i64 (Int.tdiv at_ 9)) 14 < 14)
    (h111 : W.pick (IntKind.wrap IntKind.i64 (Int.tdiv at_ 9)) 1114368 < 1114368)
    (h0 : (¬(↑(W.pick how (9 : Int)) : Int) = (0 : Int)))
    (h1 : (¬(↑(W.pick how (9 : Int)) : Int) = (1 : Int)))
    (h2 : (¬(↑(W.pick how (9 : Int)) : Int) = (2 : Int)))
    (h3 : ((↑(W.pick how (9 : Int)) : Int) = (3 : Int))) :
    CodeOk Try.prog 137 373 (kAt (kOf Try.prog Try.f4) [true, true, true, false, true]) (LJI l n l2 how at_ pr pc po pq ph A B nn MM G N m is_ rr cw X ro co hi rr2 cw2 ro2 co2 hi2 L Y) .normal ⟨[(4, (.c (.int .i64 how))), (5, (.c (.int .i64 at_))), (7, (.c (.bool is_))), (14, (.c (.ptr 5 0 0))), (16, (.c (.bool (false)))), (17, (.c (.ptr 101 0 0))), (18, (.c (.ptr 277 0 0))), (40, (.c (.bool (true))))], [(1, (.one ⟨false, false, (.ints .i64 l)⟩)), (2, (.one ⟨false, false, (.ints .i64 l2)⟩)), (3, (.one ⟨false, false, (.row (N * 3) 3 (fun j_ => [(.int .i64 (A j_)), (.int .i64 (B j_)), (.sl 4 j_ 0 (nn j_) 4)]))⟩)), (4, (.many (fun j_ => some ⟨false, false, (.ig (MM j_ * 4) W.ck (fun p_ => (G j_ p_)))⟩))), (5, (.one ⟨true, true, (.cells [(.int .i64 pr), (.int .i64 pc), (.int .i64 po), (.int .i64 pq), (.bool ph), (.sl 3 0 0 m 3)])⟩)), (85, (.one ⟨true, false, (.gen rr (fun j_ => (.sl 86 j_ 0 cw 4)))⟩)), (86, (.many (fun j_ => some ⟨true, true, (.ig (W.rl rr (cw * 4) j_) W.ck (fun p_ => (X j_ p_)))⟩))), (101, (.one ⟨true, true, (.cells [(.int .i64 (↑rr)), (.int .i64 (↑cw)), (.sl 85 0 0 rr 1), (.int .i64 ro), (.int .i64 co), (.bool hi)])⟩)), (261, (.one ⟨true, false, (.row (List.length L * 3) 3 (fun j_ => [(.int .i64 (↑(W.ra L j_))), (.int .i64 (↑(W.rb L j_))), (.sl 262 j_ 0 (W.rn L j_) 4)]))⟩)), (262, (.many (renF [] 373 (updF (fun j_ => some ⟨true, false, (.ig (W.rn L j_ * 4) W.ck (fun p_ => (Y (W.ra L j_) (p_ + W.rb L j_ * 4))))⟩) (W.pick at_ ↑(List.length L)) ⟨true, false, (.ig (W.rn L (W.pick at_ ↑(List.length L)) * 4) (fun p_ => (bif inR 0 (List.length [(IntKind.i32, IntKind.wrap IntKind.i32 (↑(W.pick (IntKind.wrap IntKind.i64 (Int.tdiv at_ 9)) 1114368) : Int))]) p_ then igK [(IntKind.i32, IntKind.wrap IntKind.i32 (↑(W.pick (IntKind.wrap IntKind.i64 (Int.tdiv at_ 9)) 1114368) : Int))] (p_ - 0) else W.ck p_)) (fun p_ => (bif inR 0 (List.length [(IntKind.i32, IntKind.wrap IntKind.i32 (↑(W.pick (IntKind.wrap IntKind.i64 (Int.tdiv at_ 9)) 1114368) : Int))]) p_ then igG [(IntKind.i32, IntKind.wrap IntKind.i32 (↑(W.pick (IntKind.wrap IntKind.i64 (Int.tdiv at_ 9)) 1114368) : Int))] (p_ - 0) else Y (W.ra L (W.pick at_ (↑(List.length L) : Int))) (p_ + W.rb L (W.pick at_ (↑(List.length L) : Int)) * 4))))⟩)))), (277, (.one ⟨true, true, (.cells [(.int .i64 (↑rr2)), (.int .i64 (↑cw2)), (.int .i64 ro2), (.int .i64 co2), (.bool hi2), (.sl 261 0 0 (List.length L) 3)])⟩))], 389⟩ :=
  CodeOk.of_runs (fuel := 300) (v := ⟨[4, 5, 7, 14, 16, 17, 18, 40], [1, 2, 3, 4, 5, 85, 86, 101, 261, 262, 277], [], 389⟩) (hs := [(5, ⟨.call [] (.c (.int .i64 (↑(W.pick at_ ↑(List.length L))))) [] [], none⟩), (8, ⟨.call [] (.c (.int .i64 (↑(W.pick how 9)))) [] [], none⟩), (10, ⟨.auto, some (.c (.bool (false)))⟩), (13, ⟨.auto, some (.c (.bool (false)))⟩), (16, ⟨.auto, some (.c (.bool (false)))⟩), (19, ⟨.auto, some (.c (.bool (true)))⟩), (24, ⟨.ask, none⟩), (25, ⟨.auto, some (.c (.ptr 261 0 (W.pick at_ ↑(List.length L) * 3 + 2)))⟩), (26, ⟨.ask, some (.c (.sl 262 (W.pick at_ ↑(List.length L)) 0 (W.rn L (W.pick at_ ↑(List.length L))) 4))⟩), (29, ⟨.call [] (.c (.int .i64 (↑(W.pick (IntKind.wrap IntKind.i64 (Int.tdiv at_ 9)) 1114368)))) [] [], none⟩), (31, ⟨.ask, none⟩), (33, ⟨.ask, none⟩)])
    (cs := [((1 : Nat) ≤ W.rn L (W.pick at_ (↑(List.length L) : Int)) * (4 : Nat) ∧ (1 : Nat) = (1 : Nat)),
      ((0 : Int) ≤ (0 : Int) ∧ (0 : Int) < (↑(W.rn L (W.pick at_ (↑(List.length L) : Int))) : Int)),
      Contract Try.prog 14 [(.c (.int .i64 (IntKind.wrap IntKind.i64 (Int.tdiv at_ 9)))), (.c (.int .i64 1114368))] [] 773 (.c (.int .i64 (↑(W.pick (IntKind.wrap IntKind.i64 (Int.tdiv at_ 9)) 1114368)))) [] [],
      ((.c (recGet 3 (fun j_ => [(.int .i64 (↑(W.ra L j_))), (.int .i64 (↑(W.rb L j_))), (.sl 262 j_ 0 (W.rn L j_) 4)]) (W.pick at_ (↑(List.length L) : Int) * 3 + 2))) : V) = (.c (.sl 262 (W.pick at_ ↑(List.length L)) 0 (W.rn L (W.pick at_ ↑(List.length L))) 4)),
      (W.pick at_ (↑(List.length L) : Int) * (3 : Nat) + (2 : Nat) + (1 : Nat) ≤ List.length L * (3 : Nat)),
      ((.c (.ptr 261 0 (addO (W.pick at_ ↑(List.length L) * 3) 2))) : V) = (.c (.ptr 261 0 (W.pick at_ ↑(List.length L) * 3 + 2))),
      ((0 : Int) ≤ (↑(W.pick at_ (↑(List.length L) : Int)) : Int) ∧ (↑(W.pick at_ (↑(List.length L) : Int)) : Int) < (↑(List.length L) : Int)),
      EB ((↑(W.pick how 9) : Int) == 3) true,
      EB ((↑(W.pick how 9) : Int) == 2) false,
      EB ((↑(W.pick how 9) : Int) == 1) false,
      EB ((↑(W.pick how 9) : Int) == 0) false,
      Contract Try.prog 14 [(.c (.int .i64 how)), (.c (.int .i64 9))] [] 501 (.c (.int .i64 (↑(W.pick how 9)))) [] [],
      Contract Try.prog 14 [(.c (.int .i64 at_)), (.c (.int .i64 (↑(List.length L))))] [] 453 (.c (.int .i64 (↑(W.pick at_ ↑(List.length L))))) [] []])
    mixed (by kernel_rfl) ⟨(by omega), (by omega), Contract0.in1 (pick_ok (IntKind.wrap IntKind.i64 (Int.tdiv at_ 9)) 1114368 (by exact W.i64r _) (by omega)) [] [none, none] [] [] (by kernel_rfl), EV.rec1 (i := (W.pick at_ (↑(List.length L) : Int))) (d := 2) (by rfl) (by decide) rfl, (by omega), EV.ptr (by simp only [addO_eq, mulE_eq, mulE_one, Int.toNat_natCast, IntKind.wrap_i64, mmin, mmax]), (by omega), .mk (beq_t h3), .mk (beq_f h2), .mk (beq_f h1), .mk (beq_f h0), Contract0.in1 (pick_ok how 9 (by omega) (by omega)) [] [none, none] [] [] (by kernel_rfl), Contract0.in1 (pick_ok at_ ((↑(List.length L) : Int)) (by omega) (by omega)) [] [none, none] [] [] (by kernel_rfl), trivial⟩
theorem LJ_rfffft (rows cols : Int) (l : List Int) (o n : Nat) (l2 : List Int) (p q : Nat) (how at_ pr pc po pq : Int) (ph : Bool) (A B : Nat → Int) (nn MM : Nat → Nat) (G : Nat → Nat → Int) (N m : Nat) (is_ : Bool) (rr cw : Nat) (X : Nat → Nat → Int) (ro co : Int) (hi : Bool) (rr2 cw2 : Nat) (ro2 co2 : Int) (hi2 : Bool) (L : W.Rn) (Y : Nat → Nat → Int)
    (hr : -9223372036854775808 ≤ rows ∧ rows < 9223372036854775808)
    (hc : -9223372036854775808 ≤ cols ∧ cols < 9223372036854775808)
    (hl : o + n ≤ l.length)
    (hn : n ≤ 1048576)
    (hl2 : p + q ≤ l2.length)
    (hq : q ≤ 1048576)
    (hho : -9223372036854775808 ≤ how ∧ how < 9223372036854775808)
    (hat : -9223372036854775808 ≤ at_ ∧ at_ < 9223372036854775808)
    (h6 : W.pick rows 6 < 6)
    (h9 : W.pick cols 9 < 9)
    (h6b : W.pick (IntKind.wrap IntKind.i64 (rows + Int.tmod how 2)) 6 < 6)
    (hlb : ∀ j, -9223372036854775808 ≤ List.getD l j 0 ∧ List.getD l j 0 < 9223372036854775808)
    (hlb2 : ∀ j, -9223372036854775808 ≤ List.getD l2 j 0 ∧ List.getD l2 j 0 < 9223372036854775808)
    (h9h : W.pick how 9 < 9)
    (hm : m ≤ N)
    (hms : m ≤ 1048576)
    (hnM : ∀ j, nn j ≤ MM j)
    (hMs : ∀ j, MM j ≤ 1048576)
    (hA : ∀ j, -9223372036854775808 ≤ A j ∧ A j < 9223372036854775808)
    (hB : ∀ j, -9223372036854775808 ≤ B j ∧ B j < 9223372036854775808)
    (hL1 : 0 < L.length)
    (hLl : L.length ≤ 4000)
    (hk : W.pick at_ (L.length : Int) < L.length)
    (hn1 : 1 ≤ W.rn L (W.pick at_ (L.length : Int)))
    (h12 : W.pick (IntKind.wrap IntKind.i64 (Int.tdiv at_ 9)) 12 < 12)
    (h14 : W.pick (IntKind.wrap IntKind.i64 (Int.tdiv at_ 9)) 14 < 14)
    (h111 : W.pick (IntKind.wrap IntKind.i64 (Int.tdiv at_ 9)) 1114368 < 1114368)
    (h0 : (¬(↑(W.pick how (9 : Int)) : Int) = (0 : Int)))
    (h1 : (¬(↑(W.pick how (9 : Int)) : Int) = (1 : Int)))
    (h2 : (¬(↑(W.pick how (9 : Int)) : Int) = (2 : Int)))
    (h3 : (¬(↑(W.pick how (9 : Int)) : Int) = (3 : Int)))
    (h4 : ((↑(W.pick how (9 : Int)) : Int) = (4 : Int))) :
    CodeOk Try.prog 137 373 (kAt (kOf Try.prog Try.f4) [true, true, true, false, true]) (LJI l n l2 how at_ pr pc po pq ph A B nn MM G N m is_ rr cw X ro co hi rr2 cw2 ro2 co2 hi2 L Y) .normal (LJI l n l2 how at_ pr pc po pq ph A B nn MM G N m is_ rr cw (fun j_ p_ => X j_ p_) ro co hi rr2 cw2 (IntKind.wrap IntKind.i64 ((↑(W.pick (IntKind.wrap IntKind.i64 (Int.tdiv at_ 9)) 12) : Int) - 2)) co2 hi2 L Y) :=
  CodeOk.of_runs (fuel := 300) (v := ⟨[4, 5, 7, 14, 16, 17, 18, 40], [1, 2, 3, 4, 5, 85, 86, 101, 261, 262, 277], [], 389⟩) (hs := [(5, ⟨.call [] (.c (.int .i64 (↑(W.pick at_ ↑(List.length L))))) [] [], none⟩), (8, ⟨.call [] (.c (.int .i64 (↑(W.pick how 9)))) [] [], none⟩), (10, ⟨.auto, some (.c (.bool (false)))⟩), (13, ⟨.auto, some (.c (.bool (false)))⟩), (16, ⟨.auto, some (.c (.bool (false)))⟩), (19, ⟨.auto, some (.c (.bool (false)))⟩), (22, ⟨.auto, some (.c (.bool (true)))⟩), (26, ⟨.call [] (.c (.int .i64 (↑(W.pick (IntKind.wrap IntKind.i64 (Int.tdiv at_ 9)) 12)))) [] [], none⟩)])
    (cs := [Contract Try.prog 14 [(.c (.int .i64 (IntKind.wrap IntKind.i64 (Int.tdiv at_ 9)))), (.c (.int .i64 12))] [] 709 (.c (.int .i64 (↑(W.pick (IntKind.wrap IntKind.i64 (Int.tdiv at_ 9)) 12)))) [] [],
      EB ((↑(W.pick how 9) : Int) == 4) true,
      EB ((↑(W.pick how 9) : Int) == 3) false,
      EB ((↑(W.pick how 9) : Int) == 2) false,
      EB ((↑(W.pick how 9) : Int) == 1) false,
      EB ((↑(W.pick how 9) : Int) == 0) false,
      Contract Try.prog 14 [(.c (.int .i64 how)), (.c (.int .i64 9))] [] 501 (.c (.int .i64 (↑(W.pick how 9)))) [] [],
      Contract Try.prog 14 [(.c (.int .i64 at_)), (.c (.int .i64 (↑(List.length L))))] [] 453 (.c (.int .i64 (↑(W.pick at_ ↑(List.length L))))) [] []])
    mixed (by kernel_rfl) ⟨Contract0.in1 (pick_ok (IntKind.wrap IntKind.i64 (Int.tdiv at_ 9)) 12 (by exact W.i64r _) (by omega)) [] [none, none] [] [] (by kernel_rfl), .mk (beq_t h4), .mk (beq_f h3), .mk (beq_f h2), .mk (beq_f h1), .mk (beq_f h0), Contract0.in1 (pick_ok how 9 (by omega) (by omega)) [] [none, none] [] [] (by kernel_rfl), Contract0.in1 (pick_ok at_ ((↑(List.length L) : Int)) (by omega) (by omega)) [] [none, none] [] [] (by kernel_rfl), trivial⟩
theorem LJ_rffffft (rows cols : Int) (l : List Int) (o n : Nat) (l2 : List Int) (p q : Nat) (how at_ pr pc po pq : Int) (ph : Bool) (A B : Nat → Int) (nn MM : Nat → Nat) (G : Nat → Nat → Int) (N m : Nat) (is_ : Bool) (rr cw : Nat) (X : Nat → Nat → Int) (ro co : Int) (hi : Bool) (rr2 cw2 : Nat) (ro2 co2 : Int) (hi2 : Bool) (L : W.Rn) (Y : Nat → Nat → Int)
    (hr : -9223372036854775808 ≤ rows ∧ rows < 9223372036854775808)
    (hc : -9223372036854775808 ≤ cols ∧ cols < 9223372036854775808)
    (hl : o + n ≤ l.length)
    (hn : n ≤ 1048576)
    (hl2 : p + q ≤ l2.length)
    (hq : q ≤ 1048576)
    (hho : -9223372036854775808 ≤ how ∧ how < 9223372036854775808)
    (hat : -9223372036854775808 ≤ at_ ∧ at_ < 9223372036854775808)
    (h6 : W.pick rows 6 < 6)
    (h9 : W.pick cols 9 < 9)
    (h6b : W.pick (IntKind.wrap IntKind.i64 (rows + Int.tmod how 2)) 6 < 6)
    (hlb : ∀ j, -9223372036854775808 ≤ List.getD l j 0 ∧ List.getD l j 0 < 9223372036854775808)
    (hlb2 : ∀ j, -9223372036854775808 ≤ List.getD l2 j 0 ∧ List.getD l2 j 0 < 9223372036854775808)
    (h9h : W.pick how 9 < 9)
    (hm : m ≤ N)
    (hms : m ≤ 1048576)
    (hnM : ∀ j, nn j ≤ MM j)
    (hMs : ∀ j, MM j ≤ 1048576)
    (hA : ∀ j, -9223372036854775808 ≤ A j ∧ A j < 9223372036854775808)
    (hB : ∀ j, -9223372036854775808 ≤ B j ∧ B j < 9223372036854775808)
    (hL1 : 0 < L.length)
    (hLl : L.length ≤ 4000)
    (hk : W.pick at_ (L.length : Int) < L.length)
    (hn1 : 1 ≤ W.rn L (W.pick at_ (L.length : Int)))
    (h12 : W.pick (IntKind.wrap IntKind.i64 (Int.tdiv at_ 9)) 12 < 12)
    (h14 : W.pick (IntKind.wrap IntKind.i64 (Int.tdiv at_ 9)) 14 < 14)
    (h111 : W.pick (IntKind.wrap IntKind.i64 (Int.tdiv at_ 9)) 1114368 < 1114368)
    (h0 : (¬(↑(W.pick how (9 : Int)) : Int) = (0 : Int)))
    (h1 : (¬(↑(W.pick how (9 : Int)) : Int) = (1 : Int)))
    (h2 : (¬(↑(W.pick how (9 : Int)) : Int) = (2 : Int)))
    (h3 : (¬(↑(W.pick how (9 : Int)) : Int) = (3 : Int)))
    (h4 : (¬(↑(W.pick how (9 : Int)) : Int) = (4 : Int)))
    (h5 : ((↑(W.pick how (9 : Int)) : Int) = (5 : Int))) :
    CodeOk Try.prog 137 373 (kAt (kOf Try.prog Try.f4) [true, true, true, false, true]) (LJI l n l2 how at_ pr pc po pq ph A B nn MM G N m is_ rr cw X ro co hi rr2 cw2 ro2 co2 hi2 L Y) .normal ⟨[(4, (.c (.int .i64 how))), (5, (.c (.int .i64 at_))), (7, (.c (.bool is_))), (14, (.c (.ptr 5 0 0))), (16, (.c (.bool (false)))), (17, (.c (.ptr 101 0 0))), (18, (.c (.ptr 277 0 0))), (40, (.c (.bool (true))))], [(1, (.one ⟨false, false, (.ints .i64 l)⟩)), (2, (.one ⟨false, false, (.ints .i64 l2)⟩)), (3, (.one ⟨false, false, (.row (N * 3) 3 (fun j_ => [(.int .i64 (A j_)), (.int .i64 (B j_)), (.sl 4 j_ 0 (nn j_) 4)]))⟩)), (4, (.many (fun j_ => some ⟨false, false, (.ig (MM j_ * 4) W.ck (fun p_ => (G j_ p_)))⟩))), (5, (.one ⟨true, true, (.cells [(.int .i64 pr), (.int .i64 pc), (.int .i64 po), (.int .i64 pq), (.bool ph), (.sl 3 0 0 m 3)])⟩)), (85, (.one ⟨true, false, (.gen rr (fun j_ => (.sl 86 j_ 0 cw 4)))⟩)), (86, (.many (fun j_ => some ⟨true, true, (.ig (W.rl rr (cw * 4) j_) W.ck (fun p_ => (X j_ p_)))⟩))), (101, (.one ⟨true, true, (.cells [(.int .i64 (↑rr)), (.int .i64 (↑cw)), (.sl 85 0 0 rr 1), (.int .i64 ro), (.int .i64 co), (.bool hi)])⟩)), (261, (.one ⟨true, false, (.row (List.length L * 3) 3 (fun j_ => [(.int .i64 (↑(W.ra L j_))), (.int .i64 (↑(W.rb L j_))), (.sl 262 j_ 0 (W.rn L j_) 4)]))⟩)), (262, (.many (renF [] 373 (updF (fun j_ => some ⟨true, false, (.ig (W.rn L j_ * 4) W.ck (fun p_ => (Y (W.ra L j_) (p_ + W.rb L j_ * 4))))⟩) (W.pick at_ ↑(List.length L)) ⟨true, false, (.ig (W.rn L (W.pick at_ ↑(List.length L)) * 4) (fun p_ => (bif inR 3 (List.length [(IntKind.i64, IntKind.wrap IntKind.i64 ((↑(W.pick (IntKind.wrap IntKind.i64 (Int.tdiv at_ 9)) 12) : Int) - 2))]) p_ then igK [(IntKind.i64, IntKind.wrap IntKind.i64 ((↑(W.pick (IntKind.wrap IntKind.i64 (Int.tdiv at_ 9)) 12) : Int) - 2))] (p_ - 3) else W.ck p_)) (fun p_ => (bif inR 3 (List.length [(IntKind.i64, IntKind.wrap IntKind.i64 ((↑(W.pick (IntKind.wrap IntKind.i64 (Int.tdiv at_ 9)) 12) : Int) - 2))]) p_ then igG [(IntKind.i64, IntKind.wrap IntKind.i64 ((↑(W.pick (IntKind.wrap IntKind.i64 (Int.tdiv at_ 9)) 12) : Int) - 2))] (p_ - 3) else Y (W.ra L (W.pick at_ (↑(List.length L) : Int))) (p_ + W.rb L (W.pick at_ (↑(List.length L) : Int)) * 4))))⟩)))), (277, (.one ⟨true, true, (.cells [(.int .i64 (↑rr2)), (.int .i64 (↑cw2)), (.int .i64 ro2), (.int .i64 co2), (.bool hi2), (.sl 261 0 0 (List.length L) 3)])⟩))], 389⟩ :=
  CodeOk.of_runs (fuel := 300) (v := ⟨[4, 5, 7, 14, 16, 17, 18, 40], [1, 2, 3, 4, 5, 85, 86, 101, 261, 262, 277], [], 389⟩) (hs := [(5, ⟨.call [] (.c (.int .i64 (↑(W.pick at_ ↑(List.length L))))) [] [], none⟩), (8, ⟨.call [] (.c (.int .i64 (↑(W.pick how 9)))) [] [], none⟩), (10, ⟨.auto, some (.c (.bool (false)))⟩), (13, ⟨.auto, some (.c (.bool (false)))⟩), (16, ⟨.auto, some (.c (.bool (false)))⟩), (19, ⟨.auto, some (.c (.bool (false)))⟩), (22, ⟨.auto, some (.c (.bool (false)))⟩), (25, ⟨.auto, some (.c (.bool (true)))⟩), (30, ⟨.ask, none⟩), (31, ⟨.auto, some (.c (.ptr 261 0 (W.pick at_ ↑(List.length L) * 3 + 2)))⟩), (32, ⟨.ask, some (.c (.sl 262 (W.pick at_ ↑(List.length L)) 0 (W.rn L (W.pick at_ ↑(List.length L))) 4))⟩), (35, ⟨.call [] (.c (.int .i64 (↑(W.pick (IntKind.wrap IntKind.i64 (Int.tdiv at_ 9)) 12)))) [] [], none⟩), (37, ⟨.ask, none⟩), (39, ⟨.ask, none⟩)])
    (cs := [((4 : Nat) ≤ W.rn L (W.pick at_ (↑(List.length L) : Int)) * (4 : Nat) ∧ (1 : Nat) = (1 : Nat)),
      ((0 : Int) ≤ (0 : Int) ∧ (0 : Int) < (↑(W.rn L (W.pick at_ (↑(List.length L) : Int))) : Int)),
      Contract Try.prog 14 [(.c (.int .i64 (IntKind.wrap IntKind.i64 (Int.tdiv at_ 9)))), (.c (.int .i64 12))] [] 837 (.c (.int .i64 (↑(W.pick (IntKind.wrap IntKind.i64 (Int.tdiv at_ 9)) 12)))) [] [],
      ((.c (recGet 3 (fun j_ => [(.int .i64 (↑(W.ra L j_))), (.int .i64 (↑(W.rb L j_))), (.sl 262 j_ 0 (W.rn L j_) 4)]) (W.pick at_ (↑(List.length L) : Int) * 3 + 2))) : V) = (.c (.sl 262 (W.pick at_ ↑(List.length L)) 0 (W.rn L (W.pick at_ ↑(List.length L))) 4)),
      (W.pick at_ (↑(List.length L) : Int) * (3 : Nat) + (2 : Nat) + (1 : Nat) ≤ List.length L * (3 : Nat)),
      ((.c (.ptr 261 0 (addO (W.pick at_ ↑(List.length L) * 3) 2))) : V) = (.c (.ptr 261 0 (W.pick at_ ↑(List.length L) * 3 + 2))),
      ((0 : Int) ≤ (↑(W.pick at_ (↑(List.length L) : Int)) : Int) ∧ (↑(W.pick at_ (↑(List.length L) : Int)) : Int) < (↑(List.length L) : Int)),
      EB ((↑(W.pick how 9) : Int) == 5) true,
      EB ((↑(W.pick how 9) : Int) == 4) false,
      EB ((↑(W.pick how 9) : Int) == 3) false,
      EB ((↑(W.pick how 9) : Int) == 2) false,
      EB ((↑(W.pick how 9) : Int) == 1) false,
      EB ((↑(W.pick how 9) : Int) == 0) false,
      Contract Try.prog 14 [(.c (.int .i64 how)), (.c (.int .i64 9))] [] 501 (.c (.int .i64 (↑(W.pick how 9)))) [] [],
      Contract Try.prog 14 [(.c (.int .i64 at_)), (.c (.int .i64 (↑(List.length L))))] [] 453 (.c (.int .i64 (↑(W.pick at_ ↑(List.length L))))) [] []])
    mixed (by kernel_rfl) ⟨(by omega), (by omega), Contract0.in1 (pick_ok (IntKind.wrap IntKind.i64 (Int.tdiv at_ 9)) 12 (by exact W.i64r _) (by omega)) [] [none, none] [] [] (by kernel_rfl), EV.rec1 (i := (W.pick at_ (↑(List.length L) : Int))) (d := 2) (by rfl) (by decide) rfl, (by omega), EV.ptr (by simp only [addO_eq, mulE_eq, mulE_one, Int.toNat_natCast, IntKind.wrap_i64, mmin, mmax]), (by omega), .mk (beq_t h5), .mk (beq_f h4), .mk (beq_f h3), .mk (beq_f h2), .mk (beq_f h1), .mk (beq_f h0), Contract0.in1 (pick_ok how 9 (by omega) (by omega)) [] [none, none] [] [] (by kernel_rfl), Contract0.in1 (pick_ok at_ ((↑(List.length L) : Int)) (by omega) (by omega)) [] [none, none] [] [] (by kernel_rfl), trivial⟩
theorem LJ_rffffff (rows cols : Int) (l : List Int) (o n : Nat) (l2 : List Int) (p q : Nat) (how at_ pr pc po pq : Int) (ph : Bool) (A B : Nat → Int) (nn MM : Nat → Nat) (G : Nat → Nat → Int) (N m : Nat) (is_ : Bool) (rr cw : Nat) (X : Nat → Nat → Int) (ro co : Int) (hi : Bool) (rr2 cw2 : Nat) (ro2 co2 : Int) (hi2 : Bool) (L : W.Rn) (Y : Nat → Nat → Int)
    (hr : -9223372036854775808 ≤ rows ∧ rows < 9223372036854775808)
    (hc : -9223372036854775808 ≤ cols ∧ cols < 9223372036854775808)
    (hl : o + n ≤ l.length)
    (hn : n ≤ 1048576)
    (hl2 : p + q ≤ l2.length)
    (hq : q ≤ 1048576)
    (hho : -9223372036854775808 ≤ how ∧ how < 9223372036854775808)
    (hat : -9223372036854775808 ≤ at_ ∧ at_ < 9223372036854775808)
    (h6 : W.pick rows 6 < 6)
    (h9 : W.pick cols 9 < 9)
    (h6b : W.pick (IntKind.wrap IntKind.i64 (rows + Int.tmod how 2)) 6 < 6)
    (hlb : ∀ j, -9223372036854775808 ≤ List.getD l j 0 ∧ List.getD l j 0 < 9223372036854775808)
    (hlb2 : ∀ j, -9223372036854775808 ≤ List.getD l2 j 0 ∧ List.getD l2 j 0 < 9223372036854775808)
    (h9h : W.pick how 9 < 9)
    (hm : m ≤ N)
    (hms : m ≤ 1048576)
    (hnM : ∀ j, nn j ≤ MM j)
    (hMs : ∀ j, MM j ≤ 1048576)
    (hA : ∀ j, -9223372036854775808 ≤ A j ∧ A j < 9223372036854775808)
    (hB : ∀ j, -9223372036854775808 ≤ B j ∧ B j < 9223372036854775808)
    (hL1 : 0 < L.length)
    (hLl : L.length ≤ 4000)
    (hk : W.pick at_ (L.length : Int) < L.length)
    (hn1 : 1 ≤ W.rn L (W.pick at_ (L.length : Int)))
    (h12 : W.pick (IntKind.wrap IntKind.i64 (Int.tdiv at_ 9)) 12 < 12)
    (h14 : W.pick (IntKind.wrap IntKind.i64 (Int.tdiv at_ 9)) 14 < 14)
    (h111 : W.pick (IntKind.wrap IntKind.i64 (Int.tdiv at_ 9)) 1114368 < 1114368)
    (h0 : (¬(↑(W.pick how (9 : Int)) : Int) = (0 : Int)))
    (h1 : (¬(↑(W.pick how (9 : Int)) : Int) = (1 : Int)))
    (h2 : (¬(↑(W.pick how (9 : Int)) : Int) = (2 : Int)))
    (h3 : (¬(↑(W.pick how (9 : Int)) : Int) = (3 : Int)))
    (h4 : (¬(↑(W.pick how (9 : Int)) : Int) = (4 : Int)))
    (h5 : (¬(↑(W.pick how (9 : Int)) : Int) = (5 : Int))) :
    CodeOk Try.prog 137 373 (kAt (kOf Try.prog Try.f4) [true, true, true, false, true]) (LJI l n l2 how at_ pr pc po pq ph A B nn MM G N m is_ rr cw X ro co hi rr2 cw2 ro2 co2 hi2 L Y) .normal (LJI l n l2 how at_ pr pc po pq ph A B nn MM G N m is_ rr cw (fun j_ p_ => X j_ p_) ro co hi rr2 cw2 ro2 co2 hi2 L Y) :=
  CodeOk.of_runs (fuel := 300) (v := ⟨[4, 5, 7, 14, 16, 17, 18, 40], [1, 2, 3, 4, 5, 85, 86, 101, 261, 262, 277], [], 389⟩) (hs := [(5, ⟨.call [] (.c (.int .i64 (↑(W.pick at_ ↑(List.length L))))) [] [], none⟩), (8, ⟨.call [] (.c (.int .i64 (↑(W.pick how 9)))) [] [], none⟩), (10, ⟨.auto, some (.c (.bool (false)))⟩), (13, ⟨.auto, some (.c (.bool (false)))⟩), (16, ⟨.auto, some (.c (.bool (false)))⟩), (19, ⟨.auto, some (.c (.bool (false)))⟩), (22, ⟨.auto, some (.c (.bool (false)))⟩), (25, ⟨.auto, some (.c (.bool (false)))⟩)])
    (cs := [EB ((↑(W.pick how 9) : Int) == 5) false,
      EB ((↑(W.pick how 9) : Int) == 4) false,
      EB ((↑(W.pick how 9) : Int) == 3) false,
      EB ((↑(W.pick how 9) : Int) == 2) false,
      EB ((↑(W.pick how 9) : Int) == 1) false,
      EB ((↑(W.pick how 9) : Int) == 0) false,
      Contract Try.prog 14 [(.c (.int .i64 how)), (.c (.int .i64 9))] [] 501 (.c (.int .i64 (↑(W.pick how 9)))) [] [],
      Contract Try.prog 14 [(.c (.int .i64 at_)), (.c (.int .i64 (↑(List.length L))))] [] 453 (.c (.int .i64 (↑(W.pick at_ ↑(List.length L))))) [] []])
    mixed (by kernel_rfl) ⟨.mk (beq_f h5), .mk (beq_f h4), .mk (beq_f h3), .mk (beq_f h2), .mk (beq_f h1), .mk (beq_f h0), Contract0.in1 (pick_ok how 9 (by omega) (by omega)) [] [none, none] [] [] (by kernel_rfl), Contract0.in1 (pick_ok at_ ((↑(List.length L) : Int)) (by omega) (by omega)) [] [none, none] [] [] (by kernel_rfl), trivial⟩
end Go.Proofs.Ytohleiikedpmkaa.Vm

namespace Go.Proofs.Ytohleiikedpmkaa.W
def tI (b : Bool) (k : Nat) (v : Int) (f : Nat → Int) : Nat → Int := fun j => bif b && Nat.beq j k then v else f j
def tN (b : Bool) (k : Nat) (v : Nat) (f : Nat → Nat) : Nat → Nat := fun j => bif b && Nat.beq j k then v else f j
def tG (b : Bool) (k c : Nat) (v : Int) (f : Nat → Nat → Int) : Nat → Nat → Int := fun j p => bif b && (Nat.beq j k && Nat.beq p c) then v else f j p
def bq (a b : Nat) : Bool := Nat.beq a b
def tO (b : Bool) (v w : Int) : Int := bif b then v else w
theorem tI_at {k : Nat} {v : Int} {f : Nat → Int} : tI true k v f k = v := by unfold tI; rw [Nat.beq_refl]; rfl
theorem tI_ne {k j : Nat} {v : Int} {f : Nat → Int} (h : j ≠ k) : tI true k v f j = f j := by unfold tI; rw [Vm.beqF h]; rfl
theorem tN_at {k v : Nat} {f : Nat → Nat} : tN true k v f k = v := by unfold tN; rw [Nat.beq_refl]; rfl
theorem tN_ne {k j v : Nat} {f : Nat → Nat} (h : j ≠ k) : tN true k v f j = f j := by unfold tN; rw [Vm.beqF h]; rfl
theorem tI_ib {b : Bool} {k : Nat} {v : Int} {f : Nat → Int} (hv : -9223372036854775808 ≤ v ∧ v < 9223372036854775808) (hf : ∀ j, -9223372036854775808 ≤ f j ∧ f j < 9223372036854775808) : ∀ j, -9223372036854775808 ≤ tI b k v f j ∧ tI b k v f j < 9223372036854775808 := by
  intro j; unfold tI
  cases (b && Nat.beq j k)
  · exact hf j
  · exact hv
theorem tN_le {b : Bool} {k : Nat} {f : Nat → Nat} : ∀ j, tN b k 0 f j ≤ f j := by
  intro j; unfold tN
  cases (b && Nat.beq j k)
  · exact Nat.le_refl _
  · exact Nat.zero_le _
end Go.Proofs.Ytohleiikedpmkaa.W
namespace Go.Proofs.Ytohleiikedpmkaa.Vm
open Go Go.Proofs Go.Proofs.Ytohleiikedpmkaa
theorem rec_turn {ρ : Rho} {n0 k d j : Nat} {x : C} {f f' : Nat → List C} (hd : d < 3) (hx : CR ρ (renC [] n0 x) ((f' k).getD d .unk)) (hf : ∀ r c, (r ≠ k ∨ c ≠ d) → c < 3 → CR ρ (renC [] n0 ((f r).getD c .unk)) ((f' r).getD c .unk)) :
    CR ρ (renC [] n0 (bif inR (k * 3 + d) 1 j then List.getD [x] (j - (k * 3 + d)) .unk else recGet 3 f j)) (recGet 3 f' j) := by
  unfold recGet
  by_cases h : j = k * 3 + d
  · subst h
    rw [inR_iff.2 (show k * 3 + d ≤ k * 3 + d ∧ k * 3 + d < k * 3 + d + 1 by omega), Nat.sub_self, show (k * 3 + d) / 3 = k by omega, show (k * 3 + d) % 3 = d by omega]
    exact hx
  · rw [inR_f (by omega)]
    exact hf (j / 3) (j % 3) (by omega) (by omega)
noncomputable def LJP (l : List Int) (n : Nat) (l2 : List Int) (how : Int) (at_ : Int) (pr : Int) (pc : Int) (po : Int) (pq : Int) (ph : Bool) (A : Nat → Int) (B : Nat → Int) (nn : Nat → Nat) (MM : Nat → Nat) (G : Nat → Nat → Int) (N : Nat) (m : Nat) (is_ : Bool) (rr : Nat) (cw : Nat) (X : Nat → Nat → Int) (ro : Int) (co : Int) (hi : Bool) (rr2 : Nat) (cw2 : Nat) (co2 : Int) (hi2 : Bool) (L : W.Rn) (A2 B2 : Nat → Int) (n2 : Nat → Nat) (G2 : Nat → Nat → Int) (ro3 : Int) : S0 :=
  ⟨[(4, (.c (.int .i64 how))), (5, (.c (.int .i64 at_))), (7, (.c (.bool is_))), (14, (.c (.ptr 5 0 0))), (16, (.c (.bool (false)))), (17, (.c (.ptr 101 0 0))), (18, (.c (.ptr 277 0 0))), (40, (.c (.bool (true))))], [(1, (.one ⟨false, false, (.ints .i64 l)⟩)), (2, (.one ⟨false, false, (.ints .i64 l2)⟩)), (3, (.one ⟨false, false, (.row (N * 3) 3 (fun j_ => [(.int .i64 (A j_)), (.int .i64 (B j_)), (.sl 4 j_ 0 (nn j_) 4)]))⟩)), (4, (.many (fun j_ => some ⟨false, false, (.ig (MM j_ * 4) W.ck (fun p_ => (G j_ p_)))⟩))), (5, (.one ⟨true, true, (.cells [(.int .i64 pr), (.int .i64 pc), (.int .i64 po), (.int .i64 pq), (.bool ph), (.sl 3 0 0 m 3)])⟩)), (85, (.one ⟨true, false, .gen rr (fun j_ => .sl 86 j_ 0 cw 4)⟩)), (86, (.many (fun j_ => some ⟨true, true, .ig (W.rl rr (cw * 4) j_) W.ck (X j_)⟩))), (101, (.one ⟨true, true, .cells [.int .i64 (rr : Int), .int .i64 (cw : Int), .sl 85 0 0 rr 1, .int .i64 ro, .int .i64 co, .bool hi]⟩)), (261, (.one ⟨true, false, .row (L.length * 3) 3 (fun k_ => [.int .i64 (A2 k_), .int .i64 (B2 k_), .sl 262 k_ 0 (n2 k_) 4])⟩)), (262, (.many (fun j_ => some ⟨true, false, .ig (W.rn L j_ * 4) W.ck (G2 j_)⟩))), (277, (.one ⟨true, true, .cells [.int .i64 (rr2 : Int), .int .i64 (cw2 : Int), .int .i64 ro3, .int .i64 co2, .bool hi2, .sl 261 0 0 L.length 3]⟩))], 389⟩
theorem apq_piece (rows cols : Int) (l : List Int) (o n : Nat) (l2 : List Int) (p q : Nat) (how at_ pr pc po pq : Int) (ph : Bool) (A B : Nat → Int) (nn MM : Nat → Nat) (G : Nat → Nat → Int) (N m : Nat) (is_ : Bool) (rr cw : Nat) (X : Nat → Nat → Int) (ro co : Int) (hi : Bool) (rr2 cw2 : Nat) (ro2 co2 : Int) (hi2 : Bool) (L : W.Rn) (Y : Nat → Nat → Int)
    (hr : -9223372036854775808 ≤ rows ∧ rows < 9223372036854775808)
    (hc : -9223372036854775808 ≤ cols ∧ cols < 9223372036854775808)
    (hl : o + n ≤ l.length)
    (hn : n ≤ 1048576)
    (hl2 : p + q ≤ l2.length)
    (hq : q ≤ 1048576)
    (hho : -9223372036854775808 ≤ how ∧ how < 9223372036854775808)
    (hat : -9223372036854775808 ≤ at_ ∧ at_ < 9223372036854775808)
    (h6 : W.pick rows 6 < 6)
    (h9 : W.pick cols 9 < 9)
    (h6b : W.pick (IntKind.wrap IntKind.i64 (rows + Int.tmod how 2)) 6 < 6)
    (hlb : ∀ j, -9223372036854775808 ≤ List.getD l j 0 ∧ List.getD l j 0 < 9223372036854775808)
    (hlb2 : ∀ j, -9223372036854775808 ≤ List.getD l2 j 0 ∧ List.getD l2 j 0 < 9223372036854775808)
    (h9h : W.pick how 9 < 9)
    (hm : m ≤ N)
    (hms : m ≤ 1048576)
    (hnM : ∀ j, nn j ≤ MM j)
    (hMs : ∀ j, MM j ≤ 1048576)
    (hA : ∀ j, -9223372036854775808 ≤ A j ∧ A j < 9223372036854775808)
    (hB : ∀ j, -9223372036854775808 ≤ B j ∧ B j < 9223372036854775808)
    (hL1 : 0 < L.length)
    (hLl : L.length ≤ 4000)
    (hk : W.pick at_ (L.length : Int) < L.length)
    (hn1 : 1 ≤ W.rn L (W.pick at_ (L.length : Int)))
    (h12 : W.pick (IntKind.wrap IntKind.i64 (Int.tdiv at_ 9)) 12 < 12)
    (h14 : W.pick (IntKind.wrap IntKind.i64 (Int.tdiv at_ 9)) 14 < 14)
    (h111 : W.pick (IntKind.wrap IntKind.i64 (Int.tdiv at_ 9)) 1114368 < 1114368)
    : CodeOk Try.prog 137 373 (kAt (kOf Try.prog Try.f4) [true, true, true, false, true]) (LJI l n l2 how at_ pr pc po pq ph A B nn MM G N m is_ rr cw X ro co hi rr2 cw2 ro2 co2 hi2 L Y) .normal (LJP l n l2 how at_ pr pc po pq ph A B nn MM G N m is_ rr cw X ro co hi rr2 cw2 co2 hi2 L (W.tI (W.bq (W.pick how 9) 0) (W.pick at_ (L.length : Int)) (IntKind.wrap IntKind.i64 ((W.pick (IntKind.wrap IntKind.i64 (Int.tdiv at_ 9)) 12 : Int) - 2)) (fun j => (W.ra L j : Int))) (W.tI (W.bq (W.pick how 9) 1) (W.pick at_ (L.length : Int)) (IntKind.wrap IntKind.i64 ((W.pick (IntKind.wrap IntKind.i64 (Int.tdiv at_ 9)) 14 : Int) - 2)) (fun j => (W.rb L j : Int))) (W.tN (W.bq (W.pick how 9) 2) (W.pick at_ (L.length : Int)) 0 (W.rn L)) (W.tG (W.bq (W.pick how 9) 3) (W.pick at_ (L.length : Int)) 0 (IntKind.wrap IntKind.i32 (W.pick (IntKind.wrap IntKind.i64 (Int.tdiv at_ 9)) 1114368 : Int)) (W.tG (W.bq (W.pick how 9) 5) (W.pick at_ (L.length : Int)) 3 (IntKind.wrap IntKind.i64 ((W.pick (IntKind.wrap IntKind.i64 (Int.tdiv at_ 9)) 12 : Int) - 2)) (fun j p => Y (W.ra L j) (p + W.rb L j * 4)))) (W.tO (W.bq (W.pick how 9) 4) (IntKind.wrap IntKind.i64 ((W.pick (IntKind.wrap IntKind.i64 (Int.tdiv at_ 9)) 12 : Int) - 2)) ro2)) := by
  by_cases g0 : ((W.pick how 9 : Nat) : Int) = 0
  · have b0 : W.bq (W.pick how 9) 0 = true := by rw [show W.pick how 9 = 0 by omega]; rfl
    have b1 : W.bq (W.pick how 9) 1 = false := beqF (a := W.pick how 9) (by omega)
    have b2 : W.bq (W.pick how 9) 2 = false := beqF (a := W.pick how 9) (by omega)
    have b3 : W.bq (W.pick how 9) 3 = false := beqF (a := W.pick how 9) (by omega)
    have b4 : W.bq (W.pick how 9) 4 = false := beqF (a := W.pick how 9) (by omega)
    have b5 : W.bq (W.pick how 9) 5 = false := beqF (a := W.pick how 9) (by omega)
    rw [b0, b1, b2, b3, b4, b5]
    refine (LJ_rt rows cols l o n l2 p q how at_ pr pc po pq ph A B nn MM G N m is_ rr cw X ro co hi rr2 cw2 ro2 co2 hi2 L Y hr hc hl hn hl2 hq hho hat h6 h9 h6b hlb hlb2 h9h hm hms hnM hMs hA hB hL1 hLl hk hn1 h12 h14 h111 g0).move (Move.tab (n0 := 373) [] (by decide) (show 373 ≤ 389 by decide) (by simp) (by simp) ?_ ?_)
    · refine ⟨?_, ?_, ?_, ?_, ?_, ?_, ?_, ?_, ?_, ?_, ?_, trivial⟩
      · exact BR.ints (tabRho_low (by decide)) rfl (fun h => h) rfl
      · exact BR.ints (tabRho_low (by decide)) rfl (fun h => h) rfl
      · refine .inl ⟨3, 0, _, (tabRho_low (b := 3) (k := 0) (by decide)), rfl, rfl, fun h => h, rfl, fun j hj => ?_⟩
        show CR _ (recGet 3 (fun k_ => [.int .i64 (A k_), .int .i64 (B k_), .sl 4 k_ 0 (nn k_) 4]) j) (recGet 3 (fun k_ => [.int .i64 (A k_), .int .i64 (B k_), .sl 4 k_ 0 (nn k_) 4]) j)
        unfold recGet
        rcases (by omega : j % 3 = 0 ∨ j % 3 = 1 ∨ j % 3 = 2) with e | e | e <;> rw [e]
        · exact ⟨rfl, rfl⟩
        · exact ⟨rfl, rfl⟩
        · exact ⟨tabRho_low (by decide), rfl, rfl, rfl⟩
      · intro j k hk; injection hk with hk; subst hk
        exact BR.ig (tabRho_low (by decide)) rfl (fun h => h) rfl (fun _ _ => rfl) (fun _ _ => rfl)
      · exact BR.cells (tabRho_low (by decide)) rfl (fun h => h) ⟨⟨rfl, by first | rfl | omega⟩, ⟨rfl, by first | rfl | omega⟩, ⟨rfl, by first | rfl | omega⟩, ⟨rfl, by first | rfl | omega⟩, rfl, ⟨tabRho_low (by decide), by first | rfl | omega, by first | rfl | omega, rfl⟩, trivial⟩
      · exact BR.gen (tabRho_low (by decide)) rfl (fun h => h) rfl (fun p hp => ⟨tabRho_low (by decide), rfl, rfl, rfl⟩)
      · intro j k hk; injection hk with hk; subst hk
        exact BR.ig (tabRho_low (by decide)) rfl (fun h => h) rfl (fun _ _ => rfl) (fun _ _ => rfl)
      · exact BR.cells (tabRho_low (by decide)) rfl (fun h => h) ⟨⟨rfl, by first | rfl | omega⟩, ⟨rfl, by first | rfl | omega⟩, ⟨tabRho_low (by decide), by first | rfl | omega, by first | rfl | omega, rfl⟩, ⟨rfl, by first | rfl | omega⟩, ⟨rfl, by first | rfl | omega⟩, rfl, trivial⟩
      · refine .inl ⟨261, 0, _, (tabRho_low (b := 261) (k := 0) (by decide)), rfl, rfl, fun h => h, rfl, fun j hj => ?_⟩
        refine rec_turn (n0 := 373) (k := (W.pick at_ (L.length : Int))) (d := 0) (f := (fun k_ => [.int .i64 (W.ra L k_ : Int), .int .i64 (W.rb L k_ : Int), .sl 262 k_ 0 (W.rn L k_) 4])) (f' := (fun k_ => [.int .i64 (W.tI true (W.pick at_ (L.length : Int)) (IntKind.wrap IntKind.i64 ((W.pick (IntKind.wrap IntKind.i64 (Int.tdiv at_ 9)) 12 : Int) - 2)) (fun j => (W.ra L j : Int)) k_), .int .i64 (W.rb L k_ : Int), .sl 262 k_ 0 (W.rn L k_) 4])) (by decide) ⟨rfl, W.tI_at⟩ (fun r c hrc hc => ?_)
        rcases (by omega : c = 0 ∨ c = 1 ∨ c = 2) with e | e | e
        · subst e; exact ⟨rfl, W.tI_ne (by omega)⟩
        · subst e; exact ⟨rfl, rfl⟩
        · subst e; exact ⟨tabRho_low (by decide), rfl, rfl, rfl⟩
      · intro j k hk; injection hk with hk; subst hk
        exact BR.ig (tabRho_low (by decide)) rfl (fun h => h) rfl (fun _ _ => rfl) (fun _ _ => rfl)
      · exact BR.cells (tabRho_low (by decide)) rfl (fun h => h) ⟨⟨rfl, by first | rfl | omega⟩, ⟨rfl, by first | rfl | omega⟩, ⟨rfl, by first | rfl | omega⟩, ⟨rfl, by first | rfl | omega⟩, rfl, ⟨tabRho_low (by decide), by first | rfl | omega, by first | rfl | omega, rfl⟩, trivial⟩
    · exact ⟨rfl, ⟨rfl, by first | rfl | omega⟩, rfl, ⟨rfl, by first | rfl | omega⟩, rfl, rfl, rfl, ⟨tabRho_low (by decide), by first | rfl | omega⟩, rfl, rfl, rfl, ⟨tabRho_low (by decide), by first | rfl | omega⟩, rfl, ⟨tabRho_low (by decide), by first | rfl | omega⟩, rfl, rfl, trivial⟩
  by_cases g1 : ((W.pick how 9 : Nat) : Int) = 1
  · have b0 : W.bq (W.pick how 9) 0 = false := beqF (a := W.pick how 9) (by omega)
    have b1 : W.bq (W.pick how 9) 1 = true := by rw [show W.pick how 9 = 1 by omega]; rfl
    have b2 : W.bq (W.pick how 9) 2 = false := beqF (a := W.pick how 9) (by omega)
    have b3 : W.bq (W.pick how 9) 3 = false := beqF (a := W.pick how 9) (by omega)
    have b4 : W.bq (W.pick how 9) 4 = false := beqF (a := W.pick how 9) (by omega)
    have b5 : W.bq (W.pick how 9) 5 = false := beqF (a := W.pick how 9) (by omega)
    rw [b0, b1, b2, b3, b4, b5]
    refine (LJ_rft rows cols l o n l2 p q how at_ pr pc po pq ph A B nn MM G N m is_ rr cw X ro co hi rr2 cw2 ro2 co2 hi2 L Y hr hc hl hn hl2 hq hho hat h6 h9 h6b hlb hlb2 h9h hm hms hnM hMs hA hB hL1 hLl hk hn1 h12 h14 h111 g0 g1).move (Move.tab (n0 := 373) [] (by decide) (show 373 ≤ 389 by decide) (by simp) (by simp) ?_ ?_)
    · refine ⟨?_, ?_, ?_, ?_, ?_, ?_, ?_, ?_, ?_, ?_, ?_, trivial⟩
      · exact BR.ints (tabRho_low (by decide)) rfl (fun h => h) rfl
      · exact BR.ints (tabRho_low (by decide)) rfl (fun h => h) rfl
      · refine .inl ⟨3, 0, _, (tabRho_low (b := 3) (k := 0) (by decide)), rfl, rfl, fun h => h, rfl, fun j hj => ?_⟩
        show CR _ (recGet 3 (fun k_ => [.int .i64 (A k_), .int .i64 (B k_), .sl 4 k_ 0 (nn k_) 4]) j) (recGet 3 (fun k_ => [.int .i64 (A k_), .int .i64 (B k_), .sl 4 k_ 0 (nn k_) 4]) j)
        unfold recGet
        rcases (by omega : j % 3 = 0 ∨ j % 3 = 1 ∨ j % 3 = 2) with e | e | e <;> rw [e]
        · exact ⟨rfl, rfl⟩
        · exact ⟨rfl, rfl⟩
        · exact ⟨tabRho_low (by decide), rfl, rfl, rfl⟩
      · intro j k hk; injection hk with hk; subst hk
        exact BR.ig (tabRho_low (by decide)) rfl (fun h => h) rfl (fun _ _ => rfl) (fun _ _ => rfl)
      · exact BR.cells (tabRho_low (by decide)) rfl (fun h => h) ⟨⟨rfl, by first | rfl | omega⟩, ⟨rfl, by first | rfl | omega⟩, ⟨rfl, by first | rfl | omega⟩, ⟨rfl, by first | rfl | omega⟩, rfl, ⟨tabRho_low (by decide), by first | rfl | omega, by first | rfl | omega, rfl⟩, trivial⟩
      · exact BR.gen (tabRho_low (by decide)) rfl (fun h => h) rfl (fun p hp => ⟨tabRho_low (by decide), rfl, rfl, rfl⟩)
      · intro j k hk; injection hk with hk; subst hk
        exact BR.ig (tabRho_low (by decide)) rfl (fun h => h) rfl (fun _ _ => rfl) (fun _ _ => rfl)
      · exact BR.cells (tabRho_low (by decide)) rfl (fun h => h) ⟨⟨rfl, by first | rfl | omega⟩, ⟨rfl, by first | rfl | omega⟩, ⟨tabRho_low (by decide), by first | rfl | omega, by first | rfl | omega, rfl⟩, ⟨rfl, by first | rfl | omega⟩, ⟨rfl, by first | rfl | omega⟩, rfl, trivial⟩
      · refine .inl ⟨261, 0, _, (tabRho_low (b := 261) (k := 0) (by decide)), rfl, rfl, fun h => h, rfl, fun j hj => ?_⟩
        refine rec_turn (n0 := 373) (k := (W.pick at_ (L.length : Int))) (d := 1) (f := (fun k_ => [.int .i64 (W.ra L k_ : Int), .int .i64 (W.rb L k_ : Int), .sl 262 k_ 0 (W.rn L k_) 4])) (f' := (fun k_ => [.int .i64 (W.ra L k_ : Int), .int .i64 (W.tI true (W.pick at_ (L.length : Int)) (IntKind.wrap IntKind.i64 ((W.pick (IntKind.wrap IntKind.i64 (Int.tdiv at_ 9)) 14 : Int) - 2)) (fun j => (W.rb L j : Int)) k_), .sl 262 k_ 0 (W.rn L k_) 4])) (by decide) ⟨rfl, W.tI_at⟩ (fun r c hrc hc => ?_)
        rcases (by omega : c = 0 ∨ c = 1 ∨ c = 2) with e | e | e
        · subst e; exact ⟨rfl, rfl⟩
        · subst e; exact ⟨rfl, W.tI_ne (by omega)⟩
        · subst e; exact ⟨tabRho_low (by decide), rfl, rfl, rfl⟩
      · intro j k hk; injection hk with hk; subst hk
        exact BR.ig (tabRho_low (by decide)) rfl (fun h => h) rfl (fun _ _ => rfl) (fun _ _ => rfl)
      · exact BR.cells (tabRho_low (by decide)) rfl (fun h => h) ⟨⟨rfl, by first | rfl | omega⟩, ⟨rfl, by first | rfl | omega⟩, ⟨rfl, by first | rfl | omega⟩, ⟨rfl, by first | rfl | omega⟩, rfl, ⟨tabRho_low (by decide), by first | rfl | omega, by first | rfl | omega, rfl⟩, trivial⟩
    · exact ⟨rfl, ⟨rfl, by first | rfl | omega⟩, rfl, ⟨rfl, by first | rfl | omega⟩, rfl, rfl, rfl, ⟨tabRho_low (by decide), by first | rfl | omega⟩, rfl, rfl, rfl, ⟨tabRho_low (by decide), by first | rfl | omega⟩, rfl, ⟨tabRho_low (by decide), by first | rfl | omega⟩, rfl, rfl, trivial⟩
  by_cases g2 : ((W.pick how 9 : Nat) : Int) = 2
  · have b0 : W.bq (W.pick how 9) 0 = false := beqF (a := W.pick how 9) (by omega)
    have b1 : W.bq (W.pick how 9) 1 = false := beqF (a := W.pick how 9) (by omega)
    have b2 : W.bq (W.pick how 9) 2 = true := by rw [show W.pick how 9 = 2 by omega]; rfl
    have b3 : W.bq (W.pick how 9) 3 = false := beqF (a := W.pick how 9) (by omega)
    have b4 : W.bq (W.pick how 9) 4 = false := beqF (a := W.pick how 9) (by omega)
    have b5 : W.bq (W.pick how 9) 5 = false := beqF (a := W.pick how 9) (by omega)
    rw [b0, b1, b2, b3, b4, b5]
    refine (LJ_rfft rows cols l o n l2 p q how at_ pr pc po pq ph A B nn MM G N m is_ rr cw X ro co hi rr2 cw2 ro2 co2 hi2 L Y hr hc hl hn hl2 hq hho hat h6 h9 h6b hlb hlb2 h9h hm hms hnM hMs hA hB hL1 hLl hk hn1 h12 h14 h111 g0 g1 g2).move (Move.tab (n0 := 373) [] (by decide) (show 373 ≤ 389 by decide) (by simp) (by simp) ?_ ?_)
    · refine ⟨?_, ?_, ?_, ?_, ?_, ?_, ?_, ?_, ?_, ?_, ?_, trivial⟩
      · exact BR.ints (tabRho_low (by decide)) rfl (fun h => h) rfl
      · exact BR.ints (tabRho_low (by decide)) rfl (fun h => h) rfl
      · refine .inl ⟨3, 0, _, (tabRho_low (b := 3) (k := 0) (by decide)), rfl, rfl, fun h => h, rfl, fun j hj => ?_⟩
        show CR _ (recGet 3 (fun k_ => [.int .i64 (A k_), .int .i64 (B k_), .sl 4 k_ 0 (nn k_) 4]) j) (recGet 3 (fun k_ => [.int .i64 (A k_), .int .i64 (B k_), .sl 4 k_ 0 (nn k_) 4]) j)
        unfold recGet
        rcases (by omega : j % 3 = 0 ∨ j % 3 = 1 ∨ j % 3 = 2) with e | e | e <;> rw [e]
        · exact ⟨rfl, rfl⟩
        · exact ⟨rfl, rfl⟩
        · exact ⟨tabRho_low (by decide), rfl, rfl, rfl⟩
      · intro j k hk; injection hk with hk; subst hk
        exact BR.ig (tabRho_low (by decide)) rfl (fun h => h) rfl (fun _ _ => rfl) (fun _ _ => rfl)
      · exact BR.cells (tabRho_low (by decide)) rfl (fun h => h) ⟨⟨rfl, by first | rfl | omega⟩, ⟨rfl, by first | rfl | omega⟩, ⟨rfl, by first | rfl | omega⟩, ⟨rfl, by first | rfl | omega⟩, rfl, ⟨tabRho_low (by decide), by first | rfl | omega, by first | rfl | omega, rfl⟩, trivial⟩
      · exact BR.gen (tabRho_low (by decide)) rfl (fun h => h) rfl (fun p hp => ⟨tabRho_low (by decide), rfl, rfl, rfl⟩)
      · intro j k hk; injection hk with hk; subst hk
        exact BR.ig (tabRho_low (by decide)) rfl (fun h => h) rfl (fun _ _ => rfl) (fun _ _ => rfl)
      · exact BR.cells (tabRho_low (by decide)) rfl (fun h => h) ⟨⟨rfl, by first | rfl | omega⟩, ⟨rfl, by first | rfl | omega⟩, ⟨tabRho_low (by decide), by first | rfl | omega, by first | rfl | omega, rfl⟩, ⟨rfl, by first | rfl | omega⟩, ⟨rfl, by first | rfl | omega⟩, rfl, trivial⟩
      · refine .inl ⟨261, 0, _, (tabRho_low (b := 261) (k := 0) (by decide)), rfl, rfl, fun h => h, rfl, fun j hj => ?_⟩
        refine rec_turn (n0 := 373) (k := (W.pick at_ (L.length : Int))) (d := 2) (f := (fun k_ => [.int .i64 (W.ra L k_ : Int), .int .i64 (W.rb L k_ : Int), .sl 262 k_ 0 (W.rn L k_) 4])) (f' := (fun k_ => [.int .i64 (W.ra L k_ : Int), .int .i64 (W.rb L k_ : Int), .sl 262 k_ 0 (W.tN true (W.pick at_ (L.length : Int)) 0 (W.rn L) k_) 4])) (by decide) W.tN_at (fun r c hrc hc => ?_)
        rcases (by omega : c = 0 ∨ c = 1 ∨ c = 2) with e | e | e
        · subst e; exact ⟨rfl, rfl⟩
        · subst e; exact ⟨rfl, rfl⟩
        · subst e; exact ⟨tabRho_low (by decide), rfl, W.tN_ne (by omega), rfl⟩
      · intro j k hk; injection hk with hk; subst hk
        exact BR.ig (tabRho_low (by decide)) rfl (fun h => h) rfl (fun _ _ => rfl) (fun _ _ => rfl)
      · exact BR.cells (tabRho_low (by decide)) rfl (fun h => h) ⟨⟨rfl, by first | rfl | omega⟩, ⟨rfl, by first | rfl | omega⟩, ⟨rfl, by first | rfl | omega⟩, ⟨rfl, by first | rfl | omega⟩, rfl, ⟨tabRho_low (by decide), by first | rfl | omega, by first | rfl | omega, rfl⟩, trivial⟩
    · exact ⟨rfl, ⟨rfl, by first | rfl | omega⟩, rfl, ⟨rfl, by first | rfl | omega⟩, rfl, rfl, rfl, ⟨tabRho_low (by decide), by first | rfl | omega⟩, rfl, rfl, rfl, ⟨tabRho_low (by decide), by first | rfl | omega⟩, rfl, ⟨tabRho_low (by decide), by first | rfl | omega⟩, rfl, rfl, trivial⟩
  by_cases g3 : ((W.pick how 9 : Nat) : Int) = 3
  · have b0 : W.bq (W.pick how 9) 0 = false := beqF (a := W.pick how 9) (by omega)
    have b1 : W.bq (W.pick how 9) 1 = false := beqF (a := W.pick how 9) (by omega)
    have b2 : W.bq (W.pick how 9) 2 = false := beqF (a := W.pick how 9) (by omega)
    have b3 : W.bq (W.pick how 9) 3 = true := by rw [show W.pick how 9 = 3 by omega]; rfl
    have b4 : W.bq (W.pick how 9) 4 = false := beqF (a := W.pick how 9) (by omega)
    have b5 : W.bq (W.pick how 9) 5 = false := beqF (a := W.pick how 9) (by omega)
    rw [b0, b1, b2, b3, b4, b5]
    refine (LJ_rffft rows cols l o n l2 p q how at_ pr pc po pq ph A B nn MM G N m is_ rr cw X ro co hi rr2 cw2 ro2 co2 hi2 L Y hr hc hl hn hl2 hq hho hat h6 h9 h6b hlb hlb2 h9h hm hms hnM hMs hA hB hL1 hLl hk hn1 h12 h14 h111 g0 g1 g2 g3).move (Move.tab (n0 := 373) [] (by decide) (show 373 ≤ 389 by decide) (by simp) (by simp) ?_ ?_)
    · refine ⟨?_, ?_, ?_, ?_, ?_, ?_, ?_, ?_, ?_, ?_, ?_, trivial⟩
      · exact BR.ints (tabRho_low (by decide)) rfl (fun h => h) rfl
      · exact BR.ints (tabRho_low (by decide)) rfl (fun h => h) rfl
      · refine .inl ⟨3, 0, _, (tabRho_low (b := 3) (k := 0) (by decide)), rfl, rfl, fun h => h, rfl, fun j hj => ?_⟩
        show CR _ (recGet 3 (fun k_ => [.int .i64 (A k_), .int .i64 (B k_), .sl 4 k_ 0 (nn k_) 4]) j) (recGet 3 (fun k_ => [.int .i64 (A k_), .int .i64 (B k_), .sl 4 k_ 0 (nn k_) 4]) j)
        unfold recGet
        rcases (by omega : j % 3 = 0 ∨ j % 3 = 1 ∨ j % 3 = 2) with e | e | e <;> rw [e]
        · exact ⟨rfl, rfl⟩
        · exact ⟨rfl, rfl⟩
        · exact ⟨tabRho_low (by decide), rfl, rfl, rfl⟩
      · intro j k hk; injection hk with hk; subst hk
        exact BR.ig (tabRho_low (by decide)) rfl (fun h => h) rfl (fun _ _ => rfl) (fun _ _ => rfl)
      · exact BR.cells (tabRho_low (by decide)) rfl (fun h => h) ⟨⟨rfl, by first | rfl | omega⟩, ⟨rfl, by first | rfl | omega⟩, ⟨rfl, by first | rfl | omega⟩, ⟨rfl, by first | rfl | omega⟩, rfl, ⟨tabRho_low (by decide), by first | rfl | omega, by first | rfl | omega, rfl⟩, trivial⟩
      · exact BR.gen (tabRho_low (by decide)) rfl (fun h => h) rfl (fun p hp => ⟨tabRho_low (by decide), rfl, rfl, rfl⟩)
      · intro j k hk; injection hk with hk; subst hk
        exact BR.ig (tabRho_low (by decide)) rfl (fun h => h) rfl (fun _ _ => rfl) (fun _ _ => rfl)
      · exact BR.cells (tabRho_low (by decide)) rfl (fun h => h) ⟨⟨rfl, by first | rfl | omega⟩, ⟨rfl, by first | rfl | omega⟩, ⟨tabRho_low (by decide), by first | rfl | omega, by first | rfl | omega, rfl⟩, ⟨rfl, by first | rfl | omega⟩, ⟨rfl, by first | rfl | omega⟩, rfl, trivial⟩
      · refine .inl ⟨261, 0, _, (tabRho_low (b := 261) (k := 0) (by decide)), rfl, rfl, fun h => h, rfl, fun j hj => ?_⟩
        show CR _ (recGet 3 (fun k_ => [.int .i64 (W.ra L k_ : Int), .int .i64 (W.rb L k_ : Int), .sl 262 k_ 0 (W.rn L k_) 4]) j) (recGet 3 (fun k_ => [.int .i64 (W.ra L k_ : Int), .int .i64 (W.rb L k_ : Int), .sl 262 k_ 0 (W.rn L k_) 4]) j)
        unfold recGet
        rcases (by omega : j % 3 = 0 ∨ j % 3 = 1 ∨ j % 3 = 2) with e | e | e <;> rw [e]
        · exact ⟨rfl, rfl⟩
        · exact ⟨rfl, rfl⟩
        · exact ⟨tabRho_low (by decide), rfl, rfl, rfl⟩
      · intro j k hk; injection hk with hk; subst hk
        by_cases hj : j = (W.pick at_ (L.length : Int))
        · subst hj
          refine BR.ig (tabRho_low (by decide)) ((renF_upd _).trans (by rw [Nat.beq_refl]; rfl)) (fun h => h) rfl (fun p _ => ?_) (fun p _ => ?_)
          · by_cases hp : p = 0
            · subst hp; rfl
            · show W.ck p = (bif inR 0 1 p then _ else W.ck p)
              rw [inR_f (by omega)]; rfl
          · by_cases hp : p = 0
            · subst hp
              show (bif true && (Nat.beq _ _ && true) then _ else _) = _
              rw [Nat.beq_refl]; rfl
            · show (bif true && (Nat.beq _ _ && Nat.beq p 0) then _ else _) = (bif inR 0 1 p then _ else _)
              rw [inR_f (by omega), beqF hp, Bool.and_false, Bool.and_false]; rfl
        · refine BR.ig (tabRho_low (by decide)) ((renF_upd _).trans (by rw [beqF hj]; rfl)) (fun h => h) rfl (fun p _ => rfl) (fun p _ => ?_)
          show (bif true && (Nat.beq j _ && Nat.beq p 0) then _ else _) = _
          rw [beqF hj, Bool.false_and, Bool.and_false]; rfl
      · exact BR.cells (tabRho_low (by decide)) rfl (fun h => h) ⟨⟨rfl, by first | rfl | omega⟩, ⟨rfl, by first | rfl | omega⟩, ⟨rfl, by first | rfl | omega⟩, ⟨rfl, by first | rfl | omega⟩, rfl, ⟨tabRho_low (by decide), by first | rfl | omega, by first | rfl | omega, rfl⟩, trivial⟩
    · exact ⟨rfl, ⟨rfl, by first | rfl | omega⟩, rfl, ⟨rfl, by first | rfl | omega⟩, rfl, rfl, rfl, ⟨tabRho_low (by decide), by first | rfl | omega⟩, rfl, rfl, rfl, ⟨tabRho_low (by decide), by first | rfl | omega⟩, rfl, ⟨tabRho_low (by decide), by first | rfl | omega⟩, rfl, rfl, trivial⟩
  by_cases g4 : ((W.pick how 9 : Nat) : Int) = 4
  · have b0 : W.bq (W.pick how 9) 0 = false := beqF (a := W.pick how 9) (by omega)
    have b1 : W.bq (W.pick how 9) 1 = false := beqF (a := W.pick how 9) (by omega)
    have b2 : W.bq (W.pick how 9) 2 = false := beqF (a := W.pick how 9) (by omega)
    have b3 : W.bq (W.pick how 9) 3 = false := beqF (a := W.pick how 9) (by omega)
    have b4 : W.bq (W.pick how 9) 4 = true := by rw [show W.pick how 9 = 4 by omega]; rfl
    have b5 : W.bq (W.pick how 9) 5 = false := beqF (a := W.pick how 9) (by omega)
    rw [b0, b1, b2, b3, b4, b5]
    refine (LJ_rfffft rows cols l o n l2 p q how at_ pr pc po pq ph A B nn MM G N m is_ rr cw X ro co hi rr2 cw2 ro2 co2 hi2 L Y hr hc hl hn hl2 hq hho hat h6 h9 h6b hlb hlb2 h9h hm hms hnM hMs hA hB hL1 hLl hk hn1 h12 h14 h111 g0 g1 g2 g3 g4).move (Move.tab (n0 := 373) [] (by decide) (show 373 ≤ 389 by decide) (by simp) (by simp) ?_ ?_)
    · refine ⟨?_, ?_, ?_, ?_, ?_, ?_, ?_, ?_, ?_, ?_, ?_, trivial⟩
      · exact BR.ints (tabRho_low (by decide)) rfl (fun h => h) rfl
      · exact BR.ints (tabRho_low (by decide)) rfl (fun h => h) rfl
      · refine .inl ⟨3, 0, _, (tabRho_low (b := 3) (k := 0) (by decide)), rfl, rfl, fun h => h, rfl, fun j hj => ?_⟩
        show CR _ (recGet 3 (fun k_ => [.int .i64 (A k_), .int .i64 (B k_), .sl 4 k_ 0 (nn k_) 4]) j) (recGet 3 (fun k_ => [.int .i64 (A k_), .int .i64 (B k_), .sl 4 k_ 0 (nn k_) 4]) j)
        unfold recGet
        rcases (by omega : j % 3 = 0 ∨ j % 3 = 1 ∨ j % 3 = 2) with e | e | e <;> rw [e]
        · exact ⟨rfl, rfl⟩
        · exact ⟨rfl, rfl⟩
        · exact ⟨tabRho_low (by decide), rfl, rfl, rfl⟩
      · intro j k hk; injection hk with hk; subst hk
        exact BR.ig (tabRho_low (by decide)) rfl (fun h => h) rfl (fun _ _ => rfl) (fun _ _ => rfl)
      · exact BR.cells (tabRho_low (by decide)) rfl (fun h => h) ⟨⟨rfl, by first | rfl | omega⟩, ⟨rfl, by first | rfl | omega⟩, ⟨rfl, by first | rfl | omega⟩, ⟨rfl, by first | rfl | omega⟩, rfl, ⟨tabRho_low (by decide), by first | rfl | omega, by first | rfl | omega, rfl⟩, trivial⟩
      · exact BR.gen (tabRho_low (by decide)) rfl (fun h => h) rfl (fun p hp => ⟨tabRho_low (by decide), rfl, rfl, rfl⟩)
      · intro j k hk; injection hk with hk; subst hk
        exact BR.ig (tabRho_low (by decide)) rfl (fun h => h) rfl (fun _ _ => rfl) (fun _ _ => rfl)
      · exact BR.cells (tabRho_low (by decide)) rfl (fun h => h) ⟨⟨rfl, by first | rfl | omega⟩, ⟨rfl, by first | rfl | omega⟩, ⟨tabRho_low (by decide), by first | rfl | omega, by first | rfl | omega, rfl⟩, ⟨rfl, by first | rfl | omega⟩, ⟨rfl, by first | rfl | omega⟩, rfl, trivial⟩
      · refine .inl ⟨261, 0, _, (tabRho_low (b := 261) (k := 0) (by decide)), rfl, rfl, fun h => h, rfl, fun j hj => ?_⟩
        show CR _ (recGet 3 (fun k_ => [.int .i64 (W.ra L k_ : Int), .int .i64 (W.rb L k_ : Int), .sl 262 k_ 0 (W.rn L k_) 4]) j) (recGet 3 (fun k_ => [.int .i64 (W.ra L k_ : Int), .int .i64 (W.rb L k_ : Int), .sl 262 k_ 0 (W.rn L k_) 4]) j)
        unfold recGet
        rcases (by omega : j % 3 = 0 ∨ j % 3 = 1 ∨ j % 3 = 2) with e | e | e <;> rw [e]
        · exact ⟨rfl, rfl⟩
        · exact ⟨rfl, rfl⟩
        · exact ⟨tabRho_low (by decide), rfl, rfl, rfl⟩
      · intro j k hk; injection hk with hk; subst hk
        exact BR.ig (tabRho_low (by decide)) rfl (fun h => h) rfl (fun _ _ => rfl) (fun _ _ => rfl)
      · exact BR.cells (tabRho_low (by decide)) rfl (fun h => h) ⟨⟨rfl, by first | rfl | omega⟩, ⟨rfl, by first | rfl | omega⟩, ⟨rfl, by first | rfl | omega⟩, ⟨rfl, by first | rfl | omega⟩, rfl, ⟨tabRho_low (by decide), by first | rfl | omega, by first | rfl | omega, rfl⟩, trivial⟩
    · exact ⟨rfl, ⟨rfl, by first | rfl | omega⟩, rfl, ⟨rfl, by first | rfl | omega⟩, rfl, rfl, rfl, ⟨tabRho_low (by decide), by first | rfl | omega⟩, rfl, rfl, rfl, ⟨tabRho_low (by decide), by first | rfl | omega⟩, rfl, ⟨tabRho_low (by decide), by first | rfl | omega⟩, rfl, rfl, trivial⟩
  by_cases g5 : ((W.pick how 9 : Nat) : Int) = 5
  · have b0 : W.bq (W.pick how 9) 0 = false := beqF (a := W.pick how 9) (by omega)
    have b1 : W.bq (W.pick how 9) 1 = false := beqF (a := W.pick how 9) (by omega)
    have b2 : W.bq (W.pick how 9) 2 = false := beqF (a := W.pick how 9) (by omega)
    have b3 : W.bq (W.pick how 9) 3 = false := beqF (a := W.pick how 9) (by omega)
    have b4 : W.bq (W.pick how 9) 4 = false := beqF (a := W.pick how 9) (by omega)
    have b5 : W.bq (W.pick how 9) 5 = true := by rw [show W.pick how 9 = 5 by omega]; rfl
    rw [b0, b1, b2, b3, b4, b5]
    refine (LJ_rffffft rows cols l o n l2 p q how at_ pr pc po pq ph A B nn MM G N m is_ rr cw X ro co hi rr2 cw2 ro2 co2 hi2 L Y hr hc hl hn hl2 hq hho hat h6 h9 h6b hlb hlb2 h9h hm hms hnM hMs hA hB hL1 hLl hk hn1 h12 h14 h111 g0 g1 g2 g3 g4 g5).move (Move.tab (n0 := 373) [] (by decide) (show 373 ≤ 389 by decide) (by simp) (by simp) ?_ ?_)
    · refine ⟨?_, ?_, ?_, ?_, ?_, ?_, ?_, ?_, ?_, ?_, ?_, trivial⟩
      · exact BR.ints (tabRho_low (by decide)) rfl (fun h => h) rfl
      · exact BR.ints (tabRho_low (by decide)) rfl (fun h => h) rfl
      · refine .inl ⟨3, 0, _, (tabRho_low (b := 3) (k := 0) (by decide)), rfl, rfl, fun h => h, rfl, fun j hj => ?_⟩
        show CR _ (recGet 3 (fun k_ => [.int .i64 (A k_), .int .i64 (B k_), .sl 4 k_ 0 (nn k_) 4]) j) (recGet 3 (fun k_ => [.int .i64 (A k_), .int .i64 (B k_), .sl 4 k_ 0 (nn k_) 4]) j)
        unfold recGet
        rcases (by omega : j % 3 = 0 ∨ j % 3 = 1 ∨ j % 3 = 2) with e | e | e <;> rw [e]
        · exact ⟨rfl, rfl⟩
        · exact ⟨rfl, rfl⟩
        · exact ⟨tabRho_low (by decide), rfl, rfl, rfl⟩
      · intro j k hk; injection hk with hk; subst hk
        exact BR.ig (tabRho_low (by decide)) rfl (fun h => h) rfl (fun _ _ => rfl) (fun _ _ => rfl)
      · exact BR.cells (tabRho_low (by decide)) rfl (fun h => h) ⟨⟨rfl, by first | rfl | omega⟩, ⟨rfl, by first | rfl | omega⟩, ⟨rfl, by first | rfl | omega⟩, ⟨rfl, by first | rfl | omega⟩, rfl, ⟨tabRho_low (by decide), by first | rfl | omega, by first | rfl | omega, rfl⟩, trivial⟩
      · exact BR.gen (tabRho_low (by decide)) rfl (fun h => h) rfl (fun p hp => ⟨tabRho_low (by decide), rfl, rfl, rfl⟩)
      · intro j k hk; injection hk with hk; subst hk
        exact BR.ig (tabRho_low (by decide)) rfl (fun h => h) rfl (fun _ _ => rfl) (fun _ _ => rfl)
      · exact BR.cells (tabRho_low (by decide)) rfl (fun h => h) ⟨⟨rfl, by first | rfl | omega⟩, ⟨rfl, by first | rfl | omega⟩, ⟨tabRho_low (by decide), by first | rfl | omega, by first | rfl | omega, rfl⟩, ⟨rfl, by first | rfl | omega⟩, ⟨rfl, by first | rfl | omega⟩, rfl, trivial⟩
      · refine .inl ⟨261, 0, _, (tabRho_low (b := 261) (k := 0) (by decide)), rfl, rfl, fun h => h, rfl, fun j hj => ?_⟩
        show CR _ (recGet 3 (fun k_ => [.int .i64 (W.ra L k_ : Int), .int .i64 (W.rb L k_ : Int), .sl 262 k_ 0 (W.rn L k_) 4]) j) (recGet 3 (fun k_ => [.int .i64 (W.ra L k_ : Int), .int .i64 (W.rb L k_ : Int), .sl 262 k_ 0 (W.rn L k_) 4]) j)
        unfold recGet
        rcases (by omega : j % 3 = 0 ∨ j % 3 = 1 ∨ j % 3 = 2) with e | e | e <;> rw [e]
        · exact ⟨rfl, rfl⟩
        · exact ⟨rfl, rfl⟩
        · exact ⟨tabRho_low (by decide), rfl, rfl, rfl⟩
      · intro j k hk; injection hk with hk; subst hk
        by_cases hj : j = (W.pick at_ (L.length : Int))
        · subst hj
          refine BR.ig (tabRho_low (by decide)) ((renF_upd _).trans (by rw [Nat.beq_refl]; rfl)) (fun h => h) rfl (fun p _ => ?_) (fun p _ => ?_)
          · by_cases hp : p = 3
            · subst hp; rfl
            · show W.ck p = (bif inR 3 1 p then _ else W.ck p)
              rw [inR_f (by omega)]; rfl
          · by_cases hp : p = 3
            · subst hp
              show (bif true && (Nat.beq _ _ && true) then _ else _) = _
              rw [Nat.beq_refl]; rfl
            · show (bif true && (Nat.beq _ _ && Nat.beq p 3) then _ else _) = (bif inR 3 1 p then _ else _)
              rw [inR_f (by omega), beqF hp, Bool.and_false, Bool.and_false]; rfl
        · refine BR.ig (tabRho_low (by decide)) ((renF_upd _).trans (by rw [beqF hj]; rfl)) (fun h => h) rfl (fun p _ => rfl) (fun p _ => ?_)
          show (bif true && (Nat.beq j _ && Nat.beq p 3) then _ else _) = _
          rw [beqF hj, Bool.false_and, Bool.and_false]; rfl
      · exact BR.cells (tabRho_low (by decide)) rfl (fun h => h) ⟨⟨rfl, by first | rfl | omega⟩, ⟨rfl, by first | rfl | omega⟩, ⟨rfl, by first | rfl | omega⟩, ⟨rfl, by first | rfl | omega⟩, rfl, ⟨tabRho_low (by decide), by first | rfl | omega, by first | rfl | omega, rfl⟩, trivial⟩
    · exact ⟨rfl, ⟨rfl, by first | rfl | omega⟩, rfl, ⟨rfl, by first | rfl | omega⟩, rfl, rfl, rfl, ⟨tabRho_low (by decide), by first | rfl | omega⟩, rfl, rfl, rfl, ⟨tabRho_low (by decide), by first | rfl | omega⟩, rfl, ⟨tabRho_low (by decide), by first | rfl | omega⟩, rfl, rfl, trivial⟩
  have b0 : W.bq (W.pick how 9) 0 = false := beqF (a := W.pick how 9) (by omega)
  have b1 : W.bq (W.pick how 9) 1 = false := beqF (a := W.pick how 9) (by omega)
  have b2 : W.bq (W.pick how 9) 2 = false := beqF (a := W.pick how 9) (by omega)
  have b3 : W.bq (W.pick how 9) 3 = false := beqF (a := W.pick how 9) (by omega)
  have b4 : W.bq (W.pick how 9) 4 = false := beqF (a := W.pick how 9) (by omega)
  have b5 : W.bq (W.pick how 9) 5 = false := beqF (a := W.pick how 9) (by omega)
  rw [b0, b1, b2, b3, b4, b5]
  refine (LJ_rffffff rows cols l o n l2 p q how at_ pr pc po pq ph A B nn MM G N m is_ rr cw X ro co hi rr2 cw2 ro2 co2 hi2 L Y hr hc hl hn hl2 hq hho hat h6 h9 h6b hlb hlb2 h9h hm hms hnM hMs hA hB hL1 hLl hk hn1 h12 h14 h111 g0 g1 g2 g3 g4 g5).move (Move.tab (n0 := 373) [] (by decide) (show 373 ≤ 389 by decide) (by simp) (by simp) ?_ ?_)
  · refine ⟨?_, ?_, ?_, ?_, ?_, ?_, ?_, ?_, ?_, ?_, ?_, trivial⟩
    · exact BR.ints (tabRho_low (by decide)) rfl (fun h => h) rfl
    · exact BR.ints (tabRho_low (by decide)) rfl (fun h => h) rfl
    · refine .inl ⟨3, 0, _, (tabRho_low (b := 3) (k := 0) (by decide)), rfl, rfl, fun h => h, rfl, fun j hj => ?_⟩
      show CR _ (recGet 3 (fun k_ => [.int .i64 (A k_), .int .i64 (B k_), .sl 4 k_ 0 (nn k_) 4]) j) (recGet 3 (fun k_ => [.int .i64 (A k_), .int .i64 (B k_), .sl 4 k_ 0 (nn k_) 4]) j)
      unfold recGet
      rcases (by omega : j % 3 = 0 ∨ j % 3 = 1 ∨ j % 3 = 2) with e | e | e <;> rw [e]
      · exact ⟨rfl, rfl⟩
      · exact ⟨rfl, rfl⟩
      · exact ⟨tabRho_low (by decide), rfl, rfl, rfl⟩
    · intro j k hk; injection hk with hk; subst hk
      exact BR.ig (tabRho_low (by decide)) rfl (fun h => h) rfl (fun _ _ => rfl) (fun _ _ => rfl)
    · exact BR.cells (tabRho_low (by decide)) rfl (fun h => h) ⟨⟨rfl, by first | rfl | omega⟩, ⟨rfl, by first | rfl | omega⟩, ⟨rfl, by first | rfl | omega⟩, ⟨rfl, by first | rfl | omega⟩, rfl, ⟨tabRho_low (by decide), by first | rfl | omega, by first | rfl | omega, rfl⟩, trivial⟩
    · exact BR.gen (tabRho_low (by decide)) rfl (fun h => h) rfl (fun p hp => ⟨tabRho_low (by decide), rfl, rfl, rfl⟩)
    · intro j k hk; injection hk with hk; subst hk
      exact BR.ig (tabRho_low (by decide)) rfl (fun h => h) rfl (fun _ _ => rfl) (fun _ _ => rfl)
    · exact BR.cells (tabRho_low (by decide)) rfl (fun h => h) ⟨⟨rfl, by first | rfl | omega⟩, ⟨rfl, by first | rfl | omega⟩, ⟨tabRho_low (by decide), by first | rfl | omega, by first | rfl | omega, rfl⟩, ⟨rfl, by first | rfl | omega⟩, ⟨rfl, by first | rfl | omega⟩, rfl, trivial⟩
    · refine .inl ⟨261, 0, _, (tabRho_low (b := 261) (k := 0) (by decide)), rfl, rfl, fun h => h, rfl, fun j hj => ?_⟩
      show CR _ (recGet 3 (fun k_ => [.int .i64 (W.ra L k_ : Int), .int .i64 (W.rb L k_ : Int), .sl 262 k_ 0 (W.rn L k_) 4]) j) (recGet 3 (fun k_ => [.int .i64 (W.ra L k_ : Int), .int .i64 (W.rb L k_ : Int), .sl 262 k_ 0 (W.rn L k_) 4]) j)
      unfold recGet
      rcases (by omega : j % 3 = 0 ∨ j % 3 = 1 ∨ j % 3 = 2) with e | e | e <;> rw [e]
      · exact ⟨rfl, rfl⟩
      · exact ⟨rfl, rfl⟩
      · exact ⟨tabRho_low (by decide), rfl, rfl, rfl⟩
    · intro j k hk; injection hk with hk; subst hk
      exact BR.ig (tabRho_low (by decide)) rfl (fun h => h) rfl (fun _ _ => rfl) (fun _ _ => rfl)
    · exact BR.cells (tabRho_low (by decide)) rfl (fun h => h) ⟨⟨rfl, by first | rfl | omega⟩, ⟨rfl, by first | rfl | omega⟩, ⟨rfl, by first | rfl | omega⟩, ⟨rfl, by first | rfl | omega⟩, rfl, ⟨tabRho_low (by decide), by first | rfl | omega, by first | rfl | omega, rfl⟩, trivial⟩
  · exact ⟨rfl, ⟨rfl, by first | rfl | omega⟩, rfl, ⟨rfl, by first | rfl | omega⟩, rfl, rfl, rfl, ⟨tabRho_low (by decide), by first | rfl | omega⟩, rfl, rfl, rfl, ⟨tabRho_low (by decide), by first | rfl | omega⟩, rfl, ⟨tabRho_low (by decide), by first | rfl | omega⟩, rfl, rfl, trivial⟩
end Go.Proofs.Ytohleiikedpmkaa.Vm

namespace Go.Proofs.Ytohleiikedpmkaa.Vm
open Go Go.Proofs Go.Proofs.Ytohleiikedpmkaa
set_option maxRecDepth 100000
theorem sl_z :
    PureF Try.prog 36 [(.c .nils), (.c .nils)] (.c (.bool (true))) :=
  Contract0.fr 300 [] [] [] mixed Try.func36 (by kernel_rfl) trivial
theorem rsame_z :
    PureF Try.prog 17 [(.agg [(.int .i64 0), (.int .i64 0), .nils, (.int .i64 0), (.int .i64 0), (.bool (false))]), (.agg [(.int .i64 0), (.int .i64 0), .nils, (.int .i64 0), (.int .i64 0), (.bool (false))])] (.c (.bool (true))) :=
  Contract0.fr 300 [(41, ⟨.call [] (.c (.bool (true))) [] [], none⟩)] [] [Contract Try.prog 36 [(.c .nils), (.c .nils)] [] 657 (.c (.bool (true))) [] []] mixed Try.func17 (by kernel_rfl) ⟨Contract0.in1 sl_z [] [none, none] [] [] (by kernel_rfl), trivial⟩
end Go.Proofs.Ytohleiikedpmkaa.Vm

namespace Go.Proofs.Ytohleiikedpmkaa.W
theorem pickL {n : Nat} (a : Int) (h : 0 < n) : pick a (n : Int) < n := by
  have := pick_lt (a := a) (b := (n : Int)) (by omega); omega
theorem runs_M (Y X : Nat → Nat → Int) {rr cw : Nat} (hc : cw ≤ 120) : ∀ j, rn (runs Y X cw rr) j ≤ 1048576 := fun j => by
  by_cases h : j < (runs Y X cw rr).length
  · have := (runs_120 Y X hc j h).1; omega
  · rw [rn_out (by omega)]; omega
theorem ra_out {L : Rn} {k : Nat} (h : L.length ≤ k) : ra L k = 0 ∧ rb L k = 0 := by
  unfold ra rb
  rw [List.getD_eq_getElem?_getD, List.getElem?_eq_none h]; exact ⟨rfl, rfl⟩
theorem runs_A (Y X : Nat → Nat → Int) {rr cw : Nat} (hr : rr ≤ 6) : ∀ j, -9223372036854775808 ≤ (ra (runs Y X cw rr) j : Int) ∧ (ra (runs Y X cw rr) j : Int) < 9223372036854775808 := fun j => by
  by_cases h : j < (runs Y X cw rr).length
  · have := (runs_in Y X j h).1; omega
  · rw [(ra_out (Nat.le_of_not_lt h)).1]; decide
theorem runs_B (Y X : Nat → Nat → Int) {rr cw : Nat} (hc : cw ≤ 9) : ∀ j, -9223372036854775808 ≤ (rb (runs Y X cw rr) j : Int) ∧ (rb (runs Y X cw rr) j : Int) < 9223372036854775808 := fun j => by
  by_cases h : j < (runs Y X cw rr).length
  · have := (runs_in Y X j h).2; omega
  · rw [(ra_out (Nat.le_of_not_lt h)).2]; decide
end Go.Proofs.Ytohleiikedpmkaa.W

namespace Go.Proofs.Ytohleiikedpmkaa.Vm
open Go Go.Proofs Go.Proofs.Ytohleiikedpmkaa
theorem apq (l : List Int) (l2 : List Int) (how : Int) (at_ : Int) (pr : Int) (pc : Int) (po : Int) (pq : Int) (ph : Bool) (A : Nat → Int) (B : Nat → Int) (nn : Nat → Nat) (MM : Nat → Nat) (G : Nat → Nat → Int) (N : Nat) (m : Nat) (is_ : Bool) (rr : Nat) (cw : Nat) (X : Nat → Nat → Int) (ro : Int) (co : Int) (hi : Bool) (rr2 : Nat) (cw2 : Nat) (ro2 : Int) (co2 : Int) (hi2 : Bool) (L : W.Rn) (Y : Nat → Nat → Int)
    (hho : -9223372036854775808 ≤ how ∧ how < 9223372036854775808)
    (hat : -9223372036854775808 ≤ at_ ∧ at_ < 9223372036854775808)
    (hlb : ∀ j, -9223372036854775808 ≤ List.getD l j 0 ∧ List.getD l j 0 < 9223372036854775808)
    (hlb2 : ∀ j, -9223372036854775808 ≤ List.getD l2 j 0 ∧ List.getD l2 j 0 < 9223372036854775808)
    (h9h : W.pick how 9 < 9)
    (hm : m ≤ N)
    (hms : m ≤ 1048576)
    (hnM : ∀ j, nn j ≤ MM j)
    (hMs : ∀ j, MM j ≤ 1048576)
    (hA : ∀ j, -9223372036854775808 ≤ A j ∧ A j < 9223372036854775808)
    (hB : ∀ j, -9223372036854775808 ≤ B j ∧ B j < 9223372036854775808)
    (hL1 : 0 < L.length)
    (hLl : L.length ≤ 4000)
    (hk : W.pick at_ (L.length : Int) < L.length)
    (hn1 : 1 ≤ W.rn L (W.pick at_ (L.length : Int)))
    (h12 : W.pick (IntKind.wrap IntKind.i64 (Int.tdiv at_ 9)) 12 < 12)
    (h14 : W.pick (IntKind.wrap IntKind.i64 (Int.tdiv at_ 9)) 14 < 14)
    (h111 : W.pick (IntKind.wrap IntKind.i64 (Int.tdiv at_ 9)) 1114368 < 1114368)
    : CodeOk Try.prog 137 373 (kAt (kOf Try.prog Try.f4) [true, true, true, false, true]) (LJI l 0 l2 how at_ pr pc po pq ph A B nn MM G N m is_ rr cw X ro co hi rr2 cw2 ro2 co2 hi2 L Y) .normal (LJP l 0 l2 how at_ pr pc po pq ph A B nn MM G N m is_ rr cw X ro co hi rr2 cw2 co2 hi2 L (W.tI (W.bq (W.pick how 9) 0) (W.pick at_ (L.length : Int)) (IntKind.wrap IntKind.i64 ((W.pick (IntKind.wrap IntKind.i64 (Int.tdiv at_ 9)) 12 : Int) - 2)) (fun j => (W.ra L j : Int))) (W.tI (W.bq (W.pick how 9) 1) (W.pick at_ (L.length : Int)) (IntKind.wrap IntKind.i64 ((W.pick (IntKind.wrap IntKind.i64 (Int.tdiv at_ 9)) 14 : Int) - 2)) (fun j => (W.rb L j : Int))) (W.tN (W.bq (W.pick how 9) 2) (W.pick at_ (L.length : Int)) 0 (W.rn L)) (W.tG (W.bq (W.pick how 9) 3) (W.pick at_ (L.length : Int)) 0 (IntKind.wrap IntKind.i32 (W.pick (IntKind.wrap IntKind.i64 (Int.tdiv at_ 9)) 1114368 : Int)) (W.tG (W.bq (W.pick how 9) 5) (W.pick at_ (L.length : Int)) 3 (IntKind.wrap IntKind.i64 ((W.pick (IntKind.wrap IntKind.i64 (Int.tdiv at_ 9)) 12 : Int) - 2)) (fun j p => Y (W.ra L j) (p + W.rb L j * 4)))) (W.tO (W.bq (W.pick how 9) 4) (IntKind.wrap IntKind.i64 ((W.pick (IntKind.wrap IntKind.i64 (Int.tdiv at_ 9)) 12 : Int) - 2)) ro2)) :=
  apq_piece 0 0 l 0 0 l2 0 0 how at_ pr pc po pq ph A B nn MM G N m is_ rr cw X ro co hi rr2 cw2 ro2 co2 hi2 L Y (by decide) (by decide) (Nat.zero_le _) (by decide) (Nat.zero_le _) (by decide) hho hat (W.pickL (n := 6) _ (by decide)) (W.pickL (n := 9) _ (by decide)) (W.pickL (n := 6) _ (by decide)) hlb hlb2 h9h hm hms hnM hMs hA hB hL1 hLl hk hn1 h12 h14 h111
end Go.Proofs.Ytohleiikedpmkaa.Vm

namespace Go.Proofs.Ytohleiikedpmkaa.W
structure AE where
  rows : Int
  cols : Int
  l : List Int
  o : Nat
  n : Nat
  l2 : List Int
  p : Nat
  q : Nat
  how : Int
  at_ : Int
def AE.R (e : AE) : Nat := 1 + pick e.rows 6
def AE.C (e : AE) : Nat := 1 + pick e.cols 9
def AE.a (e : AE) : Int := sRo (1 + pick e.rows 6) e.l e.o (min e.n 60)
def AE.b (e : AE) : Int := sCo (1 + pick e.cols 9) e.l e.o (min e.n 60)
def AE.h (e : AE) : Bool := sHi e.l e.o (min e.n 60)
def AE.X (e : AE) : Nat → Nat → Int := sX (1 + pick e.rows 6) (1 + pick e.cols 9) e.l e.o (min e.n 60)
def AE.r (e : AE) : Int := IntKind.wrap .i64 (e.rows + Int.tmod e.how 2)
def AE.S (e : AE) : Nat := 1 + pick (IntKind.wrap .i64 (e.rows + Int.tmod e.how 2)) 6
def AE.c (e : AE) : Int := sRo (1 + pick (IntKind.wrap .i64 (e.rows + Int.tmod e.how 2)) 6) e.l2 e.p (min e.q 60)
def AE.d (e : AE) : Int := sCo (1 + pick e.cols 9) e.l2 e.p (min e.q 60)
def AE.k (e : AE) : Bool := sHi e.l2 e.p (min e.q 60)
def AE.Y (e : AE) : Nat → Nat → Int := sX (1 + pick (IntKind.wrap .i64 (e.rows + Int.tmod e.how 2)) 6) (1 + pick e.cols 9) e.l2 e.p (min e.q 60)
noncomputable def AE.L (e : AE) : Rn := runs e.Y (frX e.R e.C e.X e.S e.C) e.C e.S
structure AE.ok (e : AE) : Prop where
  hr : -9223372036854775808 ≤ e.rows ∧ e.rows < 9223372036854775808
  hc : -9223372036854775808 ≤ e.cols ∧ e.cols < 9223372036854775808
  hl : e.o + e.n ≤ e.l.length
  hn : e.n ≤ 1048576
  hl2 : e.p + e.q ≤ e.l2.length
  hq : e.q ≤ 1048576
  hho : -9223372036854775808 ≤ e.how ∧ e.how < 9223372036854775808
  hat : -9223372036854775808 ≤ e.at_ ∧ e.at_ < 9223372036854775808
  hlb : ∀ j, -9223372036854775808 ≤ List.getD e.l j 0 ∧ List.getD e.l j 0 < 9223372036854775808
  hlb2 : ∀ j, -9223372036854775808 ≤ List.getD e.l2 j 0 ∧ List.getD e.l2 j 0 < 9223372036854775808
theorem AE.rR (e : AE) : 1 ≤ e.R ∧ e.R ≤ 6 := by have : pick e.rows 6 < 6 := pickL (n := 6) e.rows (by decide); unfold AE.R; omega
theorem AE.rS (e : AE) : 1 ≤ e.S ∧ e.S ≤ 6 := by have : pick (IntKind.wrap .i64 (e.rows + Int.tmod e.how 2)) 6 < 6 := pickL (n := 6) _ (by decide); unfold AE.S; omega
theorem AE.rC (e : AE) : 1 ≤ e.C ∧ e.C ≤ 9 := by have : pick e.cols 9 < 9 := pickL (n := 9) e.cols (by decide); unfold AE.C; omega
theorem AE.ra (e : AE) : 0 ≤ e.a ∧ e.a < (e.R : Int) := sRo_b (by omega) _
theorem AE.rb (e : AE) : 0 ≤ e.b ∧ e.b < (e.C : Int) := sCo_b (by omega) _
theorem AE.rX (e : AE) : ∀ j, j < e.R → okRow (e.X j) e.C := fun j _ => sX_ok _ j
theorem AE.L4 (e : AE) : e.L.length ≤ 4000 := runs_L _ _ (by have := e.rS; omega) (by have := e.rC; omega)
theorem AE.LM (e : AE) : ∀ j, rn e.L j ≤ 1048576 := runs_M _ _ (by have := e.rC; omega)
theorem AE.LA (e : AE) : ∀ j, -9223372036854775808 ≤ (W.ra e.L j : Int) ∧ (W.ra e.L j : Int) < 9223372036854775808 := runs_A _ _ (by have := e.rS; omega)
theorem AE.LB (e : AE) : ∀ j, -9223372036854775808 ≤ (W.rb e.L j : Int) ∧ (W.rb e.L j : Int) < 9223372036854775808 := runs_B _ _ (by have := e.rC; omega)
end Go.Proofs.Ytohleiikedpmkaa.W
namespace Go.Proofs.Ytohleiikedpmkaa.Vm
open Go Go.Proofs Go.Proofs.Ytohleiikedpmkaa
theorem scA (e : W.AE) (h : e.ok) : Contract0 Try.prog 10 [(.c (.int .i64 e.rows)), (.c (.int .i64 e.cols)), (.c (.sl 1 0 e.o e.n 1))] [(1, (.one ⟨false, false, (.ints .i64 e.l)⟩))] 2 (.agg [(.int .i64 (e.R : Int)), (.int .i64 (e.C : Int)), (.sl 2 0 0 e.R 1), (.int .i64 e.a), (.int .i64 e.b), (.bool e.h)]) [] [(2, (.one ⟨true, false, (.gen e.R (fun j_ => (.sl 3 j_ 0 e.C 4)))⟩)), (3, (.many (fun j_ => some ⟨true, true, (.ig (W.rl e.R (e.C * 4) j_) W.ck (e.X j_))⟩)))] :=
  scr_ok e.rows e.cols e.l e.o e.n h.hr h.hc h.hl h.hn (W.pickL (n := 6) _ (by decide)) (W.pickL (n := 9) _ (by decide)) h.hlb
theorem scB (e : W.AE) (h : e.ok) : Contract0 Try.prog 10 [(.c (.int .i64 (IntKind.wrap .i64 (e.rows + Int.tmod e.how 2)))), (.c (.int .i64 e.cols)), (.c (.sl 1 0 e.p e.q 1))] [(1, (.one ⟨false, false, (.ints .i64 e.l2)⟩))] 2 (.agg [(.int .i64 (e.S : Int)), (.int .i64 (e.C : Int)), (.sl 2 0 0 e.S 1), (.int .i64 e.c), (.int .i64 e.d), (.bool e.k)]) [] [(2, (.one ⟨true, false, (.gen e.S (fun j_ => (.sl 3 j_ 0 e.C 4)))⟩)), (3, (.many (fun j_ => some ⟨true, true, (.ig (W.rl e.S (e.C * 4) j_) W.ck (e.Y j_))⟩)))] :=
  scr_ok (IntKind.wrap .i64 (e.rows + Int.tmod e.how 2)) e.cols e.l2 e.p e.q (W.i64r _) h.hc h.hl2 h.hq (W.pickL (n := 6) _ (by decide)) (W.pickL (n := 9) _ (by decide)) h.hlb2
theorem rdA (e : W.AE) : Contract0 Try.prog 13 [(.agg [(.int .i64 (e.R : Int)), (.int .i64 (e.C : Int)), (.sl 1 0 0 e.R 1), (.int .i64 e.a), (.int .i64 e.b), (.bool e.h)]), (.agg [(.int .i64 (e.S : Int)), (.int .i64 (e.C : Int)), (.sl 3 0 0 e.S 1), (.int .i64 e.c), (.int .i64 e.d), (.bool e.k)])] [(1, (.one ⟨false, false, (.gen e.R (fun j_ => (.sl 2 j_ 0 e.C 4)))⟩)), (2, (.many (fun j_ => some ⟨false, false, (.ig (W.rl e.R (e.C * 4) j_) W.ck (e.X j_))⟩))), (3, (.one ⟨false, false, (.gen e.S (fun j_ => (.sl 4 j_ 0 e.C 4)))⟩)), (4, (.many (fun j_ => some ⟨false, false, (.ig (W.rl e.S (e.C * 4) j_) W.ck (e.Y j_))⟩)))] 5 (.agg [(.int .i64 (e.S : Int)), (.int .i64 (e.C : Int)), (.int .i64 e.c), (.int .i64 e.d), (.bool e.k), (.sl 5 0 0 (List.length e.L) 3)]) [] [(5, (.one ⟨true, false, (.row (List.length e.L * 3) 3 (fun j_ => [(.int .i64 (↑(W.ra e.L j_))), (.int .i64 (↑(W.rb e.L j_))), (.sl 6 j_ 0 (W.rn e.L j_) 4)]))⟩)), (6, (.many (fun j_ => some ⟨true, false, (.ig (W.rn e.L j_ * 4) W.ck (fun p_ => (e.Y (W.ra e.L j_) (p_ + W.rb e.L j_ * 4))))⟩)))] :=
  rdiff_ok e.R e.C e.X e.a e.b e.h e.S e.C e.Y e.c e.d e.k (by have := e.rS; omega) (by have := e.rC; omega)
end Go.Proofs.Ytohleiikedpmkaa.Vm

namespace Go.Proofs.Ytohleiikedpmkaa.Vm
open Go Go.Proofs Go.Proofs.Ytohleiikedpmkaa
set_option maxRecDepth 100000
noncomputable def LJzI (l : List Int) (n : Nat) (l2 : List Int) (how at_ pr pc po pq : Int) (ph : Bool) (A B : Nat → Int) (nn MM : Nat → Nat) (G : Nat → Nat → Int) (N m : Nat) (is_ : Bool) (rr cw : Nat) (X : Nat → Nat → Int) (ro co : Int) (hi : Bool) (rr2 cw2 : Nat) (ro2 co2 : Int) (hi2 : Bool) (L : W.Rn) (Y : Nat → Nat → Int) : S0 :=
  ⟨[(4, (.c (.int .i64 how))), (5, (.c (.int .i64 at_))), (7, (.c (.bool is_))), (14, (.c (.ptr 5 0 0))), (16, (.c (.bool (false)))), (17, (.c (.ptr 101 0 0))), (18, (.c (.ptr 277 0 0))), (40, (.c (.bool (false))))], [(1, (.one ⟨false, false, (.ints .i64 l)⟩)), (2, (.one ⟨false, false, (.ints .i64 l2)⟩)), (3, (.one ⟨false, false, (.row (N * 3) 3 (fun j_ => [(.int .i64 (A j_)), (.int .i64 (B j_)), (.sl 4 j_ 0 (nn j_) 4)]))⟩)), (4, (.many (fun j_ => some ⟨false, false, (.ig (MM j_ * 4) W.ck (fun p_ => (G j_ p_)))⟩))), (5, (.one ⟨true, true, (.cells [(.int .i64 pr), (.int .i64 pc), (.int .i64 po), (.int .i64 pq), (.bool ph), (.sl 3 0 0 m 3)])⟩)), (85, (.one ⟨true, false, .gen rr (fun j_ => .sl 86 j_ 0 cw 4)⟩)), (86, (.many (fun j_ => some ⟨true, true, .ig (W.rl rr (cw * 4) j_) W.ck (X j_)⟩))), (101, (.one ⟨true, true, .cells [.int .i64 (rr : Int), .int .i64 (cw : Int), .sl 85 0 0 rr 1, .int .i64 ro, .int .i64 co, .bool hi]⟩)), (261, (.one ⟨true, false, .row (L.length * 3) 3 (fun k_ => [.int .i64 (W.ra L k_ : Int), .int .i64 (W.rb L k_ : Int), .sl 262 k_ 0 (W.rn L k_) 4])⟩)), (262, (.many (fun j_ => some ⟨true, false, .ig (W.rn L j_ * 4) W.ck (fun p_ => Y (W.ra L j_) (p_ + W.rb L j_ * 4))⟩))), (277, (.one ⟨true, true, .cells [.int .i64 (rr2 : Int), .int .i64 (cw2 : Int), .int .i64 ro2, .int .i64 co2, .bool hi2, .sl 261 0 0 L.length 3]⟩))], 389⟩
theorem LJz_r (rows cols : Int) (l : List Int) (o n : Nat) (l2 : List Int) (p q : Nat) (how at_ pr pc po pq : Int) (ph : Bool) (A B : Nat → Int) (nn MM : Nat → Nat) (G : Nat → Nat → Int) (N m : Nat) (is_ : Bool) (rr cw : Nat) (X : Nat → Nat → Int) (ro co : Int) (hi : Bool) (rr2 cw2 : Nat) (ro2 co2 : Int) (hi2 : Bool) (L : W.Rn) (Y : Nat → Nat → Int)
    (hr : -9223372036854775808 ≤ rows ∧ rows < 9223372036854775808)
    (hc : -9223372036854775808 ≤ cols ∧ cols < 9223372036854775808)
    (hl : o + n ≤ l.length)
    (hn : n ≤ 1048576)
    (hl2 : p + q ≤ l2.length)
    (hq : q ≤ 1048576)
    (hho : -9223372036854775808 ≤ how ∧ how < 9223372036854775808)
    (hat : -9223372036854775808 ≤ at_ ∧ at_ < 9223372036854775808)
    (h6 : W.pick rows 6 < 6)
    (h9 : W.pick cols 9 < 9)
    (h6b : W.pick (IntKind.wrap IntKind.i64 (rows + Int.tmod how 2)) 6 < 6)
    (hlb : ∀ j, -9223372036854775808 ≤ List.getD l j 0 ∧ List.getD l j 0 < 9223372036854775808)
    (hlb2 : ∀ j, -9223372036854775808 ≤ List.getD l2 j 0 ∧ List.getD l2 j 0 < 9223372036854775808)
    (h9h : W.pick how 9 < 9)
    (hm : m ≤ N)
    (hms : m ≤ 1048576)
    (hnM : ∀ j, nn j ≤ MM j)
    (hMs : ∀ j, MM j ≤ 1048576)
    (hA : ∀ j, -9223372036854775808 ≤ A j ∧ A j < 9223372036854775808)
    (hB : ∀ j, -9223372036854775808 ≤ B j ∧ B j < 9223372036854775808)
    (hLl : L.length ≤ 4000) :
    CodeOk Try.prog 137 373 (kAt (kOf Try.prog Try.f4) [true, true, true, false, true]) (LJzI l n l2 how at_ pr pc po pq ph A B nn MM G N m is_ rr cw X ro co hi rr2 cw2 ro2 co2 hi2 L Y) .normal (LJzI l n l2 how at_ pr pc po pq ph A B nn MM G N m is_ rr cw (fun j_ p_ => X j_ p_) ro co hi rr2 cw2 ro2 co2 hi2 L Y) :=
  CodeOk.of_runs (fuel := 300) (v := ⟨[4, 5, 7, 14, 16, 17, 18, 40], [1, 2, 3, 4, 5, 85, 86, 101, 261, 262, 277], [], 389⟩) (hs := [])
    (cs := [])
    mixed (by kernel_rfl) trivial
end Go.Proofs.Ytohleiikedpmkaa.Vm

namespace Go.Proofs.Ytohleiikedpmkaa.W
def bl (n : Nat) (b : Bool) : Bool := Nat.blt 0 n && b
theorem bl_t {n : Nat} (h : 0 < n) (b : Bool) : bl n b = b := by unfold bl; rw [show Nat.blt 0 n = true from by rw [Nat.blt_eq]; exact h]; rfl
theorem bl_f {n : Nat} (h : ¬ 0 < n) (b : Bool) : bl n b = false := by unfold bl; rw [show Nat.blt 0 n = false from Bool.eq_false_iff.2 (fun e => h (by rw [Nat.blt_eq] at e; exact e))]; rfl
theorem AE.L1 (e : AE) : ∀ q, q < e.L.length → 1 ≤ rn e.L q := fun q hq => (runs_in1 _ _ q hq).1
def trA (L : Rn) (how at_ : Int) : Nat → Int := tI (bl L.length (bq (pick how 9) 0)) (pick at_ (L.length : Int)) (IntKind.wrap IntKind.i64 ((W.pick (IntKind.wrap IntKind.i64 (Int.tdiv at_ 9)) 12 : Int) - 2)) (fun j => (W.ra L j : Int))
def trB (L : Rn) (how at_ : Int) : Nat → Int := tI (bl L.length (bq (pick how 9) 1)) (pick at_ (L.length : Int)) (IntKind.wrap IntKind.i64 ((W.pick (IntKind.wrap IntKind.i64 (Int.tdiv at_ 9)) 14 : Int) - 2)) (fun j => (W.rb L j : Int))
def trN (L : Rn) (how at_ : Int) : Nat → Nat := tN (bl L.length (bq (pick how 9) 2)) (pick at_ (L.length : Int)) 0 (W.rn L)
def trG (L : Rn) (how at_ : Int) (Y : Nat → Nat → Int) : Nat → Nat → Int := tG (bl L.length (bq (pick how 9) 3)) (pick at_ (L.length : Int)) 0 (IntKind.wrap IntKind.i32 (W.pick (IntKind.wrap IntKind.i64 (Int.tdiv at_ 9)) 1114368 : Int)) (tG (bl L.length (bq (pick how 9) 5)) (pick at_ (L.length : Int)) 3 (IntKind.wrap IntKind.i64 ((W.pick (IntKind.wrap IntKind.i64 (Int.tdiv at_ 9)) 12 : Int) - 2)) (fun j p => Y (W.ra L j) (p + W.rb L j * 4)))
def trO (L : Rn) (how at_ ro : Int) : Int := tO (bl L.length (bq (pick how 9) 4)) (IntKind.wrap IntKind.i64 ((W.pick (IntKind.wrap IntKind.i64 (Int.tdiv at_ 9)) 12 : Int) - 2)) ro
theorem trA_b (e : AE) : ∀ j, -9223372036854775808 ≤ trA e.L e.how e.at_ j ∧ trA e.L e.how e.at_ j < 9223372036854775808 := tI_ib (i64r _) e.LA
theorem trB_b (e : AE) : ∀ j, -9223372036854775808 ≤ trB e.L e.how e.at_ j ∧ trB e.L e.how e.at_ j < 9223372036854775808 := tI_ib (i64r _) e.LB
theorem trN_b (e : AE) : ∀ j, trN e.L e.how e.at_ j ≤ rn e.L j := tN_le
end Go.Proofs.Ytohleiikedpmkaa.W
namespace Go.Proofs.Ytohleiikedpmkaa.Vm
open Go Go.Proofs Go.Proofs.Ytohleiikedpmkaa
noncomputable def LJE (l : List Int) (n : Nat) (l2 : List Int) (how at_ pr pc po pq : Int) (ph : Bool) (A B : Nat → Int) (nn MM : Nat → Nat) (G : Nat → Nat → Int) (N m : Nat) (is_ : Bool) (rr cw : Nat) (X : Nat → Nat → Int) (ro co : Int) (hi : Bool) (rr2 cw2 : Nat) (ro2 co2 : Int) (hi2 : Bool) (L : W.Rn) (Y : Nat → Nat → Int) : S0 :=
  ⟨[(4, (.c (.int .i64 how))), (5, (.c (.int .i64 at_))), (7, (.c (.bool is_))), (14, (.c (.ptr 5 0 0))), (16, (.c (.bool (false)))), (17, (.c (.ptr 101 0 0))), (18, (.c (.ptr 277 0 0))), (40, (.c (.bool (decide ((L.length : Int) > 0)))))], [(1, (.one ⟨false, false, (.ints .i64 l)⟩)), (2, (.one ⟨false, false, (.ints .i64 l2)⟩)), (3, (.one ⟨false, false, (.row (N * 3) 3 (fun j_ => [(.int .i64 (A j_)), (.int .i64 (B j_)), (.sl 4 j_ 0 (nn j_) 4)]))⟩)), (4, (.many (fun j_ => some ⟨false, false, (.ig (MM j_ * 4) W.ck (fun p_ => (G j_ p_)))⟩))), (5, (.one ⟨true, true, (.cells [(.int .i64 pr), (.int .i64 pc), (.int .i64 po), (.int .i64 pq), (.bool ph), (.sl 3 0 0 m 3)])⟩)), (85, (.one ⟨true, false, .gen rr (fun j_ => .sl 86 j_ 0 cw 4)⟩)), (86, (.many (fun j_ => some ⟨true, true, .ig (W.rl rr (cw * 4) j_) W.ck (X j_)⟩))), (101, (.one ⟨true, true, .cells [.int .i64 (rr : Int), .int .i64 (cw : Int), .sl 85 0 0 rr 1, .int .i64 ro, .int .i64 co, .bool hi]⟩)), (261, (.one ⟨true, false, .row (L.length * 3) 3 (fun k_ => [.int .i64 (W.ra L k_ : Int), .int .i64 (W.rb L k_ : Int), .sl 262 k_ 0 (W.rn L k_) 4])⟩)), (262, (.many (fun j_ => some ⟨true, false, .ig (W.rn L j_ * 4) W.ck (fun p_ => Y (W.ra L j_) (p_ + W.rb L j_ * 4))⟩))), (277, (.one ⟨true, true, .cells [.int .i64 (rr2 : Int), .int .i64 (cw2 : Int), .int .i64 ro2, .int .i64 co2, .bool hi2, .sl 261 0 0 L.length 3]⟩))], 389⟩
noncomputable def LJF (l : List Int) (n : Nat) (l2 : List Int) (how : Int) (at_ : Int) (pr : Int) (pc : Int) (po : Int) (pq : Int) (ph : Bool) (A : Nat → Int) (B : Nat → Int) (nn : Nat → Nat) (MM : Nat → Nat) (G : Nat → Nat → Int) (N : Nat) (m : Nat) (is_ : Bool) (rr : Nat) (cw : Nat) (X : Nat → Nat → Int) (ro : Int) (co : Int) (hi : Bool) (rr2 : Nat) (cw2 : Nat) (co2 : Int) (hi2 : Bool) (L : W.Rn) (A2 B2 : Nat → Int) (n2 : Nat → Nat) (G2 : Nat → Nat → Int) (ro3 : Int) : S0 :=
  ⟨[(4, (.c (.int .i64 how))), (5, (.c (.int .i64 at_))), (7, (.c (.bool is_))), (14, (.c (.ptr 5 0 0))), (16, (.c (.bool (false)))), (17, (.c (.ptr 101 0 0))), (18, (.c (.ptr 277 0 0))), (40, (.c (.bool (decide ((L.length : Int) > 0)))))], [(1, (.one ⟨false, false, (.ints .i64 l)⟩)), (2, (.one ⟨false, false, (.ints .i64 l2)⟩)), (3, (.one ⟨false, false, (.row (N * 3) 3 (fun j_ => [(.int .i64 (A j_)), (.int .i64 (B j_)), (.sl 4 j_ 0 (nn j_) 4)]))⟩)), (4, (.many (fun j_ => some ⟨false, false, (.ig (MM j_ * 4) W.ck (fun p_ => (G j_ p_)))⟩))), (5, (.one ⟨true, true, (.cells [(.int .i64 pr), (.int .i64 pc), (.int .i64 po), (.int .i64 pq), (.bool ph), (.sl 3 0 0 m 3)])⟩)), (85, (.one ⟨true, false, .gen rr (fun j_ => .sl 86 j_ 0 cw 4)⟩)), (86, (.many (fun j_ => some ⟨true, true, .ig (W.rl rr (cw * 4) j_) W.ck (X j_)⟩))), (101, (.one ⟨true, true, .cells [.int .i64 (rr : Int), .int .i64 (cw : Int), .sl 85 0 0 rr 1, .int .i64 ro, .int .i64 co, .bool hi]⟩)), (261, (.one ⟨true, false, .row (L.length * 3) 3 (fun k_ => [.int .i64 (A2 k_), .int .i64 (B2 k_), .sl 262 k_ 0 (n2 k_) 4])⟩)), (262, (.many (fun j_ => some ⟨true, false, .ig (W.rn L j_ * 4) W.ck (G2 j_)⟩))), (277, (.one ⟨true, true, .cells [.int .i64 (rr2 : Int), .int .i64 (cw2 : Int), .int .i64 ro3, .int .i64 co2, .bool hi2, .sl 261 0 0 L.length 3]⟩))], 389⟩
theorem apq2 (l : List Int) (l2 : List Int) (how : Int) (at_ : Int) (pr : Int) (pc : Int) (po : Int) (pq : Int) (ph : Bool) (A : Nat → Int) (B : Nat → Int) (nn : Nat → Nat) (MM : Nat → Nat) (G : Nat → Nat → Int) (N : Nat) (m : Nat) (is_ : Bool) (rr : Nat) (cw : Nat) (X : Nat → Nat → Int) (ro : Int) (co : Int) (hi : Bool) (rr2 : Nat) (cw2 : Nat) (ro2 : Int) (co2 : Int) (hi2 : Bool) (L : W.Rn) (Y : Nat → Nat → Int)
    (hho : -9223372036854775808 ≤ how ∧ how < 9223372036854775808)
    (hat : -9223372036854775808 ≤ at_ ∧ at_ < 9223372036854775808)
    (hlb : ∀ j, -9223372036854775808 ≤ List.getD l j 0 ∧ List.getD l j 0 < 9223372036854775808)
    (hlb2 : ∀ j, -9223372036854775808 ≤ List.getD l2 j 0 ∧ List.getD l2 j 0 < 9223372036854775808)
    (hm : m ≤ N)
    (hms : m ≤ 1048576)
    (hnM : ∀ j, nn j ≤ MM j)
    (hMs : ∀ j, MM j ≤ 1048576)
    (hA : ∀ j, -9223372036854775808 ≤ A j ∧ A j < 9223372036854775808)
    (hB : ∀ j, -9223372036854775808 ≤ B j ∧ B j < 9223372036854775808)
    (hLl : L.length ≤ 4000)
    (hrn : ∀ q, q < L.length → 1 ≤ W.rn L q)
    : CodeOk Try.prog 137 373 (kAt (kOf Try.prog Try.f4) [true, true, true, false, true]) (LJE l 0 l2 how at_ pr pc po pq ph A B nn MM G N m is_ rr cw X ro co hi rr2 cw2 ro2 co2 hi2 L Y) .normal (LJF l 0 l2 how at_ pr pc po pq ph A B nn MM G N m is_ rr cw X ro co hi rr2 cw2 co2 hi2 L (W.trA L how at_) (W.trB L how at_) (W.trN L how at_) (W.trG L how at_ Y) (W.trO L how at_ ro2)) := by
  by_cases h : (L.length : Int) > 0
  · have h' : 0 < L.length := by omega
    unfold W.trA W.trB W.trN W.trG W.trO
    simp only [W.bl_t h']
    unfold LJE LJF
    rw [decide_eq_true h]
    exact apq l l2 how at_ pr pc po pq ph A B nn MM G N m is_ rr cw X ro co hi rr2 cw2 ro2 co2 hi2 L Y hho hat hlb hlb2 (W.pickL (n := 9) _ (by decide)) hm hms hnM hMs hA hB h' hLl (W.pickL _ h') (hrn _ (W.pickL _ h')) (W.pickL (n := 12) _ (by decide)) (W.pickL (n := 14) _ (by decide)) (W.pickL (n := 1114368) _ (by decide))
  · have h' : ¬ 0 < L.length := by omega
    unfold W.trA W.trB W.trN W.trG W.trO
    simp only [W.bl_f h']
    unfold LJE LJF
    rw [decide_eq_false h]
    exact LJz_r 0 0 l 0 0 l2 0 0 how at_ pr pc po pq ph A B nn MM G N m is_ rr cw X ro co hi rr2 cw2 ro2 co2 hi2 L Y (by decide) (by decide) (Nat.zero_le _) (by decide) (Nat.zero_le _) (by decide) hho hat (W.pickL (n := 6) _ (by decide)) (W.pickL (n := 9) _ (by decide)) (W.pickL (n := 6) _ (by decide)) hlb hlb2 (W.pickL (n := 9) _ (by decide)) hm hms hnM hMs hA hB hLl
end Go.Proofs.Ytohleiikedpmkaa.Vm
