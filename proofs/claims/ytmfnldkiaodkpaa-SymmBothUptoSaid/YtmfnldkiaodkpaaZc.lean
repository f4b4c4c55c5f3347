/- What functions of the program come to: parts of the walk (Zc). -/
import Derived.Test.YtmfnldkiaodkpaaZb
import Derived.KernelRfl
import Derived.Test.YtmfnldkiaodkpaaProg
import Derived.Test.YtmfnldkiaodkpaaVp
set_option linter.unusedSimpArgs false
set_option linter.unusedVariables false
namespace Go.Proofs.Ytmfnldkiaodkpaa.Vm
open Go Go.Proofs Go.Proofs.Ytmfnldkiaodkpaa
set_option maxRecDepth 100000
noncomputable def LSKI (n N2 : Nat) (ln : Nat → Nat) (T : Nat → List Int) (wh : Nat → Int) (w : Nat) (x z y m : Int) : S0 :=
  ⟨[(0, (.c (.sl 1 0 0 n 2))), (3, (.c (.ptr 19 0 0))), (4, (.c (.ptr 51 0 0))), (2, (.c (.bool false))), (5, (.c (.int .i64 ((↑w : Int)))))], [(1, (.one ⟨false, false, (.row N2 2 (fun j_ => [(.int .i64 (wh j_)), (.sl 2 j_ 0 (ln j_) 1)]))⟩)), (2, (.many (fun j_ => some ⟨false, false, (.ints .u8 (T j_))⟩))), (19, (.one ⟨true, true, .cells ([.ptr 20 0 0] ++ (W.bts x).map (C.int .u8) ++ (W.bts z).map (C.int .u8))⟩)), (20, (.one ⟨true, true, .cells ((W.bts y).map (C.int .u8) ++ [.bool true, .int .u64 m])⟩)), (51, (.one ⟨true, true, .cells ([.ptr 52 0 0] ++ (W.bts x).map (C.int .u8) ++ (W.bts z).map (C.int .u8))⟩)), (52, (.one ⟨true, true, .cells ((W.bts y).map (C.int .u8) ++ [.bool true, .int .u64 m])⟩))], 259⟩
theorem LSK_rttt (n N2 : Nat) (ln : Nat → Nat) (T : Nat → List Int) (wh : Nat → Int) (w : Nat) (x z y m : Int)
    (hN : n * 2 ≤ N2)
    (hln : ∀ j, ln j ≤ (T j).length)
    (hTb : ∀ j, W.bytes (T j))
    (hTs : ∀ j, (T j).length ≤ 1048576)
    (hn : n ≤ 1048576)
    (hwh : ∀ j, -9223372036854775808 ≤ wh j ∧ wh j < 9223372036854775808)
    (hw : w ≤ 16)
    (hm : 0 ≤ m ∧ m ≤ w)
    (h2 : ((↑w : Int) < (↑n : Int)))
    (h3 : ((↑w : Int) < (16 : Int)))
    (h4 : ((↑(W.pick (wh w) (4 : Int)) : Int) = (0 : Int))) :
    CodeOk Try.prog 99 259 (kAt (kOf Try.prog Try.f13) [true, true, true, true, false, true, false, false]) (LSKI n N2 ln T wh w x z y m) .normal (LSKI n N2 ln T wh (w + 1) (W.d1 x (List.take (ln w) (T w))) z (W.d2 x (List.take (ln w) (T w))) 0) :=
  CodeOk.of_runs (fuel := 300) (v := ⟨[0, 3, 4, 2, 5], [1, 2, 19, 20, 51, 52], [], 259⟩) (hs := [(4, ⟨.auto, some (.c (.bool (true)))⟩), (7, ⟨.auto, some (.c (.bool (true)))⟩), (11, ⟨.ask, none⟩), (12, ⟨.ask, some (.agg [(.int .i64 (wh w)), (.sl 2 w 0 (ln w) 1)])⟩), (17, ⟨.call [] (.c (.int .i64 (↑(W.pick (wh w) 4)))) [] [], none⟩), (19, ⟨.auto, some (.c (.bool (true)))⟩), (24, ⟨.call [19, 2, 20] (.tup []) [] [(19, (.one ⟨true, true, (.cells ([(.ptr 20 0 0)] ++ ((W.bts (W.d1 x (List.take (ln w) (T w)))).map (C.int .u8)) ++ ((W.bts z).map (C.int .u8))))⟩)), (20, (.one ⟨true, true, (.cells (((W.bts (W.d2 x (List.take (ln w) (T w)))).map (C.int .u8)) ++ [(.bool (true)), (.int .u64 0)]))⟩))], none⟩), (28, ⟨.call [51, 2, 52] (.tup []) [] [(51, (.one ⟨true, true, (.cells ([(.ptr 52 0 0)] ++ ((W.bts (W.d1 x (List.take (ln w) (T w)))).map (C.int .u8)) ++ ((W.bts z).map (C.int .u8))))⟩)), (52, (.one ⟨true, true, (.cells (((W.bts (W.d2 x (List.take (ln w) (T w)))).map (C.int .u8)) ++ [(.bool (true)), (.int .u64 0)]))⟩))], none⟩), (30, ⟨.call [19, 20] (.aggi .u8 (W.bts z)) [] [], none⟩), (32, ⟨.call [51, 52] (.aggi .u8 (W.bts z)) [] [], none⟩), (33, ⟨.auto, some (.c (.bool (false)))⟩), (36, ⟨.call [19, 20] (.aggi .u8 (W.bts (W.d1 x (List.take (ln w) (T w))))) [] [], none⟩), (38, ⟨.call [51, 52] (.aggi .u8 (W.bts (W.d1 x (List.take (ln w) (T w))))) [] [], none⟩), (39, ⟨.auto, some (.c (.bool (false)))⟩), (43, ⟨.auto, some (.c (.int .i64 (↑(w + 1))))⟩)])
    (cs := [EI .i64 (IntKind.wrap IntKind.i64 ((↑w : Int) + 1)) ((↑(w + 1) : Int)),
      EB (!W.bts (W.d1 x (List.take (ln w) (T w))) == W.bts (W.d1 x (List.take (ln w) (T w)))) false,
      Contract Try.prog 24 [(.c (.ptr 51 0 0))] [(51, (.one ⟨true, true, (.cells ([(.ptr 52 0 0)] ++ ((W.bts (W.d1 x (List.take (ln w) (T w)))).map (C.int .u8)) ++ ((W.bts z).map (C.int .u8))))⟩)), (52, (.one ⟨true, true, (.cells (((W.bts (W.d2 x (List.take (ln w) (T w)))).map (C.int .u8)) ++ [(.bool (true)), (.int .u64 0)]))⟩))] 835 (.aggi .u8 (W.bts (W.d1 x (List.take (ln w) (T w))))) [] [],
      Contract Try.prog 24 [(.c (.ptr 19 0 0))] [(19, (.one ⟨true, true, (.cells ([(.ptr 20 0 0)] ++ ((W.bts (W.d1 x (List.take (ln w) (T w)))).map (C.int .u8)) ++ ((W.bts z).map (C.int .u8))))⟩)), (20, (.one ⟨true, true, (.cells (((W.bts (W.d2 x (List.take (ln w) (T w)))).map (C.int .u8)) ++ [(.bool (true)), (.int .u64 0)]))⟩))] 803 (.aggi .u8 (W.bts (W.d1 x (List.take (ln w) (T w))))) [] [],
      EB (!W.bts z == W.bts z) false,
      Contract Try.prog 23 [(.c (.ptr 51 0 0))] [(51, (.one ⟨true, true, (.cells ([(.ptr 52 0 0)] ++ ((W.bts (W.d1 x (List.take (ln w) (T w)))).map (C.int .u8)) ++ ((W.bts z).map (C.int .u8))))⟩)), (52, (.one ⟨true, true, (.cells (((W.bts (W.d2 x (List.take (ln w) (T w)))).map (C.int .u8)) ++ [(.bool (true)), (.int .u64 0)]))⟩))] 739 (.aggi .u8 (W.bts z)) [] [],
      Contract Try.prog 23 [(.c (.ptr 19 0 0))] [(19, (.one ⟨true, true, (.cells ([(.ptr 20 0 0)] ++ ((W.bts (W.d1 x (List.take (ln w) (T w)))).map (C.int .u8)) ++ ((W.bts z).map (C.int .u8))))⟩)), (20, (.one ⟨true, true, (.cells (((W.bts (W.d2 x (List.take (ln w) (T w)))).map (C.int .u8)) ++ [(.bool (true)), (.int .u64 0)]))⟩))] 707 (.aggi .u8 (W.bts z)) [] [],
      Contract Try.prog 53 [(.c (.ptr 51 0 0)), (.c (.sl 2 w 0 (ln w) 1))] [(51, (.one ⟨true, true, (.cells ([(.ptr 52 0 0)] ++ ((W.bts x).map (C.int .u8)) ++ ((W.bts z).map (C.int .u8))))⟩)), (2, (.many (fun j_ => some ⟨false, false, (.ints .u8 (T j_))⟩))), (52, (.one ⟨true, true, (.cells ((W.bts y).map (C.int .u8) ++ [(.bool (true)), (.int .u64 m)]))⟩))] 675 (.tup []) [] [(51, (.one ⟨true, true, (.cells ([(.ptr 52 0 0)] ++ ((W.bts (W.d1 x (List.take (ln w) (T w)))).map (C.int .u8)) ++ ((W.bts z).map (C.int .u8))))⟩)), (52, (.one ⟨true, true, (.cells (((W.bts (W.d2 x (List.take (ln w) (T w)))).map (C.int .u8)) ++ [(.bool (true)), (.int .u64 0)]))⟩))],
      Contract Try.prog 53 [(.c (.ptr 19 0 0)), (.c (.sl 2 w 0 (ln w) 1))] [(19, (.one ⟨true, true, (.cells ([(.ptr 20 0 0)] ++ ((W.bts x).map (C.int .u8)) ++ ((W.bts z).map (C.int .u8))))⟩)), (2, (.many (fun j_ => some ⟨false, false, (.ints .u8 (T j_))⟩))), (20, (.one ⟨true, true, (.cells ((W.bts y).map (C.int .u8) ++ [(.bool (true)), (.int .u64 m)]))⟩))] 611 (.tup []) [] [(19, (.one ⟨true, true, (.cells ([(.ptr 20 0 0)] ++ ((W.bts (W.d1 x (List.take (ln w) (T w)))).map (C.int .u8)) ++ ((W.bts z).map (C.int .u8))))⟩)), (20, (.one ⟨true, true, (.cells (((W.bts (W.d2 x (List.take (ln w) (T w)))).map (C.int .u8)) ++ [(.bool (true)), (.int .u64 0)]))⟩))],
      EB ((↑(W.pick (wh w) 4) : Int) == 0) true,
      Contract Try.prog 15 [(.c (.int .i64 (wh w))), (.c (.int .i64 4))] [] 515 (.c (.int .i64 (↑(W.pick (wh w) 4)))) [] [],
      ((.agg ((List.range 2).map (fun j_ => recGet 2 (fun j_ => [(.int .i64 (wh j_)), (.sl 2 j_ 0 (ln j_) 1)]) (w * 2 + j_)))) : V) = (.agg [(.int .i64 (wh w)), (.sl 2 w 0 (ln w) 1)]),
      (w * (2 : Nat) + (2 : Nat) ≤ N2),
      ((0 : Int) ≤ (↑w : Int) ∧ (↑w : Int) < (↑n : Int)),
      EB (decide ((↑w : Int) < 16)) true,
      EB (decide ((↑w : Int) < (↑n : Int))) true])
    mixed (by kernel_rfl) ⟨.mk (by simp only [addO_eq, mulE_eq, mulE_one, Int.toNat_natCast, IntKind.wrap_i64, mmin, mmax]; omega), .mk (not_f (by simp)), Contract0.in1 (ychain (W.d1 x (List.take (ln w) (T w))) z (W.d2 x (List.take (ln w) (T w))) 0 true) [.b 51 1 true [], .b 52 2 true []] [none] [] [] (by kernel_rfl), Contract0.in1 (ychain (W.d1 x (List.take (ln w) (T w))) z (W.d2 x (List.take (ln w) (T w))) 0 true) [.b 19 1 true [], .b 20 2 true []] [none] [] [] (by kernel_rfl), .mk (not_f (by simp)), Contract0.in1 (yhash (W.d1 x (List.take (ln w) (T w))) z (W.d2 x (List.take (ln w) (T w))) 0 true) [.b 51 1 true [], .b 52 2 true []] [none] [] [] (by kernel_rfl), Contract0.in1 (yhash (W.d1 x (List.take (ln w) (T w))) z (W.d2 x (List.take (ln w) (T w))) 0 true) [.b 19 1 true [], .b 20 2 true []] [none] [] [] (by kernel_rfl), ContractN.fin (ContractN.fam (k := .u8) (l := (T w)) (ex := false) (args1 := [(.c (.ptr 51 0 0)), (.c (.sl 690 0 0 (ln w) 1))]) 690 2 w (Contract0.instN (ymixkey true x z y m true (T w) 0 (ln w) (by rw [Nat.zero_add]; exact hln _) (by exact Nat.le_trans (Nat.le_trans (hln _) (hTs _)) (by decide))) [.b 51 1 false [], .b 52 2 false [], .b 690 3 true []] [none, none] [] [] (by kernel_rfl) (by kernel_rfl) (by kernel_rfl) (by kernel_rfl) (by kernel_rfl)) (by kernel_rfl) (by kernel_rfl) (by kernel_rfl) (by kernel_rfl) (by kernel_rfl) (by kernel_rfl)) (by kernel_rfl), ContractN.fin (ContractN.fam (k := .u8) (l := (T w)) (ex := false) (args1 := [(.c (.ptr 19 0 0)), (.c (.sl 626 0 0 (ln w) 1))]) 626 2 w (Contract0.instN (ymixkey true x z y m true (T w) 0 (ln w) (by rw [Nat.zero_add]; exact hln _) (by exact Nat.le_trans (Nat.le_trans (hln _) (hTs _)) (by decide))) [.b 19 1 false [], .b 20 2 false [], .b 626 3 true []] [none, none] [] [] (by kernel_rfl) (by kernel_rfl) (by kernel_rfl) (by kernel_rfl) (by kernel_rfl)) (by kernel_rfl) (by kernel_rfl) (by kernel_rfl) (by kernel_rfl) (by kernel_rfl) (by kernel_rfl)) (by kernel_rfl), .mk (beq_t h4), Contract0.in1 (pick_ok (wh w) 4 (by exact hwh _) (by omega)) [] [none, none] [] [] (by kernel_rfl), EV.recs rfl, (by omega), (by omega), .mk (decide_eq_true h3), .mk (decide_eq_true h2), trivial⟩
theorem LSK_rttft (n N2 : Nat) (ln : Nat → Nat) (T : Nat → List Int) (wh : Nat → Int) (w : Nat) (x z y m : Int)
    (hN : n * 2 ≤ N2)
    (hln : ∀ j, ln j ≤ (T j).length)
    (hTb : ∀ j, W.bytes (T j))
    (hTs : ∀ j, (T j).length ≤ 1048576)
    (hn : n ≤ 1048576)
    (hwh : ∀ j, -9223372036854775808 ≤ wh j ∧ wh j < 9223372036854775808)
    (hw : w ≤ 16)
    (hm : 0 ≤ m ∧ m ≤ w)
    (h2 : ((↑w : Int) < (↑n : Int)))
    (h3 : ((↑w : Int) < (16 : Int)))
    (h4 : (¬(↑(W.pick (wh w) (4 : Int)) : Int) = (0 : Int)))
    (h5 : ((↑(W.pick (wh w) (4 : Int)) : Int) = (1 : Int))) :
    CodeOk Try.prog 99 259 (kAt (kOf Try.prog Try.f13) [true, true, true, true, false, true, false, false]) (LSKI n N2 ln T wh w x z y m) .normal (LSKI n N2 ln T wh (w + 1) x (W.mx z (List.take (ln w) (T w))) y m) :=
  CodeOk.of_runs (fuel := 300) (v := ⟨[0, 3, 4, 2, 5], [1, 2, 19, 20, 51, 52], [], 259⟩) (hs := [(4, ⟨.auto, some (.c (.bool (true)))⟩), (7, ⟨.auto, some (.c (.bool (true)))⟩), (11, ⟨.ask, none⟩), (12, ⟨.ask, some (.agg [(.int .i64 (wh w)), (.sl 2 w 0 (ln w) 1)])⟩), (17, ⟨.call [] (.c (.int .i64 (↑(W.pick (wh w) 4)))) [] [], none⟩), (19, ⟨.auto, some (.c (.bool (false)))⟩), (22, ⟨.auto, some (.c (.bool (true)))⟩), (27, ⟨.call [19, 2, 20] (.tup []) [] [(19, (.one ⟨true, true, (.cells ([(.ptr 20 0 0)] ++ ((W.bts x).map (C.int .u8)) ++ ((W.bts (W.mx z (List.take (ln w) (T w)))).map (C.int .u8))))⟩)), (20, (.one ⟨true, true, (.cells ((W.bts y).map (C.int .u8) ++ [(.bool (true)), (.int .u64 m)]))⟩))], none⟩), (31, ⟨.call [51, 2, 52] (.tup []) [] [(51, (.one ⟨true, true, (.cells ([(.ptr 52 0 0)] ++ ((W.bts x).map (C.int .u8)) ++ ((W.bts (W.mx z (List.take (ln w) (T w)))).map (C.int .u8))))⟩)), (52, (.one ⟨true, true, (.cells ((W.bts y).map (C.int .u8) ++ [(.bool (true)), (.int .u64 m)]))⟩))], none⟩), (33, ⟨.call [19, 20] (.aggi .u8 (W.bts (W.mx z (List.take (ln w) (T w))))) [] [], none⟩), (35, ⟨.call [51, 52] (.aggi .u8 (W.bts (W.mx z (List.take (ln w) (T w))))) [] [], none⟩), (36, ⟨.auto, some (.c (.bool (false)))⟩), (39, ⟨.call [19, 20] (.aggi .u8 (W.bts x)) [] [], none⟩), (41, ⟨.call [51, 52] (.aggi .u8 (W.bts x)) [] [], none⟩), (42, ⟨.auto, some (.c (.bool (false)))⟩), (46, ⟨.auto, some (.c (.int .i64 (↑(w + 1))))⟩)])
    (cs := [EI .i64 (IntKind.wrap IntKind.i64 ((↑w : Int) + 1)) ((↑(w + 1) : Int)),
      EB (!W.bts x == W.bts x) false,
      Contract Try.prog 24 [(.c (.ptr 51 0 0))] [(51, (.one ⟨true, true, (.cells ([(.ptr 52 0 0)] ++ ((W.bts x).map (C.int .u8)) ++ ((W.bts (W.mx z (List.take (ln w) (T w)))).map (C.int .u8))))⟩)), (52, (.one ⟨true, true, (.cells ((W.bts y).map (C.int .u8) ++ [(.bool (true)), (.int .u64 m)]))⟩))] 867 (.aggi .u8 (W.bts x)) [] [],
      Contract Try.prog 24 [(.c (.ptr 19 0 0))] [(19, (.one ⟨true, true, (.cells ([(.ptr 20 0 0)] ++ ((W.bts x).map (C.int .u8)) ++ ((W.bts (W.mx z (List.take (ln w) (T w)))).map (C.int .u8))))⟩)), (20, (.one ⟨true, true, (.cells ((W.bts y).map (C.int .u8) ++ [(.bool (true)), (.int .u64 m)]))⟩))] 835 (.aggi .u8 (W.bts x)) [] [],
      EB (!W.bts (W.mx z (List.take (ln w) (T w))) == W.bts (W.mx z (List.take (ln w) (T w)))) false,
      Contract Try.prog 23 [(.c (.ptr 51 0 0))] [(51, (.one ⟨true, true, (.cells ([(.ptr 52 0 0)] ++ ((W.bts x).map (C.int .u8)) ++ ((W.bts (W.mx z (List.take (ln w) (T w)))).map (C.int .u8))))⟩)), (52, (.one ⟨true, true, (.cells ((W.bts y).map (C.int .u8) ++ [(.bool (true)), (.int .u64 m)]))⟩))] 771 (.aggi .u8 (W.bts (W.mx z (List.take (ln w) (T w))))) [] [],
      Contract Try.prog 23 [(.c (.ptr 19 0 0))] [(19, (.one ⟨true, true, (.cells ([(.ptr 20 0 0)] ++ ((W.bts x).map (C.int .u8)) ++ ((W.bts (W.mx z (List.take (ln w) (T w)))).map (C.int .u8))))⟩)), (20, (.one ⟨true, true, (.cells ((W.bts y).map (C.int .u8) ++ [(.bool (true)), (.int .u64 m)]))⟩))] 739 (.aggi .u8 (W.bts (W.mx z (List.take (ln w) (T w))))) [] [],
      Contract Try.prog 25 [(.c (.ptr 51 0 0)), (.c (.sl 2 w 0 (ln w) 1))] [(51, (.one ⟨true, true, (.cells ([(.ptr 52 0 0)] ++ ((W.bts x).map (C.int .u8)) ++ ((W.bts z).map (C.int .u8))))⟩)), (2, (.many (fun j_ => some ⟨false, false, (.ints .u8 (T j_))⟩))), (52, (.one ⟨true, true, (.cells ((W.bts y).map (C.int .u8) ++ [(.bool (true)), (.int .u64 m)]))⟩))] 707 (.tup []) [] [(51, (.one ⟨true, true, (.cells ([(.ptr 52 0 0)] ++ ((W.bts x).map (C.int .u8)) ++ ((W.bts (W.mx z (List.take (ln w) (T w)))).map (C.int .u8))))⟩)), (52, (.one ⟨true, true, (.cells ((W.bts y).map (C.int .u8) ++ [(.bool (true)), (.int .u64 m)]))⟩))],
      Contract Try.prog 25 [(.c (.ptr 19 0 0)), (.c (.sl 2 w 0 (ln w) 1))] [(19, (.one ⟨true, true, (.cells ([(.ptr 20 0 0)] ++ ((W.bts x).map (C.int .u8)) ++ ((W.bts z).map (C.int .u8))))⟩)), (2, (.many (fun j_ => some ⟨false, false, (.ints .u8 (T j_))⟩))), (20, (.one ⟨true, true, (.cells ((W.bts y).map (C.int .u8) ++ [(.bool (true)), (.int .u64 m)]))⟩))] 643 (.tup []) [] [(19, (.one ⟨true, true, (.cells ([(.ptr 20 0 0)] ++ ((W.bts x).map (C.int .u8)) ++ ((W.bts (W.mx z (List.take (ln w) (T w)))).map (C.int .u8))))⟩)), (20, (.one ⟨true, true, (.cells ((W.bts y).map (C.int .u8) ++ [(.bool (true)), (.int .u64 m)]))⟩))],
      EB ((↑(W.pick (wh w) 4) : Int) == 1) true,
      EB ((↑(W.pick (wh w) 4) : Int) == 0) false,
      Contract Try.prog 15 [(.c (.int .i64 (wh w))), (.c (.int .i64 4))] [] 515 (.c (.int .i64 (↑(W.pick (wh w) 4)))) [] [],
      ((.agg ((List.range 2).map (fun j_ => recGet 2 (fun j_ => [(.int .i64 (wh j_)), (.sl 2 j_ 0 (ln j_) 1)]) (w * 2 + j_)))) : V) = (.agg [(.int .i64 (wh w)), (.sl 2 w 0 (ln w) 1)]),
      (w * (2 : Nat) + (2 : Nat) ≤ N2),
      ((0 : Int) ≤ (↑w : Int) ∧ (↑w : Int) < (↑n : Int)),
      EB (decide ((↑w : Int) < 16)) true,
      EB (decide ((↑w : Int) < (↑n : Int))) true])
    mixed (by kernel_rfl) ⟨.mk (by simp only [addO_eq, mulE_eq, mulE_one, Int.toNat_natCast, IntKind.wrap_i64, mmin, mmax]; omega), .mk (not_f (by simp)), Contract0.in1 (ychain x (W.mx z (List.take (ln w) (T w))) y m true) [.b 51 1 true [], .b 52 2 true []] [none] [] [] (by kernel_rfl), Contract0.in1 (ychain x (W.mx z (List.take (ln w) (T w))) y m true) [.b 19 1 true [], .b 20 2 true []] [none] [] [] (by kernel_rfl), .mk (not_f (by simp)), Contract0.in1 (yhash x (W.mx z (List.take (ln w) (T w))) y m true) [.b 51 1 true [], .b 52 2 true []] [none] [] [] (by kernel_rfl), Contract0.in1 (yhash x (W.mx z (List.take (ln w) (T w))) y m true) [.b 19 1 true [], .b 20 2 true []] [none] [] [] (by kernel_rfl), ContractN.fin (ContractN.fam (k := .u8) (l := (T w)) (ex := false) (args1 := [(.c (.ptr 51 0 0)), (.c (.sl 722 0 0 (ln w) 1))]) 722 2 w (Contract0.instN (ymix_ok true x z y m true (T w) 0 (ln w) (by rw [Nat.zero_add]; exact hln _) (by exact Nat.le_trans (Nat.le_trans (hln _) (hTs _)) (by decide))) [.b 51 1 false [], .b 52 2 false [], .b 722 3 true []] [none, none] [] [] (by kernel_rfl) (by kernel_rfl) (by kernel_rfl) (by kernel_rfl) (by kernel_rfl)) (by kernel_rfl) (by kernel_rfl) (by kernel_rfl) (by kernel_rfl) (by kernel_rfl) (by kernel_rfl)) (by kernel_rfl), ContractN.fin (ContractN.fam (k := .u8) (l := (T w)) (ex := false) (args1 := [(.c (.ptr 19 0 0)), (.c (.sl 658 0 0 (ln w) 1))]) 658 2 w (Contract0.instN (ymix_ok true x z y m true (T w) 0 (ln w) (by rw [Nat.zero_add]; exact hln _) (by exact Nat.le_trans (Nat.le_trans (hln _) (hTs _)) (by decide))) [.b 19 1 false [], .b 20 2 false [], .b 658 3 true []] [none, none] [] [] (by kernel_rfl) (by kernel_rfl) (by kernel_rfl) (by kernel_rfl) (by kernel_rfl)) (by kernel_rfl) (by kernel_rfl) (by kernel_rfl) (by kernel_rfl) (by kernel_rfl) (by kernel_rfl)) (by kernel_rfl), .mk (beq_t h5), .mk (beq_f h4), Contract0.in1 (pick_ok (wh w) 4 (by exact hwh _) (by omega)) [] [none, none] [] [] (by kernel_rfl), EV.recs rfl, (by omega), (by omega), .mk (decide_eq_true h3), .mk (decide_eq_true h2), trivial⟩
theorem LSK_rttff (n N2 : Nat) (ln : Nat → Nat) (T : Nat → List Int) (wh : Nat → Int) (w : Nat) (x z y m : Int)
    (hN : n * 2 ≤ N2)
    (hln : ∀ j, ln j ≤ (T j).length)
    (hTb : ∀ j, W.bytes (T j))
    (hTs : ∀ j, (T j).length ≤ 1048576)
    (hn : n ≤ 1048576)
    (hwh : ∀ j, -9223372036854775808 ≤ wh j ∧ wh j < 9223372036854775808)
    (hw : w ≤ 16)
    (hm : 0 ≤ m ∧ m ≤ w)
    (h2 : ((↑w : Int) < (↑n : Int)))
    (h3 : ((↑w : Int) < (16 : Int)))
    (h4 : (¬(↑(W.pick (wh w) (4 : Int)) : Int) = (0 : Int)))
    (h5 : (¬(↑(W.pick (wh w) (4 : Int)) : Int) = (1 : Int)))
    (c6 : ((0 : Nat) + ln w ≤ List.length (List.take (ln w) (T w)))) :
    CodeOk Try.prog 99 259 (kAt (kOf Try.prog Try.f13) [true, true, true, true, false, true, false, false]) (LSKI n N2 ln T wh w x z y m) .normal (LSKI n N2 ln T wh (w + 1) x (W.mx z (W.box (W.bts y) (W.nonce m) (W.bts z) (List.take (ln w) (T w)))) y (m + 1)) :=
  CodeOk.of_runs (fuel := 300) (v := ⟨[0, 3, 4, 2, 5], [1, 2, 19, 20, 51, 52], [], 259⟩) (hs := [(4, ⟨.auto, some (.c (.bool (true)))⟩), (7, ⟨.auto, some (.c (.bool (true)))⟩), (11, ⟨.ask, none⟩), (12, ⟨.ask, some (.agg [(.int .i64 (wh w)), (.sl 2 w 0 (ln w) 1)])⟩), (17, ⟨.call [] (.c (.int .i64 (↑(W.pick (wh w) 4)))) [] [], none⟩), (19, ⟨.auto, some (.c (.bool (false)))⟩), (22, ⟨.auto, some (.c (.bool (false)))⟩), (27, ⟨.call [19, 2, 20] (.tup [(.c (.sl 643 0 0 (ln w + 16) 1)), (.c (.int .i64 0))]) [] [(19, (.one ⟨true, true, (.cells ([(.ptr 20 0 0)] ++ ((W.bts x).map (C.int .u8)) ++ ((W.bts (W.mx z (W.box (W.bts y) (W.nonce m) (W.bts z) (List.take (ln w) (T w))))).map (C.int .u8))))⟩)), (20, (.one ⟨true, true, (.cells ((W.bts y).map (C.int .u8) ++ [(.bool (true)), (.int .u64 (m + 1))]))⟩)), (643, (.one ⟨true, false, (.ints .u8 (W.box (W.bts y) (W.nonce m) (W.bts z) (List.take (ln w) (T w))))⟩))], none⟩), (35, ⟨.call [51, 643, 52] (.tup [(.c (.sl 771 0 0 (ln w) 1)), (.c (.int .i64 0))]) [] [(51, (.one ⟨true, true, (.cells ([(.ptr 52 0 0)] ++ ((W.bts x).map (C.int .u8)) ++ ((W.bts (W.mx z (W.box (W.bts y) (W.nonce m) (W.bts z) (List.take (ln w) (T w))))).map (C.int .u8))))⟩)), (52, (.one ⟨true, true, (.cells ((W.bts y).map (C.int .u8) ++ [(.bool (true)), (.int .u64 (m + 1))]))⟩)), (771, (.one ⟨true, false, (.ints .u8 (List.take (ln w) (T w)))⟩))], none⟩), (49, ⟨.ask, none⟩), (52, ⟨.ask, none⟩), (53, ⟨.ask, some (.c (.bool (false)))⟩), (57, ⟨.call [19, 20] (.aggi .u8 (W.bts (W.mx z (W.box (W.bts y) (W.nonce m) (W.bts z) (List.take (ln w) (T w)))))) [] [], none⟩), (59, ⟨.call [51, 52] (.aggi .u8 (W.bts (W.mx z (W.box (W.bts y) (W.nonce m) (W.bts z) (List.take (ln w) (T w)))))) [] [], none⟩), (60, ⟨.auto, some (.c (.bool (false)))⟩), (63, ⟨.call [19, 20] (.aggi .u8 (W.bts x)) [] [], none⟩), (65, ⟨.call [51, 52] (.aggi .u8 (W.bts x)) [] [], none⟩), (66, ⟨.auto, some (.c (.bool (false)))⟩), (70, ⟨.auto, some (.c (.int .i64 (↑(w + 1))))⟩)])
    (cs := [EI .i64 (IntKind.wrap IntKind.i64 ((↑w : Int) + 1)) ((↑(w + 1) : Int)),
      EB (!W.bts x == W.bts x) false,
      Contract Try.prog 24 [(.c (.ptr 51 0 0))] [(51, (.one ⟨true, true, (.cells ([(.ptr 52 0 0)] ++ ((W.bts x).map (C.int .u8)) ++ ((W.bts (W.mx z (W.box (W.bts y) (W.nonce m) (W.bts z) (List.take (ln w) (T w))))).map (C.int .u8))))⟩)), (52, (.one ⟨true, true, (.cells ((W.bts y).map (C.int .u8) ++ [(.bool (true)), (.int .u64 (m + 1))]))⟩))] 1235 (.aggi .u8 (W.bts x)) [] [],
      Contract Try.prog 24 [(.c (.ptr 19 0 0))] [(19, (.one ⟨true, true, (.cells ([(.ptr 20 0 0)] ++ ((W.bts x).map (C.int .u8)) ++ ((W.bts (W.mx z (W.box (W.bts y) (W.nonce m) (W.bts z) (List.take (ln w) (T w))))).map (C.int .u8))))⟩)), (20, (.one ⟨true, true, (.cells ((W.bts y).map (C.int .u8) ++ [(.bool (true)), (.int .u64 (m + 1))]))⟩))] 1203 (.aggi .u8 (W.bts x)) [] [],
      EB (!W.bts (W.mx z (W.box (W.bts y) (W.nonce m) (W.bts z) (List.take (ln w) (T w)))) == W.bts (W.mx z (W.box (W.bts y) (W.nonce m) (W.bts z) (List.take (ln w) (T w))))) false,
      Contract Try.prog 23 [(.c (.ptr 51 0 0))] [(51, (.one ⟨true, true, (.cells ([(.ptr 52 0 0)] ++ ((W.bts x).map (C.int .u8)) ++ ((W.bts (W.mx z (W.box (W.bts y) (W.nonce m) (W.bts z) (List.take (ln w) (T w))))).map (C.int .u8))))⟩)), (52, (.one ⟨true, true, (.cells ((W.bts y).map (C.int .u8) ++ [(.bool (true)), (.int .u64 (m + 1))]))⟩))] 1139 (.aggi .u8 (W.bts (W.mx z (W.box (W.bts y) (W.nonce m) (W.bts z) (List.take (ln w) (T w)))))) [] [],
      Contract Try.prog 23 [(.c (.ptr 19 0 0))] [(19, (.one ⟨true, true, (.cells ([(.ptr 20 0 0)] ++ ((W.bts x).map (C.int .u8)) ++ ((W.bts (W.mx z (W.box (W.bts y) (W.nonce m) (W.bts z) (List.take (ln w) (T w))))).map (C.int .u8))))⟩)), (20, (.one ⟨true, true, (.cells ((W.bts y).map (C.int .u8) ++ [(.bool (true)), (.int .u64 (m + 1))]))⟩))] 1107 (.aggi .u8 (W.bts (W.mx z (W.box (W.bts y) (W.nonce m) (W.bts z) (List.take (ln w) (T w)))))) [] [],
      EB (!ByteArray.toList { data := List.toArray (List.map (fun n => UInt8.ofNat (Int.toNat n)) (List.take (ln w) (List.drop 0 (List.take (ln w) (T w))))) } == ByteArray.toList { data := List.toArray (List.map (fun n => UInt8.ofNat (Int.toNat n)) (List.take (ln w) (List.drop 0 (T w)))) }) false,
      ((0 : Nat) + ln w ≤ List.length (T w)),
      ((0 : Nat) + ln w ≤ List.length (List.take (ln w) (T w))),
      Contract Try.prog 54 [(.c (.ptr 51 0 0)), (.c (.sl 643 0 0 (ln w + 16) 1))] [(51, (.one ⟨true, true, (.cells ([(.ptr 52 0 0)] ++ ((W.bts x).map (C.int .u8)) ++ ((W.bts z).map (C.int .u8))))⟩)), (643, (.one ⟨true, false, (.ints .u8 (W.box (W.bts y) (W.nonce m) (W.bts z) (List.take (ln w) (T w))))⟩)), (52, (.one ⟨true, true, (.cells ((W.bts y).map (C.int .u8) ++ [(.bool (true)), (.int .u64 m)]))⟩))] 771 (.tup [(.c (.sl 771 0 0 (ln w) 1)), (.c (.int .i64 0))]) [] [(51, (.one ⟨true, true, (.cells ([(.ptr 52 0 0)] ++ ((W.bts x).map (C.int .u8)) ++ ((W.bts (W.mx z (W.box (W.bts y) (W.nonce m) (W.bts z) (List.take (ln w) (T w))))).map (C.int .u8))))⟩)), (52, (.one ⟨true, true, (.cells ((W.bts y).map (C.int .u8) ++ [(.bool (true)), (.int .u64 (m + 1))]))⟩)), (771, (.one ⟨true, false, (.ints .u8 (List.take (ln w) (T w)))⟩))],
      Contract Try.prog 51 [(.c (.ptr 19 0 0)), (.c (.sl 2 w 0 (ln w) 1))] [(19, (.one ⟨true, true, (.cells ([(.ptr 20 0 0)] ++ ((W.bts x).map (C.int .u8)) ++ ((W.bts z).map (C.int .u8))))⟩)), (2, (.many (fun j_ => some ⟨false, false, (.ints .u8 (T j_))⟩))), (20, (.one ⟨true, true, (.cells ((W.bts y).map (C.int .u8) ++ [(.bool (true)), (.int .u64 m)]))⟩))] 643 (.tup [(.c (.sl 643 0 0 (ln w + 16) 1)), (.c (.int .i64 0))]) [] [(19, (.one ⟨true, true, (.cells ([(.ptr 20 0 0)] ++ ((W.bts x).map (C.int .u8)) ++ ((W.bts (W.mx z (W.box (W.bts y) (W.nonce m) (W.bts z) (List.take (ln w) (T w))))).map (C.int .u8))))⟩)), (20, (.one ⟨true, true, (.cells ((W.bts y).map (C.int .u8) ++ [(.bool (true)), (.int .u64 (m + 1))]))⟩)), (643, (.one ⟨true, false, (.ints .u8 (W.box (W.bts y) (W.nonce m) (W.bts z) (List.take (ln w) (T w))))⟩))],
      EB ((↑(W.pick (wh w) 4) : Int) == 1) false,
      EB ((↑(W.pick (wh w) 4) : Int) == 0) false,
      Contract Try.prog 15 [(.c (.int .i64 (wh w))), (.c (.int .i64 4))] [] 515 (.c (.int .i64 (↑(W.pick (wh w) 4)))) [] [],
      ((.agg ((List.range 2).map (fun j_ => recGet 2 (fun j_ => [(.int .i64 (wh j_)), (.sl 2 j_ 0 (ln j_) 1)]) (w * 2 + j_)))) : V) = (.agg [(.int .i64 (wh w)), (.sl 2 w 0 (ln w) 1)]),
      (w * (2 : Nat) + (2 : Nat) ≤ N2),
      ((0 : Int) ≤ (↑w : Int) ∧ (↑w : Int) < (↑n : Int)),
      EB (decide ((↑w : Int) < 16)) true,
      EB (decide ((↑w : Int) < (↑n : Int))) true])
    mixed (by kernel_rfl) ⟨.mk (by simp only [addO_eq, mulE_eq, mulE_one, Int.toNat_natCast, IntKind.wrap_i64, mmin, mmax]; omega), .mk (not_f (by simp)), Contract0.in1 (ychain x (W.mx z (W.box (W.bts y) (W.nonce m) (W.bts z) (List.take (ln w) (T w)))) y (m + 1) true) [.b 51 1 true [], .b 52 2 true []] [none] [] [] (by kernel_rfl), Contract0.in1 (ychain x (W.mx z (W.box (W.bts y) (W.nonce m) (W.bts z) (List.take (ln w) (T w)))) y (m + 1) true) [.b 19 1 true [], .b 20 2 true []] [none] [] [] (by kernel_rfl), .mk (not_f (by simp)), Contract0.in1 (yhash x (W.mx z (W.box (W.bts y) (W.nonce m) (W.bts z) (List.take (ln w) (T w)))) y (m + 1) true) [.b 51 1 true [], .b 52 2 true []] [none] [] [] (by kernel_rfl), Contract0.in1 (yhash x (W.mx z (W.box (W.bts y) (W.nonce m) (W.bts z) (List.take (ln w) (T w)))) y (m + 1) true) [.b 19 1 true [], .b 20 2 true []] [none] [] [] (by kernel_rfl), .mk (not_f (strEq_t (by simp only [List.take_take, Nat.min_self, List.drop_zero]))), (by rw [Nat.zero_add]; exact hln _), c6, Contract0.in1 (yopenbK true x z y m (List.take (ln w) (T w)) (ln w) (by rw [List.length_take, Nat.min_eq_left (hln _)]) (by exact Nat.le_trans (hln _) (hTs _)) (by exact W.bytes_take (hTb _)) (by omega)) [.b 51 1 false [], .b 52 2 false [], .b 643 3 true []] [none, none] [(4, 771)] [] (by kernel_rfl), ContractN.fin (ContractN.fam (k := .u8) (l := (T w)) (ex := false) (args1 := [(.c (.ptr 19 0 0)), (.c (.sl 658 0 0 (ln w) 1))]) 658 2 w (Contract0.instN (ysealK true x z y m (T w) 0 (ln w) (by rw [Nat.zero_add]; exact hln _) (by exact Nat.le_trans (hln _) (hTs _)) (by exact hTb _) (by omega)) [.b 19 1 false [], .b 20 2 false [], .b 658 3 true []] [none, none] [(4, 643)] [] (by kernel_rfl) (by kernel_rfl) (by kernel_rfl) (by kernel_rfl) (by kernel_rfl)) (by kernel_rfl) (by kernel_rfl) (by kernel_rfl) (by kernel_rfl) (by kernel_rfl) (by kernel_rfl)) (by kernel_rfl), .mk (beq_f h5), .mk (beq_f h4), Contract0.in1 (pick_ok (wh w) 4 (by exact hwh _) (by omega)) [] [none, none] [] [] (by kernel_rfl), EV.recs rfl, (by omega), (by omega), .mk (decide_eq_true h3), .mk (decide_eq_true h2), trivial⟩
theorem LSK_xtf (n N2 : Nat) (ln : Nat → Nat) (T : Nat → List Int) (wh : Nat → Int) (w : Nat) (x z y m : Int)
    (hN : n * 2 ≤ N2)
    (hln : ∀ j, ln j ≤ (T j).length)
    (hTb : ∀ j, W.bytes (T j))
    (hTs : ∀ j, (T j).length ≤ 1048576)
    (hn : n ≤ 1048576)
    (hwh : ∀ j, -9223372036854775808 ≤ wh j ∧ wh j < 9223372036854775808)
    (hw : w ≤ 16)
    (hm : 0 ≤ m ∧ m ≤ w)
    (h2 : ((↑w : Int) < (↑n : Int)))
    (h3 : (¬(↑w : Int) < (16 : Int))) :
    CodeOk Try.prog 99 259 (kAt (kOf Try.prog Try.f13) [true, true, true, true, false, true, false, false]) (LSKI n N2 ln T wh w x z y m) (.exit 0) (LSKI n N2 ln T wh w x z y m) :=
  CodeOk.of_runs (fuel := 300) (v := ⟨[0, 3, 4, 2, 5], [1, 2, 19, 20, 51, 52], [], 259⟩) (hs := [(4, ⟨.auto, some (.c (.bool (true)))⟩), (7, ⟨.auto, some (.c (.bool (false)))⟩)])
    (cs := [EB (decide ((↑w : Int) < 16)) false,
      EB (decide ((↑w : Int) < (↑n : Int))) true])
    mixed (by kernel_rfl) ⟨.mk (decide_eq_false h3), .mk (decide_eq_true h2), trivial⟩
theorem LSK_xf (n N2 : Nat) (ln : Nat → Nat) (T : Nat → List Int) (wh : Nat → Int) (w : Nat) (x z y m : Int)
    (hN : n * 2 ≤ N2)
    (hln : ∀ j, ln j ≤ (T j).length)
    (hTb : ∀ j, W.bytes (T j))
    (hTs : ∀ j, (T j).length ≤ 1048576)
    (hn : n ≤ 1048576)
    (hwh : ∀ j, -9223372036854775808 ≤ wh j ∧ wh j < 9223372036854775808)
    (hw : w ≤ 16)
    (hm : 0 ≤ m ∧ m ≤ w)
    (h2 : (¬(↑w : Int) < (↑n : Int))) :
    CodeOk Try.prog 99 259 (kAt (kOf Try.prog Try.f13) [true, true, true, true, false, true, false, false]) (LSKI n N2 ln T wh w x z y m) (.exit 0) (LSKI n N2 ln T wh w x z y m) :=
  CodeOk.of_runs (fuel := 300) (v := ⟨[0, 3, 4, 2, 5], [1, 2, 19, 20, 51, 52], [], 259⟩) (hs := [(4, ⟨.auto, some (.c (.bool (false)))⟩)])
    (cs := [EB (decide ((↑w : Int) < (↑n : Int))) false])
    mixed (by kernel_rfl) ⟨.mk (decide_eq_false h2), trivial⟩
end Go.Proofs.Ytmfnldkiaodkpaa.Vm

namespace Go.Proofs.Ytmfnldkiaodkpaa.Vm
open Go Go.Proofs Go.Proofs.Ytmfnldkiaodkpaa
def LSPost (n N2 : Nat) (ln : Nat → Nat) (T : Nat → List Int) (wh : Nat → Int) : S0 :=
  ⟨[(0, (.c (.sl 1 0 0 n 2))), (2, (.c (.bool false)))], [(1, (.one ⟨false, false, (.row N2 2 (fun j_ => [(.int .i64 (wh j_)), (.sl 2 j_ 0 (ln j_) 1)]))⟩)), (2, (.many (fun j_ => some ⟨false, false, (.ints .u8 (T j_))⟩)))], 259⟩
abbrev BoSt := (Nat × Int × Int × Int) ⊕ (Nat × Int × Int × Int × Int)
noncomputable def boI (n N2 : Nat) (ln : Nat → Nat) (T : Nat → List Int) (wh : Nat → Int) : BoSt → S0
  | .inl (w, x, z, y) => LSNI n N2 ln T wh w x z y
  | .inr (w, x, z, y, m) => LSKI n N2 ln T wh w x z y m
def boInv : BoSt → Prop
  | .inl (w, _, _, _) => w ≤ 16
  | .inr (w, _, _, _, m) => w ≤ 16 ∧ 0 ≤ m ∧ m ≤ w
def boMu : BoSt → Nat
  | .inl (w, _, _, _) => 16 - w
  | .inr (w, _, _, _, _) => 16 - w
theorem both_loop (n N2 : Nat) (ln : Nat → Nat) (T : Nat → List Int) (wh : Nat → Int) (hN : n * 2 ≤ N2) (hln : ∀ j, ln j ≤ (T j).length) (hTb : ∀ j, W.bytes (T j)) (hTs : ∀ j, (T j).length ≤ 1048576) (hn : n ≤ 1048576) (hwh : ∀ j, -9223372036854775808 ≤ wh j ∧ wh j < 9223372036854775808) :
    CodeOk Try.prog 99 259 (kAt (kOf Try.prog Try.f13) [true, true, true, true, false, true, false]) (LSN0 n N2 ln T wh) (.exit 0) (LSPost n N2 ln T wh) := by
  have h : CodeOk Try.prog 99 259 (kAt (kOf Try.prog Try.f13) [true, true, true, true, false, true, false]) (boI n N2 ln T wh (.inl (0, 120, 120, 0))) (.exit 0) (LSPost n N2 ln T wh) := by
    refine LSN_by (ex := .exit 0) (boI n N2 ln T wh) boInv boMu (by simp) ?_ _ (by show 0 ≤ 16; omega)
    rintro (⟨w, x, z, y⟩ | ⟨w, x, z, y, m⟩) hx
    · have hw : w ≤ 16 := hx
      by_cases h2 : (w : Int) < (n : Int)
      case neg => exact .inr (CodeOk.post ⟨[0, 2], [1, 2], [], 259⟩ (by decide) rfl (LSN_xf n N2 ln T wh w x z y hN hln hTb hTs hn hwh hw h2))
      by_cases h3 : (w : Int) < 16
      case neg => exact .inr (CodeOk.post ⟨[0, 2], [1, 2], [], 259⟩ (by decide) rfl (LSN_xtf n N2 ln T wh w x z y hN hln hTb hTs hn hwh hw h2 h3))
      have hl : 0 + ln w ≤ (List.take (ln w) (T w)).length := by rw [List.length_take, Nat.min_eq_left (hln _)]; omega
      by_cases h4 : (W.pick (wh w) 4 : Int) = 0
      · exact .inl ⟨.inr (w + 1, _, _, _, 0), ⟨by omega, by omega, by omega⟩, by show 16 - (w + 1) < 16 - w; omega, LSN_rttt n N2 ln T wh w x z y hN hln hTb hTs hn hwh hw h2 h3 h4⟩
      · by_cases h5 : (W.pick (wh w) 4 : Int) = 1
        · exact .inl ⟨.inl (w + 1, _, _, _), by show w + 1 ≤ 16; omega, by show 16 - (w + 1) < 16 - w; omega, LSN_rttft n N2 ln T wh w x z y hN hln hTb hTs hn hwh hw h2 h3 h4 h5⟩
        · exact .inl ⟨.inl (w + 1, _, _, _), by show w + 1 ≤ 16; omega, by show 16 - (w + 1) < 16 - w; omega, LSN_rttff n N2 ln T wh w x z y hN hln hTb hTs hn hwh hw h2 h3 h4 h5 hl⟩
    · obtain ⟨hw, hm⟩ := hx
      have hw : w ≤ 16 := hw
      have hm : 0 ≤ m ∧ m ≤ w := hm
      by_cases h2 : (w : Int) < (n : Int)
      case neg => exact .inr (CodeOk.post ⟨[0, 2], [1, 2], [], 259⟩ (by decide) rfl (LSK_xf n N2 ln T wh w x z y m hN hln hTb hTs hn hwh hw hm h2))
      by_cases h3 : (w : Int) < 16
      case neg => exact .inr (CodeOk.post ⟨[0, 2], [1, 2], [], 259⟩ (by decide) rfl (LSK_xtf n N2 ln T wh w x z y m hN hln hTb hTs hn hwh hw hm h2 h3))
      have hl : 0 + ln w ≤ (List.take (ln w) (T w)).length := by rw [List.length_take, Nat.min_eq_left (hln _)]; omega
      by_cases h4 : (W.pick (wh w) 4 : Int) = 0
      · exact .inl ⟨.inr (w + 1, _, _, _, 0), ⟨by omega, by omega, by omega⟩, by show 16 - (w + 1) < 16 - w; omega, LSK_rttt n N2 ln T wh w x z y m hN hln hTb hTs hn hwh hw hm h2 h3 h4⟩
      · by_cases h5 : (W.pick (wh w) 4 : Int) = 1
        · exact .inl ⟨.inr (w + 1, _, _, _, m), ⟨by omega, by omega, by omega⟩, by show 16 - (w + 1) < 16 - w; omega, LSK_rttft n N2 ln T wh w x z y m hN hln hTb hTs hn hwh hw hm h2 h3 h4 h5⟩
        · exact .inl ⟨.inr (w + 1, _, _, _, m + 1), ⟨by omega, by omega, by omega⟩, by show 16 - (w + 1) < 16 - w; omega, LSK_rttff n N2 ln T wh w x z y m hN hln hTb hTs hn hwh hw hm h2 h3 h4 h5 hl⟩
  exact h
end Go.Proofs.Ytmfnldkiaodkpaa.Vm

namespace Go.Proofs.Ytmfnldkiaodkpaa.Vm
open Go Go.Proofs Go.Proofs.Ytmfnldkiaodkpaa
set_option maxRecDepth 100000
theorem symmBoth (n N2 : Nat) (ln : Nat → Nat) (T : Nat → List Int) (wh : Nat → Int)
    (hN : n * 2 ≤ N2)
    (hln : ∀ j, ln j ≤ (T j).length)
    (hTb : ∀ j, W.bytes (T j))
    (hTs : ∀ j, (T j).length ≤ 1048576)
    (hn : n ≤ 1048576)
    (hwh : ∀ j, -9223372036854775808 ≤ wh j ∧ wh j < 9223372036854775808) :
    Contract0 Try.prog 13 [(.c (.sl 1 0 0 n 2))] [(1, (.one ⟨false, false, (.row N2 2 (fun j_ => [(.int .i64 (wh j_)), (.sl 2 j_ 0 (ln j_) 1)]))⟩)), (2, (.many (fun j_ => some ⟨false, false, (.ints .u8 (T j_))⟩)))] 3 (.c (.bool (true))) [2] [] :=
  Contract0.fr 300 [(1, ⟨.call [] (.c (.ptr 19 0 0)) [] [(19, (.one ⟨true, true, (.cells [(.ptr 20 0 0), (.int .u8 120), (.int .u8 0), (.int .u8 0), (.int .u8 0), (.int .u8 0), (.int .u8 0), (.int .u8 0), (.int .u8 0), (.int .u8 0), (.int .u8 0), (.int .u8 0), (.int .u8 0), (.int .u8 0), (.int .u8 0), (.int .u8 0), (.int .u8 0), (.int .u8 0), (.int .u8 0), (.int .u8 0), (.int .u8 0), (.int .u8 0), (.int .u8 0), (.int .u8 0), (.int .u8 0), (.int .u8 0), (.int .u8 0), (.int .u8 0), (.int .u8 0), (.int .u8 0), (.int .u8 0), (.int .u8 0), (.int .u8 0), (.int .u8 120), (.int .u8 0), (.int .u8 0), (.int .u8 0), (.int .u8 0), (.int .u8 0), (.int .u8 0), (.int .u8 0), (.int .u8 0), (.int .u8 0), (.int .u8 0), (.int .u8 0), (.int .u8 0), (.int .u8 0), (.int .u8 0), (.int .u8 0), (.int .u8 0), (.int .u8 0), (.int .u8 0), (.int .u8 0), (.int .u8 0), (.int .u8 0), (.int .u8 0), (.int .u8 0), (.int .u8 0), (.int .u8 0), (.int .u8 0), (.int .u8 0), (.int .u8 0), (.int .u8 0), (.int .u8 0), (.int .u8 0)])⟩)), (20, (.one ⟨true, true, (.cells ((W.bts 0).map (C.int .u8) ++ [(.bool (false)), (.int .u64 0)]))⟩))], none⟩), (3, ⟨.call [] (.c (.ptr 51 0 0)) [] [(51, (.one ⟨true, true, (.cells [(.ptr 52 0 0), (.int .u8 120), (.int .u8 0), (.int .u8 0), (.int .u8 0), (.int .u8 0), (.int .u8 0), (.int .u8 0), (.int .u8 0), (.int .u8 0), (.int .u8 0), (.int .u8 0), (.int .u8 0), (.int .u8 0), (.int .u8 0), (.int .u8 0), (.int .u8 0), (.int .u8 0), (.int .u8 0), (.int .u8 0), (.int .u8 0), (.int .u8 0), (.int .u8 0), (.int .u8 0), (.int .u8 0), (.int .u8 0), (.int .u8 0), (.int .u8 0), (.int .u8 0), (.int .u8 0), (.int .u8 0), (.int .u8 0), (.int .u8 0), (.int .u8 120), (.int .u8 0), (.int .u8 0), (.int .u8 0), (.int .u8 0), (.int .u8 0), (.int .u8 0), (.int .u8 0), (.int .u8 0), (.int .u8 0), (.int .u8 0), (.int .u8 0), (.int .u8 0), (.int .u8 0), (.int .u8 0), (.int .u8 0), (.int .u8 0), (.int .u8 0), (.int .u8 0), (.int .u8 0), (.int .u8 0), (.int .u8 0), (.int .u8 0), (.int .u8 0), (.int .u8 0), (.int .u8 0), (.int .u8 0), (.int .u8 0), (.int .u8 0), (.int .u8 0), (.int .u8 0), (.int .u8 0)])⟩)), (52, (.one ⟨true, true, (.cells ((W.bts 0).map (C.int .u8) ++ [(.bool (false)), (.int .u64 0)]))⟩))], none⟩), (5, ⟨.call [] (.c (.bool (true))) [] [], none⟩), (17, ⟨.sum ⟨[0, 3, 4, 2, 5], [1, 2, 19, 20, 51, 52], [], 259⟩ (.exit 0) (LSPost n N2 ln T wh), none⟩)] [] [CodeOk Try.prog 99 259 (kAt (kOf Try.prog Try.f13) [true, true, true, true, false, true, false]) (LSN0 n N2 ln T wh) (.exit 0) (LSPost n N2 ln T wh),
      Contract Try.prog 21 [] [] 83 (.c (.bool (true))) [] [],
      Contract Try.prog 20 [(.c (.str ({ data := #[120] })))] [] 51 (.c (.ptr 51 0 0)) [] [(51, (.one ⟨true, true, (.cells [(.ptr 52 0 0), (.int .u8 120), (.int .u8 0), (.int .u8 0), (.int .u8 0), (.int .u8 0), (.int .u8 0), (.int .u8 0), (.int .u8 0), (.int .u8 0), (.int .u8 0), (.int .u8 0), (.int .u8 0), (.int .u8 0), (.int .u8 0), (.int .u8 0), (.int .u8 0), (.int .u8 0), (.int .u8 0), (.int .u8 0), (.int .u8 0), (.int .u8 0), (.int .u8 0), (.int .u8 0), (.int .u8 0), (.int .u8 0), (.int .u8 0), (.int .u8 0), (.int .u8 0), (.int .u8 0), (.int .u8 0), (.int .u8 0), (.int .u8 0), (.int .u8 120), (.int .u8 0), (.int .u8 0), (.int .u8 0), (.int .u8 0), (.int .u8 0), (.int .u8 0), (.int .u8 0), (.int .u8 0), (.int .u8 0), (.int .u8 0), (.int .u8 0), (.int .u8 0), (.int .u8 0), (.int .u8 0), (.int .u8 0), (.int .u8 0), (.int .u8 0), (.int .u8 0), (.int .u8 0), (.int .u8 0), (.int .u8 0), (.int .u8 0), (.int .u8 0), (.int .u8 0), (.int .u8 0), (.int .u8 0), (.int .u8 0), (.int .u8 0), (.int .u8 0), (.int .u8 0), (.int .u8 0)])⟩)), (52, (.one ⟨true, true, (.cells ((W.bts 0).map (C.int .u8) ++ [(.bool (false)), (.int .u64 0)]))⟩))],
      Contract Try.prog 20 [(.c (.str ({ data := #[120] })))] [] 19 (.c (.ptr 19 0 0)) [] [(19, (.one ⟨true, true, (.cells [(.ptr 20 0 0), (.int .u8 120), (.int .u8 0), (.int .u8 0), (.int .u8 0), (.int .u8 0), (.int .u8 0), (.int .u8 0), (.int .u8 0), (.int .u8 0), (.int .u8 0), (.int .u8 0), (.int .u8 0), (.int .u8 0), (.int .u8 0), (.int .u8 0), (.int .u8 0), (.int .u8 0), (.int .u8 0), (.int .u8 0), (.int .u8 0), (.int .u8 0), (.int .u8 0), (.int .u8 0), (.int .u8 0), (.int .u8 0), (.int .u8 0), (.int .u8 0), (.int .u8 0), (.int .u8 0), (.int .u8 0), (.int .u8 0), (.int .u8 0), (.int .u8 120), (.int .u8 0), (.int .u8 0), (.int .u8 0), (.int .u8 0), (.int .u8 0), (.int .u8 0), (.int .u8 0), (.int .u8 0), (.int .u8 0), (.int .u8 0), (.int .u8 0), (.int .u8 0), (.int .u8 0), (.int .u8 0), (.int .u8 0), (.int .u8 0), (.int .u8 0), (.int .u8 0), (.int .u8 0), (.int .u8 0), (.int .u8 0), (.int .u8 0), (.int .u8 0), (.int .u8 0), (.int .u8 0), (.int .u8 0), (.int .u8 0), (.int .u8 0), (.int .u8 0), (.int .u8 0), (.int .u8 0)])⟩)), (20, (.one ⟨true, true, (.cells ((W.bts 0).map (C.int .u8) ++ [(.bool (false)), (.int .u64 0)]))⟩))]] mixed Try.func13 (by kernel_rfl) ⟨(both_loop n N2 ln T wh (by omega) (by omega) (by omega) (by omega) (by omega) (by omega)), Contract0.in1 known10 [] [] [] [] (by kernel_rfl), Contract0.in1 ynew_x [] [none] [(1, 51), (2, 52)] [] (by kernel_rfl), Contract0.in1 ynew_x [] [none] [(1, 19), (2, 20)] [] (by kernel_rfl), trivial⟩
end Go.Proofs.Ytmfnldkiaodkpaa.Vm

namespace Go.Proofs.Ytmfnldkiaodkpaa.Vm
open Go Go.Proofs Go.Proofs.Ytmfnldkiaodkpaa
theorem symmBoth_law (N : Nat) (wh : Nat → Int) (ln : Nat → Nat) (T : Nat → List Int) (n : Nat) (hN : n ≤ N) (hln : ∀ j, ln j ≤ (T j).length) (hTb : ∀ j, W.bytes (T j)) (hTs : ∀ j, (T j).length ≤ 1048576) (hn : n ≤ 1048576)
    (hwh : ∀ j, -9223372036854775808 ≤ wh j ∧ wh j < 9223372036854775808) :
    Contract0 Try.prog 13 [(.c (.sl 1 0 0 n 2))] (memS [.fam ⟨false, false, .row (N * 2) 2 (fun j => [C.int .i64 (wh j), C.sl 2 j 0 (ln j) 1])⟩ (fun j => ⟨false, false, .ints .u8 (T j)⟩)] 1) 3 (.c (.bool true)) [2] [] :=
  symmBoth n (N * 2) ln T wh (by omega) hln hTb hTs hn hwh
end Go.Proofs.Ytmfnldkiaodkpaa.Vm
