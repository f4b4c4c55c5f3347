/- What functions of the program come to: parts of the walk (Re). -/
import Derived.Test.YtmfnldkiaodkpaaRd
import Derived.Test.YtmfnldkiaodkpaaVmc
import Derived.KernelRfl
import Derived.Test.YtmfnldkiaodkpaaProg
set_option linter.unusedSimpArgs false
set_option linter.unusedVariables false
namespace Go.Proofs.Ytmfnldkiaodkpaa.Vm
open Go Go.Proofs Go.Proofs.Ytmfnldkiaodkpaa
set_option maxRecDepth 100000
def LWI (K : Int) (o n N : Nat) (ln : Nat → Nat) (T : Nat → List Int) (lt : List Int) (ot nt w : Nat) (bd : Bool) (u m : Int) : S0 :=
  ⟨[(1, (.c (.sl 1 0 o n 1))), (2, (.c (.sl 3 0 ot nt 1))), (7, (.c (.ptr 52 0 0))), (6, (.c (.bool false))), (8, (.c (.int .i64 ((↑w : Int)))))], [(1, (.one ⟨false, false, (.gen N (fun j_ => (.sl 2 j_ 0 (ln j_) 1)))⟩)), (2, (.many (fun j_ => some ⟨false, false, (.ints .u8 (T j_))⟩))), (3, (.one ⟨false, false, (.ints .u8 lt)⟩)), (52, (.one ⟨true, true, .cells [.ptr 53 0 0, .int .i64 u, .bool bd]⟩)), (53, (.one ⟨true, true, .cells ((W.bts K).map (C.int .u8) ++ [.bool true, .int .u64 m])⟩))], 196⟩
theorem LW_by {α : Type} (I : α → S0) (Inv : α → Prop) (μ : α → Nat) {ex : Ex} {s' : S0} (hex : ex ≠ .normal)
    (step : ∀ x, Inv x → (∃ y, Inv y ∧ μ y < μ x ∧ CodeOk Try.prog 71 196 (kAt (kOf Try.prog Try.f11) [true, true, true, false, true, false, false]) (I x) .normal (I y)) ∨ CodeOk Try.prog 71 196 (kAt (kOf Try.prog Try.f11) [true, true, true, false, true, false, false]) (I x) ex s') (x : α) (hx : Inv x) :
    CodeOk Try.prog 71 196 (kAt (kOf Try.prog Try.f11) [true, true, true, false, true, false]) (I x) ex s' := by
  have hk : (kAt (kOf Try.prog Try.f11) [true, true, true, false, true, false]) = .loop (kAt (kOf Try.prog Try.f11) [true, true, true, false, true, false, false]) := by kernel_rfl
  rw [hk]
  exact CodeOk.loop I Inv μ hex step x hx
-- init: LWI K o n N ln T lt ot nt 0 false 0 0
def LW0 (K : Int) (o n N : Nat) (ln : Nat → Nat) (T : Nat → List Int) (lt : List Int) (ot nt : Nat) : S0 :=
  ⟨[(1, (.c (.sl 1 0 o n 1))), (2, (.c (.sl 3 0 ot nt 1))), (7, (.c (.ptr 52 0 0))), (6, (.c (.bool (false)))), (8, (.c (.int .i64 0)))], [(1, (.one ⟨false, false, (.gen N (fun j_ => (.sl 2 j_ 0 (ln j_) 1)))⟩)), (2, (.many (fun j_ => some ⟨false, false, (.ints .u8 (T j_))⟩))), (3, (.one ⟨false, false, (.ints .u8 lt)⟩)), (52, (.one ⟨true, true, (.cells [(.ptr 53 0 0), (.int .i64 0), (.bool (false))])⟩)), (53, (.one ⟨true, true, (.cells ((W.bts K).map (C.int .u8) ++ [(.bool (true)), (.int .u64 0)]))⟩))], 196⟩
theorem LW_rttc0 (K : Int) (o n N : Nat) (ln : Nat → Nat) (T : Nat → List Int) (lt : List Int) (ot nt w : Nat) (bd : Bool) (u m : Int)
    (hN : o + n ≤ N)
    (hln : ∀ j, ln j ≤ (T j).length)
    (hTb : ∀ j, W.bytes (T j))
    (hTs : ∀ j, (T j).length ≤ 1048576)
    (hn : n ≤ 1048576)
    (hlt : ot + nt ≤ lt.length)
    (ht : nt ≤ 1048576)
    (hbt : W.bytes lt)
    (hw : w ≤ 6)
    (hu : 0 ≤ u ∧ u ≤ 6)
    (hm : 0 ≤ m ∧ m ≤ 7)
    (h2 : ((↑w : Int) < (↑n : Int)))
    (h3 : ((↑w : Int) < (6 : Int)))
    (c4 : (bd = true)) :
    CodeOk Try.prog 71 196 (kAt (kOf Try.prog Try.f11) [true, true, true, false, true, false, false]) (LWI K o n N ln T lt ot nt w bd u m) .normal (LWI K o n N ln T lt ot nt (w + 1) bd u m) :=
  CodeOk.of_runs (fuel := 300) (v := ⟨[1, 2, 7, 6, 8], [1, 2, 3, 52, 53], [], 196⟩) (hs := [(4, ⟨.auto, some (.c (.bool (true)))⟩), (7, ⟨.auto, some (.c (.bool (true)))⟩), (10, ⟨.call [52, 53] (.c (.bool (true))) [] [], none⟩), (15, ⟨.ask, some (.c (.ptr 1 0 (o + w)))⟩), (16, ⟨.ask, none⟩), (17, ⟨.call [52, 2, 53] (.tup [(.c .nils), (.c (.int .i64 4))]) [] [(52, (.one ⟨true, true, (.cells [(.ptr 53 0 0), (.int .i64 u), (.bool bd)])⟩)), (53, (.one ⟨true, true, (.cells ((W.bts K).map (C.int .u8) ++ [(.bool (true)), (.int .u64 m)]))⟩))], none⟩), (41, ⟨.auto, some (.c (.int .i64 (↑(w + 1))))⟩)])
    (cs := [EI .i64 (IntKind.wrap IntKind.i64 ((↑w : Int) + 1)) ((↑(w + 1) : Int)),
      Contract Try.prog 50 [(.c (.ptr 52 0 0)), (.c (.sl 2 (o + w) 0 (ln (o + w)) 1))] [(52, (.one ⟨true, true, (.cells [(.ptr 53 0 0), (.int .i64 u), (.bool bd)])⟩)), (2, (.many (fun j_ => some ⟨false, false, (.ints .u8 (T j_))⟩))), (53, (.one ⟨true, true, (.cells ((W.bts K).map (C.int .u8) ++ [(.bool (true)), (.int .u64 m)]))⟩))] 452 (.tup [(.c .nils), (.c (.int .i64 4))]) [] [(52, (.one ⟨true, true, (.cells [(.ptr 53 0 0), (.int .i64 u), (.bool bd)])⟩)), (53, (.one ⟨true, true, (.cells ((W.bts K).map (C.int .u8) ++ [(.bool (true)), (.int .u64 m)]))⟩))],
      (o + w + (1 : Nat) ≤ N),
      ((.c (.ptr 1 0 (addO o w))) : V) = (.c (.ptr 1 0 (o + w))),
      ((0 : Int) ≤ (↑w : Int) ∧ (↑w : Int) < (↑n : Int)),
      Contract Try.prog 48 [(.c (.ptr 52 0 0))] [(52, (.one ⟨true, true, (.cells [(.ptr 53 0 0), (.int .i64 u), (.bool bd)])⟩)), (53, (.one ⟨true, true, (.cells ((W.bts K).map (C.int .u8) ++ [(.bool (true)), (.int .u64 m)]))⟩))] 340 (.c (.bool (true))) [] [],
      EB (decide ((↑w : Int) < 6)) true,
      EB (decide ((↑w : Int) < (↑n : Int))) true])
    mixed (by kernel_rfl) ⟨.mk (by simp only [addO_eq, mulE_eq, mulE_one, Int.toNat_natCast, IntKind.wrap_i64, mmin, mmax]; omega), ContractN.fin (ContractN.fam (k := .u8) (l := (T (o + w))) (ex := false) (args1 := [(.c (.ptr 52 0 0)), (.c (.sl 467 0 0 (ln (o + w)) 1))]) 467 2 (o + w) (Contract0.instN (hopenB true bd u m K (T (o + w)) 0 (ln (o + w)) (by omega)) [.b 52 1 false [], .b 53 2 false [], .b 467 3 true []] [none, none] [] [] (by kernel_rfl) (by kernel_rfl) (by kernel_rfl) (by kernel_rfl) (by kernel_rfl)) (by kernel_rfl) (by kernel_rfl) (by kernel_rfl) (by kernel_rfl) (by kernel_rfl) (by kernel_rfl)) (by kernel_rfl), (by omega), EV.ptr (by simp only [addO_eq, mulE_eq, mulE_one, Int.toNat_natCast, IntKind.wrap_i64, mmin, mmax]), (by omega), Contract0.inst (hbroken_true u bd true m K c4) [.b 52 1 true [], .b 53 2 true []] [none] [] [] (by kernel_rfl) (by kernel_rfl) (by kernel_rfl) (by kernel_rfl) (by kernel_rfl), .mk (decide_eq_true h3), .mk (decide_eq_true h2), trivial⟩
theorem LW_rttc1c0 (K : Int) (o n N : Nat) (ln : Nat → Nat) (T : Nat → List Int) (lt : List Int) (ot nt w : Nat) (bd : Bool) (u m : Int)
    (hN : o + n ≤ N)
    (hln : ∀ j, ln j ≤ (T j).length)
    (hTb : ∀ j, W.bytes (T j))
    (hTs : ∀ j, (T j).length ≤ 1048576)
    (hn : n ≤ 1048576)
    (hlt : ot + nt ≤ lt.length)
    (ht : nt ≤ 1048576)
    (hbt : W.bytes lt)
    (hw : w ≤ 6)
    (hu : 0 ≤ u ∧ u ≤ 6)
    (hm : 0 ≤ m ∧ m ≤ 7)
    (h2 : ((↑w : Int) < (↑n : Int)))
    (h3 : ((↑w : Int) < (6 : Int)))
    (c4 : (bd = false))
    (c5 : (bd = true)) :
    CodeOk Try.prog 71 196 (kAt (kOf Try.prog Try.f11) [true, true, true, false, true, false, false]) (LWI K o n N ln T lt ot nt w bd u m) .normal (LWI K o n N ln T lt ot nt (w + 1) bd u m) :=
  CodeOk.of_runs (fuel := 300) (v := ⟨[1, 2, 7, 6, 8], [1, 2, 3, 52, 53], [], 196⟩) (hs := [(4, ⟨.auto, some (.c (.bool (true)))⟩), (7, ⟨.auto, some (.c (.bool (true)))⟩), (10, ⟨.call [52, 53] (.c (.bool (false))) [] [], none⟩), (15, ⟨.ask, some (.c (.ptr 1 0 (o + w)))⟩), (16, ⟨.ask, none⟩), (17, ⟨.call [52, 2, 53] (.tup [(.c .nils), (.c (.int .i64 4))]) [] [(52, (.one ⟨true, true, (.cells [(.ptr 53 0 0), (.int .i64 u), (.bool bd)])⟩)), (53, (.one ⟨true, true, (.cells ((W.bts K).map (C.int .u8) ++ [(.bool (true)), (.int .u64 m)]))⟩))], none⟩), (35, ⟨.call [52, 53] (.c (.bool (true))) [] [], none⟩), (41, ⟨.auto, some (.c (.int .i64 (↑(w + 1))))⟩)])
    (cs := [EI .i64 (IntKind.wrap IntKind.i64 ((↑w : Int) + 1)) ((↑(w + 1) : Int)),
      Contract Try.prog 48 [(.c (.ptr 52 0 0))] [(52, (.one ⟨true, true, (.cells [(.ptr 53 0 0), (.int .i64 u), (.bool bd)])⟩)), (53, (.one ⟨true, true, (.cells ((W.bts K).map (C.int .u8) ++ [(.bool (true)), (.int .u64 m)]))⟩))] 740 (.c (.bool (true))) [] [],
      Contract Try.prog 50 [(.c (.ptr 52 0 0)), (.c (.sl 2 (o + w) 0 (ln (o + w)) 1))] [(52, (.one ⟨true, true, (.cells [(.ptr 53 0 0), (.int .i64 u), (.bool bd)])⟩)), (2, (.many (fun j_ => some ⟨false, false, (.ints .u8 (T j_))⟩))), (53, (.one ⟨true, true, (.cells ((W.bts K).map (C.int .u8) ++ [(.bool (true)), (.int .u64 m)]))⟩))] 452 (.tup [(.c .nils), (.c (.int .i64 4))]) [] [(52, (.one ⟨true, true, (.cells [(.ptr 53 0 0), (.int .i64 u), (.bool bd)])⟩)), (53, (.one ⟨true, true, (.cells ((W.bts K).map (C.int .u8) ++ [(.bool (true)), (.int .u64 m)]))⟩))],
      (o + w + (1 : Nat) ≤ N),
      ((.c (.ptr 1 0 (addO o w))) : V) = (.c (.ptr 1 0 (o + w))),
      ((0 : Int) ≤ (↑w : Int) ∧ (↑w : Int) < (↑n : Int)),
      Contract Try.prog 48 [(.c (.ptr 52 0 0))] [(52, (.one ⟨true, true, (.cells [(.ptr 53 0 0), (.int .i64 u), (.bool bd)])⟩)), (53, (.one ⟨true, true, (.cells ((W.bts K).map (C.int .u8) ++ [(.bool (true)), (.int .u64 m)]))⟩))] 340 (.c (.bool (false))) [] [],
      EB (decide ((↑w : Int) < 6)) true,
      EB (decide ((↑w : Int) < (↑n : Int))) true])
    mixed (by kernel_rfl) ⟨.mk (by simp only [addO_eq, mulE_eq, mulE_one, Int.toNat_natCast, IntKind.wrap_i64, mmin, mmax]; omega), Contract0.inst (hbroken_true u bd true m K (by omega)) [.b 52 1 true [], .b 53 2 true []] [none] [] [] (by kernel_rfl) (by kernel_rfl) (by kernel_rfl) (by kernel_rfl) (by kernel_rfl), ContractN.fin (ContractN.fam (k := .u8) (l := (T (o + w))) (ex := false) (args1 := [(.c (.ptr 52 0 0)), (.c (.sl 467 0 0 (ln (o + w)) 1))]) 467 2 (o + w) (Contract0.instN (hopenB true bd u m K (T (o + w)) 0 (ln (o + w)) c5) [.b 52 1 false [], .b 53 2 false [], .b 467 3 true []] [none, none] [] [] (by kernel_rfl) (by kernel_rfl) (by kernel_rfl) (by kernel_rfl) (by kernel_rfl)) (by kernel_rfl) (by kernel_rfl) (by kernel_rfl) (by kernel_rfl) (by kernel_rfl) (by kernel_rfl)) (by kernel_rfl), (by omega), EV.ptr (by simp only [addO_eq, mulE_eq, mulE_one, Int.toNat_natCast, IntKind.wrap_i64, mmin, mmax]), (by omega), Contract0.inst (hbroken_false u bd true m K c4) [.b 52 1 true [], .b 53 2 true []] [none] [] [] (by kernel_rfl) (by kernel_rfl) (by kernel_rfl) (by kernel_rfl) (by kernel_rfl), .mk (decide_eq_true h3), .mk (decide_eq_true h2), trivial⟩
theorem LW_rttc1c1 (K : Int) (o n N : Nat) (ln : Nat → Nat) (T : Nat → List Int) (lt : List Int) (ot nt w : Nat) (bd : Bool) (u m : Int)
    (hN : o + n ≤ N)
    (hln : ∀ j, ln j ≤ (T j).length)
    (hTb : ∀ j, W.bytes (T j))
    (hTs : ∀ j, (T j).length ≤ 1048576)
    (hn : n ≤ 1048576)
    (hlt : ot + nt ≤ lt.length)
    (ht : nt ≤ 1048576)
    (hbt : W.bytes lt)
    (hw : w ≤ 6)
    (hu : 0 ≤ u ∧ u ≤ 6)
    (hm : 0 ≤ m ∧ m ≤ 7)
    (h2 : ((↑w : Int) < (↑n : Int)))
    (h3 : ((↑w : Int) < (6 : Int)))
    (c4 : (bd = false))
    (c5 : (¬W.opErr K m (T (o + w)) (0 : Nat) (ln (o + w)) = (0 : Int))) :
    CodeOk Try.prog 71 196 (kAt (kOf Try.prog Try.f11) [true, true, true, false, true, false, false]) (LWI K o n N ln T lt ot nt w bd u m) .normal (LWI K o n N ln T lt ot nt (w + 1) true u (W.opN K m (T (o + w)) 0 (ln (o + w)))) :=
  CodeOk.of_runs (fuel := 300) (v := ⟨[1, 2, 7, 6, 8], [1, 2, 3, 52, 53], [], 196⟩) (hs := [(4, ⟨.auto, some (.c (.bool (true)))⟩), (7, ⟨.auto, some (.c (.bool (true)))⟩), (10, ⟨.call [52, 53] (.c (.bool (false))) [] [], none⟩), (15, ⟨.ask, some (.c (.ptr 1 0 (o + w)))⟩), (16, ⟨.ask, none⟩), (17, ⟨.call [52, 2, 53] (.tup [(.c .nils), (.c (.int .i64 (W.opErr K m (T (o + w)) 0 (ln (o + w)))))]) [] [(52, (.one ⟨true, true, (.cells [(.ptr 53 0 0), (.int .i64 u), (.bool (true))])⟩)), (53, (.one ⟨true, true, (.cells ((W.bts K).map (C.int .u8) ++ [(.bool (true)), (.int .u64 (W.opN K m (T (o + w)) 0 (ln (o + w))))]))⟩))], none⟩), (33, ⟨.auto, some (.c (.bool (false)))⟩), (35, ⟨.call [52, 53] (.c (.bool (true))) [] [], none⟩), (41, ⟨.auto, some (.c (.int .i64 (↑(w + 1))))⟩)])
    (cs := [EI .i64 (IntKind.wrap IntKind.i64 ((↑w : Int) + 1)) ((↑(w + 1) : Int)),
      Contract Try.prog 48 [(.c (.ptr 52 0 0))] [(52, (.one ⟨true, true, (.cells [(.ptr 53 0 0), (.int .i64 u), (.bool (true))])⟩)), (53, (.one ⟨true, true, (.cells ((W.bts K).map (C.int .u8) ++ [(.bool (true)), (.int .u64 (W.opN K m (T (o + w)) 0 (ln (o + w))))]))⟩))] 740 (.c (.bool (true))) [] [],
      EB (W.opErr K m (T (o + w)) 0 (ln (o + w)) == 0) false,
      Contract Try.prog 50 [(.c (.ptr 52 0 0)), (.c (.sl 2 (o + w) 0 (ln (o + w)) 1))] [(52, (.one ⟨true, true, (.cells [(.ptr 53 0 0), (.int .i64 u), (.bool bd)])⟩)), (2, (.many (fun j_ => some ⟨false, false, (.ints .u8 (T j_))⟩))), (53, (.one ⟨true, true, (.cells ((W.bts K).map (C.int .u8) ++ [(.bool (true)), (.int .u64 m)]))⟩))] 452 (.tup [(.c .nils), (.c (.int .i64 (W.opErr K m (T (o + w)) 0 (ln (o + w)))))]) [] [(52, (.one ⟨true, true, (.cells [(.ptr 53 0 0), (.int .i64 u), (.bool (true))])⟩)), (53, (.one ⟨true, true, (.cells ((W.bts K).map (C.int .u8) ++ [(.bool (true)), (.int .u64 (W.opN K m (T (o + w)) 0 (ln (o + w))))]))⟩))],
      (o + w + (1 : Nat) ≤ N),
      ((.c (.ptr 1 0 (addO o w))) : V) = (.c (.ptr 1 0 (o + w))),
      ((0 : Int) ≤ (↑w : Int) ∧ (↑w : Int) < (↑n : Int)),
      Contract Try.prog 48 [(.c (.ptr 52 0 0))] [(52, (.one ⟨true, true, (.cells [(.ptr 53 0 0), (.int .i64 u), (.bool bd)])⟩)), (53, (.one ⟨true, true, (.cells ((W.bts K).map (C.int .u8) ++ [(.bool (true)), (.int .u64 m)]))⟩))] 340 (.c (.bool (false))) [] [],
      EB (decide ((↑w : Int) < 6)) true,
      EB (decide ((↑w : Int) < (↑n : Int))) true])
    mixed (by kernel_rfl) ⟨.mk (by simp only [addO_eq, mulE_eq, mulE_one, Int.toNat_natCast, IntKind.wrap_i64, mmin, mmax]; omega), Contract0.inst (hbroken_true u true true (W.opN K m (T (o + w)) 0 (ln (o + w))) K rfl) [.b 52 1 true [], .b 53 2 true []] [none] [] [] (by kernel_rfl) (by kernel_rfl) (by kernel_rfl) (by kernel_rfl) (by kernel_rfl), .mk (beq_f (by omega)), ContractN.fin (ContractN.fam (k := .u8) (l := (T (o + w))) (ex := false) (args1 := [(.c (.ptr 52 0 0)), (.c (.sl 467 0 0 (ln (o + w)) 1))]) 467 2 (o + w) (Contract0.instN (hopenN true bd u m K (T (o + w)) 0 (ln (o + w)) (by omega) (by rw [Nat.zero_add]; exact hln _) (by exact hTb _) (by exact Nat.le_trans (Nat.le_trans (hln _) (hTs _)) (by decide)) (by omega) (by omega) (by omega) c5) [.b 52 1 false [], .b 53 2 false [], .b 467 3 true []] [none, none] [] [] (by kernel_rfl) (by kernel_rfl) (by kernel_rfl) (by kernel_rfl) (by kernel_rfl)) (by kernel_rfl) (by kernel_rfl) (by kernel_rfl) (by kernel_rfl) (by kernel_rfl) (by kernel_rfl)) (by kernel_rfl), (by omega), EV.ptr (by simp only [addO_eq, mulE_eq, mulE_one, Int.toNat_natCast, IntKind.wrap_i64, mmin, mmax]), (by omega), Contract0.inst (hbroken_false u bd true m K c4) [.b 52 1 true [], .b 53 2 true []] [none] [] [] (by kernel_rfl) (by kernel_rfl) (by kernel_rfl) (by kernel_rfl) (by kernel_rfl), .mk (decide_eq_true h3), .mk (decide_eq_true h2), trivial⟩
theorem LW_rttc1c2 (K : Int) (o n N : Nat) (ln : Nat → Nat) (T : Nat → List Int) (lt : List Int) (ot nt w : Nat) (bd : Bool) (u m : Int)
    (hN : o + n ≤ N)
    (hln : ∀ j, ln j ≤ (T j).length)
    (hTb : ∀ j, W.bytes (T j))
    (hTs : ∀ j, (T j).length ≤ 1048576)
    (hn : n ≤ 1048576)
    (hlt : ot + nt ≤ lt.length)
    (ht : nt ≤ 1048576)
    (hbt : W.bytes lt)
    (hw : w ≤ 6)
    (hu : 0 ≤ u ∧ u ≤ 6)
    (hm : 0 ≤ m ∧ m ≤ 7)
    (h2 : ((↑w : Int) < (↑n : Int)))
    (h3 : ((↑w : Int) < (6 : Int)))
    (c4 : (bd = false))
    (c5 : (W.opErr K m (T (o + w)) (0 : Nat) (ln (o + w)) = (0 : Int))) :
    CodeOk Try.prog 71 196 (kAt (kOf Try.prog Try.f11) [true, true, true, false, true, false, false]) (LWI K o n N ln T lt ot nt w bd u m) .normal (LWI K o n N ln T lt ot nt (w + 1) false (u + 1) (m + 1)) :=
  CodeOk.of_runs (fuel := 300) (v := ⟨[1, 2, 7, 6, 8], [1, 2, 3, 52, 53], [], 196⟩) (hs := [(4, ⟨.auto, some (.c (.bool (true)))⟩), (7, ⟨.auto, some (.c (.bool (true)))⟩), (10, ⟨.call [52, 53] (.c (.bool (false))) [] [], none⟩), (15, ⟨.ask, some (.c (.ptr 1 0 (o + w)))⟩), (16, ⟨.ask, none⟩), (17, ⟨.call [52, 2, 53] (.tup [(.c (.sl 452 0 0 (W.be2 (W.apply (W.bts K) 1 (W.nonce m) (List.take (ln (o + w) - 16) (T (o + w)))) 0) 1)), (.c (.int .i64 0))]) [] [(52, (.one ⟨true, true, (.cells [(.ptr 53 0 0), (.int .i64 (u + 1)), (.bool (false))])⟩)), (53, (.one ⟨true, true, (.cells ((W.bts K).map (C.int .u8) ++ [(.bool (true)), (.int .u64 (m + 1))]))⟩)), (452, (.one ⟨true, false, (.ints .u8 (List.take (W.be2 (W.apply (W.bts K) 1 (W.nonce m) (List.take (ln (o + w) - 16) (T (o + w)))) 0) (List.drop 2 (W.apply (W.bts K) 1 (W.nonce m) (List.take (ln (o + w) - 16) (T (o + w)))))))⟩))], none⟩), (35, ⟨.call [52, 53] (.c (.bool (false))) [] [], none⟩), (41, ⟨.auto, some (.c (.int .i64 (↑(w + 1))))⟩)])
    (cs := [EI .i64 (IntKind.wrap IntKind.i64 ((↑w : Int) + 1)) ((↑(w + 1) : Int)),
      Contract Try.prog 48 [(.c (.ptr 52 0 0))] [(52, (.one ⟨true, true, (.cells [(.ptr 53 0 0), (.int .i64 (u + 1)), (.bool (false))])⟩)), (53, (.one ⟨true, true, (.cells ((W.bts K).map (C.int .u8) ++ [(.bool (true)), (.int .u64 (m + 1))]))⟩))] 740 (.c (.bool (false))) [] [],
      Contract Try.prog 50 [(.c (.ptr 52 0 0)), (.c (.sl 2 (o + w) 0 (ln (o + w)) 1))] [(52, (.one ⟨true, true, (.cells [(.ptr 53 0 0), (.int .i64 u), (.bool bd)])⟩)), (2, (.many (fun j_ => some ⟨false, false, (.ints .u8 (T j_))⟩))), (53, (.one ⟨true, true, (.cells ((W.bts K).map (C.int .u8) ++ [(.bool (true)), (.int .u64 m)]))⟩))] 452 (.tup [(.c (.sl 452 0 0 (W.be2 (W.apply (W.bts K) 1 (W.nonce m) (List.take (ln (o + w) - 16) (T (o + w)))) 0) 1)), (.c (.int .i64 0))]) [] [(52, (.one ⟨true, true, (.cells [(.ptr 53 0 0), (.int .i64 (u + 1)), (.bool (false))])⟩)), (53, (.one ⟨true, true, (.cells ((W.bts K).map (C.int .u8) ++ [(.bool (true)), (.int .u64 (m + 1))]))⟩)), (452, (.one ⟨true, false, (.ints .u8 (List.take (W.be2 (W.apply (W.bts K) 1 (W.nonce m) (List.take (ln (o + w) - 16) (T (o + w)))) 0) (List.drop 2 (W.apply (W.bts K) 1 (W.nonce m) (List.take (ln (o + w) - 16) (T (o + w)))))))⟩))],
      (o + w + (1 : Nat) ≤ N),
      ((.c (.ptr 1 0 (addO o w))) : V) = (.c (.ptr 1 0 (o + w))),
      ((0 : Int) ≤ (↑w : Int) ∧ (↑w : Int) < (↑n : Int)),
      Contract Try.prog 48 [(.c (.ptr 52 0 0))] [(52, (.one ⟨true, true, (.cells [(.ptr 53 0 0), (.int .i64 u), (.bool bd)])⟩)), (53, (.one ⟨true, true, (.cells ((W.bts K).map (C.int .u8) ++ [(.bool (true)), (.int .u64 m)]))⟩))] 340 (.c (.bool (false))) [] [],
      EB (decide ((↑w : Int) < 6)) true,
      EB (decide ((↑w : Int) < (↑n : Int))) true])
    mixed (by kernel_rfl) ⟨.mk (by simp only [addO_eq, mulE_eq, mulE_one, Int.toNat_natCast, IntKind.wrap_i64, mmin, mmax]; omega), Contract0.inst (hbroken_false (u + 1) false true (m + 1) K rfl) [.b 52 1 true [], .b 53 2 true []] [none] [] [] (by kernel_rfl) (by kernel_rfl) (by kernel_rfl) (by kernel_rfl) (by kernel_rfl), ContractN.fin (ContractN.fam (k := .u8) (l := (T (o + w))) (ex := false) (args1 := [(.c (.ptr 52 0 0)), (.c (.sl 467 0 0 (ln (o + w)) 1))]) 467 2 (o + w) (Contract0.instN (hopenY_f true bd u m K (T (o + w)) 0 (ln (o + w)) (by omega) (by rw [Nat.zero_add]; exact hln _) (by exact hTb _) (by exact Nat.le_trans (Nat.le_trans (hln _) (hTs _)) (by decide)) (by omega) (by omega) (by omega) c5 (by omega)) [.b 52 1 false [], .b 53 2 false [], .b 467 3 true []] [none, none] [(4, 452)] [] (by kernel_rfl) (by kernel_rfl) (by kernel_rfl) (by kernel_rfl) (by kernel_rfl)) (by kernel_rfl) (by kernel_rfl) (by kernel_rfl) (by kernel_rfl) (by kernel_rfl) (by kernel_rfl)) (by kernel_rfl), (by omega), EV.ptr (by simp only [addO_eq, mulE_eq, mulE_one, Int.toNat_natCast, IntKind.wrap_i64, mmin, mmax]), (by omega), Contract0.inst (hbroken_false u bd true m K c4) [.b 52 1 true [], .b 53 2 true []] [none] [] [] (by kernel_rfl) (by kernel_rfl) (by kernel_rfl) (by kernel_rfl) (by kernel_rfl), .mk (decide_eq_true h3), .mk (decide_eq_true h2), trivial⟩
theorem LW_xtf (K : Int) (o n N : Nat) (ln : Nat → Nat) (T : Nat → List Int) (lt : List Int) (ot nt w : Nat) (bd : Bool) (u m : Int)
    (hN : o + n ≤ N)
    (hln : ∀ j, ln j ≤ (T j).length)
    (hTb : ∀ j, W.bytes (T j))
    (hTs : ∀ j, (T j).length ≤ 1048576)
    (hn : n ≤ 1048576)
    (hlt : ot + nt ≤ lt.length)
    (ht : nt ≤ 1048576)
    (hbt : W.bytes lt)
    (hw : w ≤ 6)
    (hu : 0 ≤ u ∧ u ≤ 6)
    (hm : 0 ≤ m ∧ m ≤ 7)
    (h2 : ((↑w : Int) < (↑n : Int)))
    (h3 : (¬(↑w : Int) < (6 : Int))) :
    CodeOk Try.prog 71 196 (kAt (kOf Try.prog Try.f11) [true, true, true, false, true, false, false]) (LWI K o n N ln T lt ot nt w bd u m) (.exit 0) (LWI K o n N ln T lt ot nt w bd u m) :=
  CodeOk.of_runs (fuel := 300) (v := ⟨[1, 2, 7, 6, 8], [1, 2, 3, 52, 53], [], 196⟩) (hs := [(4, ⟨.auto, some (.c (.bool (true)))⟩), (7, ⟨.auto, some (.c (.bool (false)))⟩)])
    (cs := [EB (decide ((↑w : Int) < 6)) false,
      EB (decide ((↑w : Int) < (↑n : Int))) true])
    mixed (by kernel_rfl) ⟨.mk (decide_eq_false h3), .mk (decide_eq_true h2), trivial⟩
theorem LW_xf (K : Int) (o n N : Nat) (ln : Nat → Nat) (T : Nat → List Int) (lt : List Int) (ot nt w : Nat) (bd : Bool) (u m : Int)
    (hN : o + n ≤ N)
    (hln : ∀ j, ln j ≤ (T j).length)
    (hTb : ∀ j, W.bytes (T j))
    (hTs : ∀ j, (T j).length ≤ 1048576)
    (hn : n ≤ 1048576)
    (hlt : ot + nt ≤ lt.length)
    (ht : nt ≤ 1048576)
    (hbt : W.bytes lt)
    (hw : w ≤ 6)
    (hu : 0 ≤ u ∧ u ≤ 6)
    (hm : 0 ≤ m ∧ m ≤ 7)
    (h2 : (¬(↑w : Int) < (↑n : Int))) :
    CodeOk Try.prog 71 196 (kAt (kOf Try.prog Try.f11) [true, true, true, false, true, false, false]) (LWI K o n N ln T lt ot nt w bd u m) (.exit 0) (LWI K o n N ln T lt ot nt w bd u m) :=
  CodeOk.of_runs (fuel := 300) (v := ⟨[1, 2, 7, 6, 8], [1, 2, 3, 52, 53], [], 196⟩) (hs := [(4, ⟨.auto, some (.c (.bool (false)))⟩)])
    (cs := [EB (decide ((↑w : Int) < (↑n : Int))) false])
    mixed (by kernel_rfl) ⟨.mk (decide_eq_false h2), trivial⟩

-- recordBroken 0: 18000 ms
end Go.Proofs.Ytmfnldkiaodkpaa.Vm

namespace Go.Proofs.Ytmfnldkiaodkpaa.Vm
open Go Go.Proofs Go.Proofs.Ytmfnldkiaodkpaa
open Classical in
/-- A half behind so many boxes: is it broken, its count, its nonce. -/
noncomputable def brS (K : Int) (o : Nat) (ln : Nat → Nat) (T : Nat → List Int) : Nat → Bool × Int × Int
  | 0 => (false, 0, 0)
  | i + 1 => if (brS K o ln T i).1 = true then brS K o ln T i else if W.opErr K (brS K o ln T i).2.2 (T (o + i)) 0 (ln (o + i)) = 0 then (false, (brS K o ln T i).2.1 + 1, (brS K o ln T i).2.2 + 1) else (true, (brS K o ln T i).2.1, W.opN K (brS K o ln T i).2.2 (T (o + i)) 0 (ln (o + i)))
theorem brS_le (K : Int) (o : Nat) (ln : Nat → Nat) (T : Nat → List Int) (i : Nat) : 0 ≤ (brS K o ln T i).2.1 ∧ (brS K o ln T i).2.1 ≤ i ∧ 0 ≤ (brS K o ln T i).2.2 ∧ (brS K o ln T i).2.2 ≤ i + 1 ∧ ((brS K o ln T i).1 = false → (brS K o ln T i).2.2 ≤ i) := by
  induction i with
  | zero => simp [brS]
  | succ i ih =>
    unfold brS
    split
    · rename_i h
      refine ⟨by omega, by omega, by omega, by omega, fun e => by rw [h] at e; cases e⟩
    · rename_i h
      have h' : (brS K o ln T i).1 = false := Bool.eq_false_iff.2 h
      have := ih.2.2.2.2 h'
      split
      · refine ⟨?_, ?_, ?_, ?_, ?_⟩ <;> (try intro _) <;> dsimp only <;> omega
      · have q := @W.opN_le K (brS K o ln T i).2.2 (T (o + i)) 0 (ln (o + i))
        refine ⟨?_, ?_, ?_, ?_, fun e => by cases e⟩ <;> dsimp only <;> omega
noncomputable def brB (K : Int) (o : Nat) (ln : Nat → Nat) (T : Nat → List Int) (i : Nat) : Bool := (brS K o ln T i).1
noncomputable def brU (K : Int) (o : Nat) (ln : Nat → Nat) (T : Nat → List Int) (i : Nat) : Int := (brS K o ln T i).2.1
noncomputable def brM (K : Int) (o : Nat) (ln : Nat → Nat) (T : Nat → List Int) (i : Nat) : Int := (brS K o ln T i).2.2
theorem broken_loop (K : Int) (o n N : Nat) (ln : Nat → Nat) (T : Nat → List Int) (lt : List Int) (ot nt : Nat) (hN : o + n ≤ N) (hln : ∀ j, ln j ≤ (T j).length) (hTb : ∀ j, W.bytes (T j)) (hTs : ∀ j, (T j).length ≤ 1048576) (hn : n ≤ 1048576) (hlt : ot + nt ≤ lt.length) (ht : nt ≤ 1048576) (hbt : W.bytes lt) :
    CodeOk Try.prog 71 196 (kAt (kOf Try.prog Try.f11) [true, true, true, false, true, false]) (LW0 K o n N ln T lt ot nt) (.exit 0) (LWI K o n N ln T lt ot nt (min n 6) (brB K o ln T (min n 6)) (brU K o ln T (min n 6)) (brM K o ln T (min n 6))) := by
  refine LW_by (fun i : Nat => LWI K o n N ln T lt ot nt i (brS K o ln T i).1 (brS K o ln T i).2.1 (brS K o ln T i).2.2) (fun i => i ≤ min n 6) (fun i => min n 6 - i) (by simp) ?_ 0 (Nat.zero_le _)
  intro i hi
  have L := brS_le K o ln T i
  by_cases h : i < min n 6
  · refine .inl ⟨i + 1, h, by omega, ?_⟩
    by_cases h1 : (brS K o ln T i).1 = true
    · have e : brS K o ln T (i + 1) = brS K o ln T i := if_pos h1
      rw [e]
      exact LW_rttc0 K o n N ln T lt ot nt i _ _ _ hN hln hTb hTs hn hlt ht hbt (by omega) (by omega) (by omega) (by omega) (by omega) h1
    · have h1' : (brS K o ln T i).1 = false := Bool.eq_false_iff.2 h1
      have L5 := L.2.2.2.2 h1'
      by_cases h2 : W.opErr K (brS K o ln T i).2.2 (T (o + i)) 0 (ln (o + i)) = 0
      · have e : brS K o ln T (i + 1) = (false, (brS K o ln T i).2.1 + 1, (brS K o ln T i).2.2 + 1) := by rw [brS, if_neg h1, if_pos h2]
        rw [e]
        exact LW_rttc1c2 K o n N ln T lt ot nt i _ _ _ hN hln hTb hTs hn hlt ht hbt (by omega) (by omega) (by omega) (by omega) (by omega) h1' h2
      · have e : brS K o ln T (i + 1) = (true, (brS K o ln T i).2.1, W.opN K (brS K o ln T i).2.2 (T (o + i)) 0 (ln (o + i))) := by rw [brS, if_neg h1, if_neg h2]
        rw [e]
        exact LW_rttc1c1 K o n N ln T lt ot nt i _ _ _ hN hln hTb hTs hn hlt ht hbt (by omega) (by omega) (by omega) (by omega) (by omega) h1' h2
  · right
    have e : i = min n 6 := by omega
    unfold brB brU brM
    rw [← e]
    by_cases h1 : i < n
    · exact LW_xtf K o n N ln T lt ot nt i _ _ _ hN hln hTb hTs hn hlt ht hbt (by omega) (by omega) (by omega) (by omega) (by omega)
    · exact LW_xf K o n N ln T lt ot nt i _ _ _ hN hln hTb hTs hn hlt ht hbt (by omega) (by omega) (by omega) (by omega)
end Go.Proofs.Ytmfnldkiaodkpaa.Vm

namespace Go.Proofs.Ytmfnldkiaodkpaa.Vm
open Go Go.Proofs Go.Proofs.Ytmfnldkiaodkpaa
set_option maxRecDepth 100000
theorem recordBroken_c0 (K : Int) (o n N : Nat) (ln : Nat → Nat) (T : Nat → List Int) (lt : List Int) (ot nt : Nat)
    (hN : o + n ≤ N)
    (hln : ∀ j, ln j ≤ (T j).length)
    (hTb : ∀ j, W.bytes (T j))
    (hTs : ∀ j, (T j).length ≤ 1048576)
    (hn : n ≤ 1048576)
    (hlt : ot + nt ≤ lt.length)
    (ht : nt ≤ 1048576)
    (hbt : W.bytes lt)
    (q1 : 0 ≤ (brU K o ln T (min n 6)) ∧ (brU K o ln T (min n 6)) ≤ 6)
    (q2 : 0 ≤ (brM K o ln T (min n 6)) ∧ (brM K o ln T (min n 6)) ≤ 7)
    (c0 : (Prod.fst (brS K o ln T (min n (6 : Nat))) = true)) :
    Contract0 Try.prog 11 [(.aggi .u8 (W.bts K)), (.c (.sl 1 0 o n 1)), (.c (.sl 3 0 ot nt 1))] [(1, (.one ⟨false, false, (.gen N (fun j_ => (.sl 2 j_ 0 (ln j_) 1)))⟩)), (2, (.many (fun j_ => some ⟨false, false, (.ints .u8 (T j_))⟩))), (3, (.one ⟨false, false, (.ints .u8 lt)⟩))] 4 (.c (.bool (true))) [2] [] :=
  Contract0.of_frun (res := (.c (.bool (true)))) (up := []) (kill := [2]) (n0 := 4) (m := [(1, (.one ⟨false, false, (.gen N (fun j_ => (.sl 2 j_ 0 (ln j_) 1)))⟩)), (2, (.many (fun j_ => some ⟨false, false, (.ints .u8 (T j_))⟩))), (3, (.one ⟨false, false, (.ints .u8 lt)⟩))]) (args := [(.aggi .u8 (W.bts K)), (.c (.sl 1 0 o n 1)), (.c (.sl 3 0 ot nt 1))]) (fn := Try.f11) (c := bodyOf Try.f11) (fuel := 300) (k := kOf Try.prog Try.f11) (outs := []) (hs := [(3, ⟨.call [] (.c (.ptr 52 0 0)) [] [(52, (.one ⟨true, true, (.cells [(.ptr 53 0 0), (.int .i64 0), (.bool (false))])⟩)), (53, (.one ⟨true, true, (.cells ((W.bts K).map (C.int .u8) ++ [(.bool (true)), (.int .u64 0)]))⟩))], none⟩), (5, ⟨.call [] (.c (.bool (true))) [] [], none⟩), (13, ⟨.sum ⟨[1, 2, 7, 6, 8], [1, 2, 3, 52, 53], [], 196⟩ (.exit 0) (LWI K o n N ln T lt ot nt (min n 6) (brB K o ln T (min n 6)) (brU K o ln T (min n 6)) (brM K o ln T (min n 6))), none⟩), (16, ⟨.call [3] (.c (.sl 228 0 0 (min nt 100) 1)) [] [(228, (.one ⟨true, false, (.ints .u8 (List.take (min nt 100) (List.drop ot lt)))⟩))], none⟩), (17, ⟨.call [52, 228, 53] (.tup [(.c .nils), (.c (.int .i64 4))]) [] [(52, (.one ⟨true, true, (.cells [(.ptr 53 0 0), (.int .i64 ((Prod.snd (brS K o ln T (min n 6))).1)), (.bool ((brS K o ln T (min n 6)).1))])⟩)), (53, (.one ⟨true, true, (.cells ((W.bts K).map (C.int .u8) ++ [(.bool (true)), (.int .u64 ((Prod.snd (brS K o ln T (min n 6))).2))]))⟩))], none⟩), (26, ⟨.call [52, 53] (.c (.bool (true))) [] [], none⟩)])
    (cs := [Contract Try.prog 48 [(.c (.ptr 52 0 0))] [(52, (.one ⟨true, true, (.cells [(.ptr 53 0 0), (.int .i64 ((Prod.snd (brS K o ln T (min n 6))).1)), (.bool ((brS K o ln T (min n 6)).1))])⟩)), (53, (.one ⟨true, true, (.cells ((W.bts K).map (C.int .u8) ++ [(.bool (true)), (.int .u64 ((Prod.snd (brS K o ln T (min n 6))).2))]))⟩))] 388 (.c (.bool (true))) [] [],
      Contract Try.prog 37 [(.c (.ptr 52 0 0)), (.c (.sl 228 0 0 (min nt 100) 1))] [(52, (.one ⟨true, true, (.cells [(.ptr 53 0 0), (.int .i64 ((Prod.snd (brS K o ln T (min n 6))).1)), (.bool ((brS K o ln T (min n 6)).1))])⟩)), (228, (.one ⟨true, false, (.ints .u8 (List.take (min nt 100) (List.drop ot lt)))⟩)), (53, (.one ⟨true, true, (.cells ((W.bts K).map (C.int .u8) ++ [(.bool (true)), (.int .u64 ((Prod.snd (brS K o ln T (min n 6))).2))]))⟩))] 244 (.tup [(.c .nils), (.c (.int .i64 4))]) [] [(52, (.one ⟨true, true, (.cells [(.ptr 53 0 0), (.int .i64 ((Prod.snd (brS K o ln T (min n 6))).1)), (.bool ((brS K o ln T (min n 6)).1))])⟩)), (53, (.one ⟨true, true, (.cells ((W.bts K).map (C.int .u8) ++ [(.bool (true)), (.int .u64 ((Prod.snd (brS K o ln T (min n 6))).2))]))⟩))],
      Contract Try.prog 16 [(.c (.sl 3 0 ot nt 1)), (.c (.int .i64 100))] [(3, (.one ⟨false, false, (.ints .u8 lt)⟩))] 228 (.c (.sl 228 0 0 (min nt 100) 1)) [] [(228, (.one ⟨true, false, (.ints .u8 (List.take (min nt 100) (List.drop ot lt)))⟩))],
      CodeOk Try.prog 71 196 (kAt (kOf Try.prog Try.f11) [true, true, true, false, true, false]) (LW0 K o n N ln T lt ot nt) (.exit 0) (LWI K o n N ln T lt ot nt (min n 6) (brB K o ln T (min n 6)) (brU K o ln T (min n 6)) (brM K o ln T (min n 6))),
      Contract Try.prog 35 [] [] 84 (.c (.bool (true))) [] [],
      Contract Try.prog 49 [(.aggi .u8 (W.bts K))] [] 52 (.c (.ptr 52 0 0)) [] [(52, (.one ⟨true, true, (.cells [(.ptr 53 0 0), (.int .i64 0), (.bool (false))])⟩)), (53, (.one ⟨true, true, (.cells ((W.bts K).map (C.int .u8) ++ [(.bool (true)), (.int .u64 0)]))⟩))]])
    mixed Try.func11 (by kernel_rfl) (by kernel_rfl) (by kernel_rfl) (by kernel_rfl) (by kernel_rfl) ⟨Contract0.inst (hbroken_true (Prod.fst (Prod.snd (brS K o ln T (min n 6)))) (Prod.fst (brS K o ln T (min n 6))) true (Prod.snd (Prod.snd (brS K o ln T (min n 6)))) K (by omega)) [.b 52 1 true [], .b 53 2 true []] [none] [] [] (by kernel_rfl) (by kernel_rfl) (by kernel_rfl) (by kernel_rfl) (by kernel_rfl), Contract0.inst (hsealB true (Prod.fst (brS K o ln T (min n 6))) (Prod.fst (Prod.snd (brS K o ln T (min n 6)))) (Prod.snd (Prod.snd (brS K o ln T (min n 6)))) K (List.take (min nt 100) (List.drop ot lt)) 0 (min nt 100) c0) [.b 52 1 false [], .b 53 2 false [], .b 228 3 true []] [none, none] [] [] (by kernel_rfl) (by kernel_rfl) (by kernel_rfl) (by kernel_rfl) (by kernel_rfl), Contract0.inst (few_raw lt ot nt 100 (by omega) (by omega)) [.b 3 1 true []] [none, none] [(2, 228)] [] (by kernel_rfl) (by kernel_rfl) (by kernel_rfl) (by kernel_rfl) (by kernel_rfl), (broken_loop K o n N ln T lt ot nt (by omega) (by omega) (by omega) (by omega) (by omega) (by omega) (by omega) (by omega)), Contract0.inst known16 [] [] [] [] (by kernel_rfl) (by kernel_rfl) (by kernel_rfl) (by kernel_rfl) (by kernel_rfl), Contract0.inst (lhalf K) [] [none] [(1, 52), (2, 53)] [] (by kernel_rfl) (by kernel_rfl) (by kernel_rfl) (by kernel_rfl) (by kernel_rfl), trivial⟩

theorem recordBroken_c1 (K : Int) (o n N : Nat) (ln : Nat → Nat) (T : Nat → List Int) (lt : List Int) (ot nt : Nat)
    (hN : o + n ≤ N)
    (hln : ∀ j, ln j ≤ (T j).length)
    (hTb : ∀ j, W.bytes (T j))
    (hTs : ∀ j, (T j).length ≤ 1048576)
    (hn : n ≤ 1048576)
    (hlt : ot + nt ≤ lt.length)
    (ht : nt ≤ 1048576)
    (hbt : W.bytes lt)
    (q1 : 0 ≤ (brU K o ln T (min n 6)) ∧ (brU K o ln T (min n 6)) ≤ 6)
    (q2 : 0 ≤ (brM K o ln T (min n 6)) ∧ (brM K o ln T (min n 6)) ≤ 7)
    (c0 : (Prod.fst (brS K o ln T (min n (6 : Nat))) = false))
    (c1 : ((0 : Int) ≤ Prod.snd (Prod.snd (brS K o ln T (min n (6 : Nat)))) ∧ Prod.snd (Prod.snd (brS K o ln T (min n (6 : Nat)))) < (18446744073709551616 : Int)))
    (c2 : (¬Prod.snd (Prod.snd (brS K o ln T (min n (6 : Nat)))) = (18446744073709551615 : Int)))
    (c3 : ((0 : Int) ≤ Prod.fst (Prod.snd (brS K o ln T (min n (6 : Nat)))) ∧ Prod.fst (Prod.snd (brS K o ln T (min n (6 : Nat)))) < (1000000 : Int)))
    (c4 : (¬(Prod.fst (Prod.snd (brS K o ln T (min n (6 : Nat)))) + (1 : Int)) % (16 : Int) = (0 : Int))) :
    Contract0 Try.prog 11 [(.aggi .u8 (W.bts K)), (.c (.sl 1 0 o n 1)), (.c (.sl 3 0 ot nt 1))] [(1, (.one ⟨false, false, (.gen N (fun j_ => (.sl 2 j_ 0 (ln j_) 1)))⟩)), (2, (.many (fun j_ => some ⟨false, false, (.ints .u8 (T j_))⟩))), (3, (.one ⟨false, false, (.ints .u8 lt)⟩))] 4 (.c (.bool (true))) [2] [] :=
  Contract0.of_frun (res := (.c (.bool (true)))) (up := []) (kill := [2]) (n0 := 4) (m := [(1, (.one ⟨false, false, (.gen N (fun j_ => (.sl 2 j_ 0 (ln j_) 1)))⟩)), (2, (.many (fun j_ => some ⟨false, false, (.ints .u8 (T j_))⟩))), (3, (.one ⟨false, false, (.ints .u8 lt)⟩))]) (args := [(.aggi .u8 (W.bts K)), (.c (.sl 1 0 o n 1)), (.c (.sl 3 0 ot nt 1))]) (fn := Try.f11) (c := bodyOf Try.f11) (fuel := 300) (k := kOf Try.prog Try.f11) (outs := []) (hs := [(3, ⟨.call [] (.c (.ptr 52 0 0)) [] [(52, (.one ⟨true, true, (.cells [(.ptr 53 0 0), (.int .i64 0), (.bool (false))])⟩)), (53, (.one ⟨true, true, (.cells ((W.bts K).map (C.int .u8) ++ [(.bool (true)), (.int .u64 0)]))⟩))], none⟩), (5, ⟨.call [] (.c (.bool (true))) [] [], none⟩), (13, ⟨.sum ⟨[1, 2, 7, 6, 8], [1, 2, 3, 52, 53], [], 196⟩ (.exit 0) (LWI K o n N ln T lt ot nt (min n 6) (brB K o ln T (min n 6)) (brU K o ln T (min n 6)) (brM K o ln T (min n 6))), none⟩), (16, ⟨.call [3] (.c (.sl 228 0 0 (min nt 100) 1)) [] [(228, (.one ⟨true, false, (.ints .u8 (List.take (min nt 100) (List.drop ot lt)))⟩))], none⟩), (17, ⟨.call [52, 228, 53] (.tup [(.c (.sl 244 0 0 (W.bkt (min nt 100) + 18) 1)), (.c (.int .i64 0))]) [] [(52, (.one ⟨true, true, (.cells [(.ptr 53 0 0), (.int .i64 ((Prod.snd (brS K o ln T (min n 6))).1 + 1)), (.bool (false))])⟩)), (53, (.one ⟨true, true, (.cells ((W.bts K).map (C.int .u8) ++ [(.bool (true)), (.int .u64 ((Prod.snd (brS K o ln T (min n 6))).2 + 1))]))⟩)), (244, (.one ⟨true, false, (.ints .u8 (W.rcd K (Prod.snd (brS K o ln T (min n 6))).2 (min nt 100) (List.take (min nt 100) (List.take (min nt 100) (List.drop ot lt)))))⟩))], none⟩), (26, ⟨.call [52, 53] (.c (.bool (false))) [] [], none⟩)])
    (cs := [Contract Try.prog 48 [(.c (.ptr 52 0 0))] [(52, (.one ⟨true, true, (.cells [(.ptr 53 0 0), (.int .i64 ((Prod.snd (brS K o ln T (min n 6))).1 + 1)), (.bool (false))])⟩)), (53, (.one ⟨true, true, (.cells ((W.bts K).map (C.int .u8) ++ [(.bool (true)), (.int .u64 ((Prod.snd (brS K o ln T (min n 6))).2 + 1))]))⟩))] 388 (.c (.bool (false))) [] [],
      Contract Try.prog 37 [(.c (.ptr 52 0 0)), (.c (.sl 228 0 0 (min nt 100) 1))] [(52, (.one ⟨true, true, (.cells [(.ptr 53 0 0), (.int .i64 ((Prod.snd (brS K o ln T (min n 6))).1)), (.bool ((brS K o ln T (min n 6)).1))])⟩)), (228, (.one ⟨true, false, (.ints .u8 (List.take (min nt 100) (List.drop ot lt)))⟩)), (53, (.one ⟨true, true, (.cells ((W.bts K).map (C.int .u8) ++ [(.bool (true)), (.int .u64 ((Prod.snd (brS K o ln T (min n 6))).2))]))⟩))] 244 (.tup [(.c (.sl 244 0 0 (W.bkt (min nt 100) + 18) 1)), (.c (.int .i64 0))]) [] [(52, (.one ⟨true, true, (.cells [(.ptr 53 0 0), (.int .i64 ((Prod.snd (brS K o ln T (min n 6))).1 + 1)), (.bool (false))])⟩)), (53, (.one ⟨true, true, (.cells ((W.bts K).map (C.int .u8) ++ [(.bool (true)), (.int .u64 ((Prod.snd (brS K o ln T (min n 6))).2 + 1))]))⟩)), (244, (.one ⟨true, false, (.ints .u8 (W.rcd K (Prod.snd (brS K o ln T (min n 6))).2 (min nt 100) (List.take (min nt 100) (List.take (min nt 100) (List.drop ot lt)))))⟩))],
      Contract Try.prog 16 [(.c (.sl 3 0 ot nt 1)), (.c (.int .i64 100))] [(3, (.one ⟨false, false, (.ints .u8 lt)⟩))] 228 (.c (.sl 228 0 0 (min nt 100) 1)) [] [(228, (.one ⟨true, false, (.ints .u8 (List.take (min nt 100) (List.drop ot lt)))⟩))],
      CodeOk Try.prog 71 196 (kAt (kOf Try.prog Try.f11) [true, true, true, false, true, false]) (LW0 K o n N ln T lt ot nt) (.exit 0) (LWI K o n N ln T lt ot nt (min n 6) (brB K o ln T (min n 6)) (brU K o ln T (min n 6)) (brM K o ln T (min n 6))),
      Contract Try.prog 35 [] [] 84 (.c (.bool (true))) [] [],
      Contract Try.prog 49 [(.aggi .u8 (W.bts K))] [] 52 (.c (.ptr 52 0 0)) [] [(52, (.one ⟨true, true, (.cells [(.ptr 53 0 0), (.int .i64 0), (.bool (false))])⟩)), (53, (.one ⟨true, true, (.cells ((W.bts K).map (C.int .u8) ++ [(.bool (true)), (.int .u64 0)]))⟩))]])
    mixed Try.func11 (by kernel_rfl) (by kernel_rfl) (by kernel_rfl) (by kernel_rfl) (by kernel_rfl) ⟨Contract0.inst (hbroken_false (Prod.fst (Prod.snd (brS K o ln T (min n 6))) + 1) false true (Prod.snd (Prod.snd (brS K o ln T (min n 6))) + 1) K rfl) [.b 52 1 true [], .b 53 2 true []] [none] [] [] (by kernel_rfl) (by kernel_rfl) (by kernel_rfl) (by kernel_rfl) (by kernel_rfl), Contract0.inst (hsealY_f true (Prod.fst (brS K o ln T (min n 6))) (Prod.fst (Prod.snd (brS K o ln T (min n 6)))) (Prod.snd (Prod.snd (brS K o ln T (min n 6)))) K (List.take (min nt 100) (List.drop ot lt)) 0 (min nt 100) c0 (by simp only [and_true, List.length_set, List.length_append, List.length_replicate, List.length_take, List.length_drop, List.length_map, List.length_cons, List.length_nil, List.length_zipWith, splice_len1, W.le_len, W.bts_len, Int.toNat_natCast, addO_eq, mulE_eq, mulE_one, W.once_len, W.block_len, W.p8_len, W.apply_len, W.boxTag_len, W.box_len, W.nonce_len, W.hand_len, W.tag_len, W.padd_len, W.frm_len]; omega) (by repeat' with_reducible first | assumption | exact W.p8_bytes | exact W.bytes_zero | exact W.apply_bytes | exact W.once_bytes | exact W.tag_bytes | exact W.boxTag_bytes | exact W.box_bytes | exact W.bytes_nil | exact W.bts_bytes | exact W.le_bytes | exact W.hand_bytes | exact W.padd_bytes | exact W.frm_bytes | apply W.bytes_app | apply W.bytes_take | apply W.bytes_drop) (by omega) c1 c2 c3 c4) [.b 52 1 false [], .b 53 2 false [], .b 228 3 true []] [none, none] [(4, 244)] [] (by kernel_rfl) (by kernel_rfl) (by kernel_rfl) (by kernel_rfl) (by kernel_rfl), Contract0.inst (few_raw lt ot nt 100 (by omega) (by omega)) [.b 3 1 true []] [none, none] [(2, 228)] [] (by kernel_rfl) (by kernel_rfl) (by kernel_rfl) (by kernel_rfl) (by kernel_rfl), (broken_loop K o n N ln T lt ot nt (by omega) (by omega) (by omega) (by omega) (by omega) (by omega) (by omega) (by omega)), Contract0.inst known16 [] [] [] [] (by kernel_rfl) (by kernel_rfl) (by kernel_rfl) (by kernel_rfl) (by kernel_rfl), Contract0.inst (lhalf K) [] [none] [(1, 52), (2, 53)] [] (by kernel_rfl) (by kernel_rfl) (by kernel_rfl) (by kernel_rfl) (by kernel_rfl), trivial⟩


-- recordBroken: 2549 ms
end Go.Proofs.Ytmfnldkiaodkpaa.Vm

namespace Go.Proofs.Ytmfnldkiaodkpaa.Vm
open Go Go.Proofs Go.Proofs.Ytmfnldkiaodkpaa
theorem recordBroken_law (k : List Int) (hk : k.length = 32) (hkb : W.bytes k) (N : Nat) (ln : Nat → Nat) (T : Nat → List Int) (n : Nat) (hN : 0 + n ≤ N) (hln : ∀ j, ln j ≤ (T j).length) (hTb : ∀ j, W.bytes (T j)) (hTs : ∀ j, (T j).length ≤ 1048576) (hn : n ≤ 1048576)
    (lt : List Int) (nt : Nat) (hlt : 0 + nt ≤ lt.length) (hbt : W.bytes lt) (hst : lt.length ≤ 1048576) :
    Contract0 Try.prog 11 [(.aggi .u8 k), (.c (.sl 1 0 0 n 1)), (.c (.sl 3 0 0 nt 1))] (memS [.fam ⟨false, false, .gen N (fun j => C.sl 2 j 0 (ln j) 1)⟩ (fun j => ⟨false, false, .ints .u8 (T j)⟩), .one ⟨false, false, .ints .u8 lt⟩] 1) 4 (.c (.bool true)) [2] [] := by
  have e := key_bts hk hkb
  rw [e]
  have L := brS_le (W.num k) 0 ln T (min n 6)
  have q1 : 0 ≤ brU (W.num k) 0 ln T (min n 6) ∧ brU (W.num k) 0 ln T (min n 6) ≤ 6 := by unfold brU; omega
  have q2 : 0 ≤ brM (W.num k) 0 ln T (min n 6) ∧ brM (W.num k) 0 ln T (min n 6) ≤ 7 := by unfold brM; omega
  by_cases h : (brS (W.num k) 0 ln T (min n 6)).1 = true
  · exact recordBroken_c0 (W.num k) 0 n N ln T lt 0 nt hN hln hTb hTs hn hlt (by omega) hbt q1 q2 h
  · exact recordBroken_c1 (W.num k) 0 n N ln T lt 0 nt hN hln hTb hTs hn hlt (by omega) hbt q1 q2 (Bool.eq_false_iff.2 h) (by omega) (by omega) (by omega) (by omega)
end Go.Proofs.Ytmfnldkiaodkpaa.Vm
