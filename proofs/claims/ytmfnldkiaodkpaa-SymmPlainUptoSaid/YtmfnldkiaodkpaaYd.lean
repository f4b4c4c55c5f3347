/- What functions of the program come to: parts of the walk (Yd). -/
import Derived.Test.YtmfnldkiaodkpaaYc
import Derived.Test.YtmfnldkiaodkpaaVmc
import Derived.KernelRfl
import Derived.Test.YtmfnldkiaodkpaaProg
set_option linter.unusedSimpArgs false
set_option linter.unusedVariables false
namespace Go.Proofs.Ytmfnldkiaodkpaa.Vm
open Go Go.Proofs Go.Proofs.Ytmfnldkiaodkpaa
set_option maxRecDepth 100000
def LSPI (o n N : Nat) (ln : Nat → Nat) (T : Nat → List Int) (w : Nat) (x z y : Int) : S0 :=
  ⟨[(0, (.c (.sl 1 0 o n 1))), (3, (.c (.ptr 19 0 0))), (4, (.c (.ptr 51 0 0))), (2, (.c (.bool false))), (5, (.c (.int .i64 ((↑w : Int)))))], [(1, (.one ⟨false, false, (.gen N (fun j_ => (.sl 2 j_ 0 (ln j_) 1)))⟩)), (2, (.many (fun j_ => some ⟨false, false, (.ints .u8 (T j_))⟩))), (19, (.one ⟨true, true, .cells ([.ptr 20 0 0] ++ (W.bts x).map (C.int .u8) ++ (W.bts z).map (C.int .u8))⟩)), (20, (.one ⟨true, true, .cells ((W.bts y).map (C.int .u8) ++ [.bool false, .int .u64 0])⟩)), (51, (.one ⟨true, true, .cells ([.ptr 52 0 0] ++ (W.bts x).map (C.int .u8) ++ (W.bts z).map (C.int .u8))⟩)), (52, (.one ⟨true, true, .cells ((W.bts y).map (C.int .u8) ++ [.bool false, .int .u64 0])⟩))], 259⟩
theorem LSP_by {α : Type} (I : α → S0) (Inv : α → Prop) (μ : α → Nat) {ex : Ex} {s' : S0} (hex : ex ≠ .normal)
    (step : ∀ x, Inv x → (∃ y, Inv y ∧ μ y < μ x ∧ CodeOk Try.prog 82 259 (kAt (kOf Try.prog Try.f12) [true, true, true, true, false, true, false, false]) (I x) .normal (I y)) ∨ CodeOk Try.prog 82 259 (kAt (kOf Try.prog Try.f12) [true, true, true, true, false, true, false, false]) (I x) ex s') (x : α) (hx : Inv x) :
    CodeOk Try.prog 82 259 (kAt (kOf Try.prog Try.f12) [true, true, true, true, false, true, false]) (I x) ex s' := by
  have hk : (kAt (kOf Try.prog Try.f12) [true, true, true, true, false, true, false]) = .loop (kAt (kOf Try.prog Try.f12) [true, true, true, true, false, true, false, false]) := by kernel_rfl
  rw [hk]
  exact CodeOk.loop I Inv μ hex step x hx
-- init: fit: block 19: Ent.one { own := true, ex := true, body := Body.cells ([C.ptr 20 0 0] ++ List.map (C.int IntKind.u8) (W.bts ?m.20955) ++ List.map (C.int IntKind.u8) (W.bts ?m.20956)) } / (.one ⟨true, true, (.cells [(.ptr 20 0 0), (.int .u8 120), (.int .u8 0), (.int .u8 0), (.int .u8 0), (.int .u8 0), (.int .u8 0), (.int .u8 0), (.int .u8 0), (.int .u8 0), (.int .u8 0), (.int .u8 0), (.int .u8 0), (.int .u8 0), (.int .u8 0), (.int .u8 0), (.int .u8 0), (.int .u8 0), (.int .u8 0), (.int .u8 0), (.int .u8 0), (.int .u8 0), (.int .u8 0), (.int .u8 0), (.int .u8 0), (.int .u8 0), (.int .u8 0), (.int .u8 0), (.int .u8 0), (.int .u8 0), (.int .u8 0), (.int .u8 0), (.int .u8 0), (.int .u8 120), (.int .u8 0), (.int .u8 0), (.int .u8 0), (.int .u8 0), (.int .u8 0), (.int .u8 0), (.int .u8 0), (.int .u8 0), (.int .u8 0), (.int .u8 0), (.int .u8 0), (.int .u8 0), (.int .u8 0), (.int .u8 0), (.int .u8 0), (.int .u8 0), (.int .u8 0), (.int .u8 0), (.int .u8 0), (.int .u8 0), (.int .u8 0), (.int .u8 0), (.int .u8 0), (.int .u8 0), (.int .u8 0), (.int .u8 0), (.int .u8 0), (.int .u8 0), (.int .u8 0), (.int .u8 0), (.int .u8 0)])⟩)
def LSP0 (o n N : Nat) (ln : Nat → Nat) (T : Nat → List Int) : S0 :=
  ⟨[(0, (.c (.sl 1 0 o n 1))), (3, (.c (.ptr 19 0 0))), (4, (.c (.ptr 51 0 0))), (2, (.c (.bool (false)))), (5, (.c (.int .i64 0)))], [(1, (.one ⟨false, false, (.gen N (fun j_ => (.sl 2 j_ 0 (ln j_) 1)))⟩)), (2, (.many (fun j_ => some ⟨false, false, (.ints .u8 (T j_))⟩))), (19, (.one ⟨true, true, (.cells [(.ptr 20 0 0), (.int .u8 120), (.int .u8 0), (.int .u8 0), (.int .u8 0), (.int .u8 0), (.int .u8 0), (.int .u8 0), (.int .u8 0), (.int .u8 0), (.int .u8 0), (.int .u8 0), (.int .u8 0), (.int .u8 0), (.int .u8 0), (.int .u8 0), (.int .u8 0), (.int .u8 0), (.int .u8 0), (.int .u8 0), (.int .u8 0), (.int .u8 0), (.int .u8 0), (.int .u8 0), (.int .u8 0), (.int .u8 0), (.int .u8 0), (.int .u8 0), (.int .u8 0), (.int .u8 0), (.int .u8 0), (.int .u8 0), (.int .u8 0), (.int .u8 120), (.int .u8 0), (.int .u8 0), (.int .u8 0), (.int .u8 0), (.int .u8 0), (.int .u8 0), (.int .u8 0), (.int .u8 0), (.int .u8 0), (.int .u8 0), (.int .u8 0), (.int .u8 0), (.int .u8 0), (.int .u8 0), (.int .u8 0), (.int .u8 0), (.int .u8 0), (.int .u8 0), (.int .u8 0), (.int .u8 0), (.int .u8 0), (.int .u8 0), (.int .u8 0), (.int .u8 0), (.int .u8 0), (.int .u8 0), (.int .u8 0), (.int .u8 0), (.int .u8 0), (.int .u8 0), (.int .u8 0)])⟩)), (20, (.one ⟨true, true, (.cells ((W.bts 0).map (C.int .u8) ++ [(.bool (false)), (.int .u64 0)]))⟩)), (51, (.one ⟨true, true, (.cells [(.ptr 52 0 0), (.int .u8 120), (.int .u8 0), (.int .u8 0), (.int .u8 0), (.int .u8 0), (.int .u8 0), (.int .u8 0), (.int .u8 0), (.int .u8 0), (.int .u8 0), (.int .u8 0), (.int .u8 0), (.int .u8 0), (.int .u8 0), (.int .u8 0), (.int .u8 0), (.int .u8 0), (.int .u8 0), (.int .u8 0), (.int .u8 0), (.int .u8 0), (.int .u8 0), (.int .u8 0), (.int .u8 0), (.int .u8 0), (.int .u8 0), (.int .u8 0), (.int .u8 0), (.int .u8 0), (.int .u8 0), (.int .u8 0), (.int .u8 0), (.int .u8 120), (.int .u8 0), (.int .u8 0), (.int .u8 0), (.int .u8 0), (.int .u8 0), (.int .u8 0), (.int .u8 0), (.int .u8 0), (.int .u8 0), (.int .u8 0), (.int .u8 0), (.int .u8 0), (.int .u8 0), (.int .u8 0), (.int .u8 0), (.int .u8 0), (.int .u8 0), (.int .u8 0), (.int .u8 0), (.int .u8 0), (.int .u8 0), (.int .u8 0), (.int .u8 0), (.int .u8 0), (.int .u8 0), (.int .u8 0), (.int .u8 0), (.int .u8 0), (.int .u8 0), (.int .u8 0), (.int .u8 0)])⟩)), (52, (.one ⟨true, true, (.cells ((W.bts 0).map (C.int .u8) ++ [(.bool (false)), (.int .u64 0)]))⟩))], 259⟩
theorem LSP_rtt (o n N : Nat) (ln : Nat → Nat) (T : Nat → List Int) (w : Nat) (x z y : Int)
    (hN : o + n ≤ N)
    (hln : ∀ j, ln j ≤ (T j).length)
    (hTb : ∀ j, W.bytes (T j))
    (hTs : ∀ j, (T j).length ≤ 1048576)
    (hn : n ≤ 1048576)
    (hw : w ≤ 10)
    (h1 : ((↑w : Int) < (↑n : Int)))
    (h2 : ((↑w : Int) < (10 : Int)))
    (c3 : ((0 : Nat) + ln (o + w) ≤ List.length (List.take (ln (o + w)) (T (o + w))))) :
    CodeOk Try.prog 82 259 (kAt (kOf Try.prog Try.f12) [true, true, true, true, false, true, false, false]) (LSPI o n N ln T w x z y) .normal (LSPI o n N ln T (w + 1) x (W.mx z (List.take (ln (o + w)) (T (o + w)))) y) :=
  CodeOk.of_runs (fuel := 300) (v := ⟨[0, 3, 4, 2, 5], [1, 2, 19, 20, 51, 52], [], 259⟩) (hs := [(4, ⟨.auto, some (.c (.bool (true)))⟩), (7, ⟨.auto, some (.c (.bool (true)))⟩), (12, ⟨.ask, some (.c (.ptr 1 0 (o + w)))⟩), (13, ⟨.ask, none⟩), (14, ⟨.call [19, 2, 20] (.tup [(.c (.sl 467 0 0 (ln (o + w)) 1)), (.c (.int .i64 0))]) [] [(19, (.one ⟨true, true, (.cells ([(.ptr 20 0 0)] ++ ((W.bts x).map (C.int .u8)) ++ ((W.bts (W.mx z (List.take (ln (o + w)) (T (o + w))))).map (C.int .u8))))⟩)), (20, (.one ⟨true, true, (.cells ((W.bts y).map (C.int .u8) ++ [(.bool (false)), (.int .u64 0)]))⟩)), (467, (.one ⟨true, false, (.ints .u8 (List.take (ln (o + w)) (T (o + w))))⟩))], none⟩), (23, ⟨.ask, some (.c (.ptr 1 0 (o + w)))⟩), (24, ⟨.ask, none⟩), (25, ⟨.call [51, 2, 52] (.tup []) [] [(51, (.one ⟨true, true, (.cells ([(.ptr 52 0 0)] ++ ((W.bts x).map (C.int .u8)) ++ ((W.bts (W.mx z (List.take (ln (o + w)) (T (o + w))))).map (C.int .u8))))⟩)), (52, (.one ⟨true, true, (.cells ((W.bts y).map (C.int .u8) ++ [(.bool (false)), (.int .u64 0)]))⟩))], none⟩), (30, ⟨.ask, none⟩), (33, ⟨.ask, some (.c (.ptr 1 0 (o + w)))⟩), (34, ⟨.ask, none⟩), (35, ⟨.ask, none⟩), (36, ⟨.ask, some (.c (.bool (false)))⟩), (40, ⟨.call [19, 20] (.aggi .u8 (W.bts (W.mx z (List.take (ln (o + w)) (T (o + w)))))) [] [], none⟩), (42, ⟨.call [51, 52] (.aggi .u8 (W.bts (W.mx z (List.take (ln (o + w)) (T (o + w)))))) [] [], none⟩), (43, ⟨.auto, some (.c (.bool (false)))⟩), (47, ⟨.auto, some (.c (.int .i64 (↑(w + 1))))⟩)])
    (cs := [EI .i64 (IntKind.wrap IntKind.i64 ((↑w : Int) + 1)) ((↑(w + 1) : Int)),
      EB (!W.bts (W.mx z (List.take (ln (o + w)) (T (o + w)))) == W.bts (W.mx z (List.take (ln (o + w)) (T (o + w))))) false,
      Contract Try.prog 23 [(.c (.ptr 51 0 0))] [(51, (.one ⟨true, true, (.cells ([(.ptr 52 0 0)] ++ ((W.bts x).map (C.int .u8)) ++ ((W.bts (W.mx z (List.take (ln (o + w)) (T (o + w))))).map (C.int .u8))))⟩)), (52, (.one ⟨true, true, (.cells ((W.bts y).map (C.int .u8) ++ [(.bool (false)), (.int .u64 0)]))⟩))] 915 (.aggi .u8 (W.bts (W.mx z (List.take (ln (o + w)) (T (o + w)))))) [] [],
      Contract Try.prog 23 [(.c (.ptr 19 0 0))] [(19, (.one ⟨true, true, (.cells ([(.ptr 20 0 0)] ++ ((W.bts x).map (C.int .u8)) ++ ((W.bts (W.mx z (List.take (ln (o + w)) (T (o + w))))).map (C.int .u8))))⟩)), (20, (.one ⟨true, true, (.cells ((W.bts y).map (C.int .u8) ++ [(.bool (false)), (.int .u64 0)]))⟩))] 883 (.aggi .u8 (W.bts (W.mx z (List.take (ln (o + w)) (T (o + w)))))) [] [],
      EB (!ByteArray.toList { data := List.toArray (List.map (fun n => UInt8.ofNat (Int.toNat n)) (List.take (ln (o + w)) (List.drop 0 (List.take (ln (o + w)) (T (o + w)))))) } == ByteArray.toList { data := List.toArray (List.map (fun n => UInt8.ofNat (Int.toNat n)) (List.take (ln (o + w)) (List.drop 0 (T (o + w))))) }) false,
      ((0 : Nat) + ln (o + w) ≤ List.length (T (o + w))),
      (o + w + (1 : Nat) ≤ N),
      ((.c (.ptr 1 0 (addO o w))) : V) = (.c (.ptr 1 0 (o + w))),
      ((0 : Int) ≤ (↑w : Int) ∧ (↑w : Int) < (↑n : Int)),
      ((0 : Nat) + ln (o + w) ≤ List.length (List.take (ln (o + w)) (T (o + w)))),
      Contract Try.prog 25 [(.c (.ptr 51 0 0)), (.c (.sl 2 (o + w) 0 (ln (o + w)) 1))] [(51, (.one ⟨true, true, (.cells ([(.ptr 52 0 0)] ++ ((W.bts x).map (C.int .u8)) ++ ((W.bts z).map (C.int .u8))))⟩)), (2, (.many (fun j_ => some ⟨false, false, (.ints .u8 (T j_))⟩))), (52, (.one ⟨true, true, (.cells ((W.bts y).map (C.int .u8) ++ [(.bool (false)), (.int .u64 0)]))⟩))] 643 (.tup []) [] [(51, (.one ⟨true, true, (.cells ([(.ptr 52 0 0)] ++ ((W.bts x).map (C.int .u8)) ++ ((W.bts (W.mx z (List.take (ln (o + w)) (T (o + w))))).map (C.int .u8))))⟩)), (52, (.one ⟨true, true, (.cells ((W.bts y).map (C.int .u8) ++ [(.bool (false)), (.int .u64 0)]))⟩))],
      (o + w + (1 : Nat) ≤ N),
      ((.c (.ptr 1 0 (addO o w))) : V) = (.c (.ptr 1 0 (o + w))),
      ((0 : Int) ≤ (↑w : Int) ∧ (↑w : Int) < (↑n : Int)),
      Contract Try.prog 51 [(.c (.ptr 19 0 0)), (.c (.sl 2 (o + w) 0 (ln (o + w)) 1))] [(19, (.one ⟨true, true, (.cells ([(.ptr 20 0 0)] ++ ((W.bts x).map (C.int .u8)) ++ ((W.bts z).map (C.int .u8))))⟩)), (2, (.many (fun j_ => some ⟨false, false, (.ints .u8 (T j_))⟩))), (20, (.one ⟨true, true, (.cells ((W.bts y).map (C.int .u8) ++ [(.bool (false)), (.int .u64 0)]))⟩))] 467 (.tup [(.c (.sl 467 0 0 (ln (o + w)) 1)), (.c (.int .i64 0))]) [] [(19, (.one ⟨true, true, (.cells ([(.ptr 20 0 0)] ++ ((W.bts x).map (C.int .u8)) ++ ((W.bts (W.mx z (List.take (ln (o + w)) (T (o + w))))).map (C.int .u8))))⟩)), (20, (.one ⟨true, true, (.cells ((W.bts y).map (C.int .u8) ++ [(.bool (false)), (.int .u64 0)]))⟩)), (467, (.one ⟨true, false, (.ints .u8 (List.take (ln (o + w)) (T (o + w))))⟩))],
      (o + w + (1 : Nat) ≤ N),
      ((.c (.ptr 1 0 (addO o w))) : V) = (.c (.ptr 1 0 (o + w))),
      ((0 : Int) ≤ (↑w : Int) ∧ (↑w : Int) < (↑n : Int)),
      EB (decide ((↑w : Int) < 10)) true,
      EB (decide ((↑w : Int) < (↑n : Int))) true])
    mixed (by kernel_rfl) ⟨.mk (by simp only [addO_eq, mulE_eq, mulE_one, Int.toNat_natCast, IntKind.wrap_i64, mmin, mmax]; omega), .mk (not_f (by simp)), Contract0.inst (yhash x (W.mx z (List.take (ln (o + w)) (T (o + w)))) y 0 false) [.b 51 1 true [], .b 52 2 true []] [none] [] [] (by kernel_rfl) (by kernel_rfl) (by kernel_rfl) (by kernel_rfl) (by kernel_rfl), Contract0.inst (yhash x (W.mx z (List.take (ln (o + w)) (T (o + w)))) y 0 false) [.b 19 1 true [], .b 20 2 true []] [none] [] [] (by kernel_rfl) (by kernel_rfl) (by kernel_rfl) (by kernel_rfl) (by kernel_rfl), .mk (not_f (strEq_t (by simp only [List.take_take, Nat.min_self, List.drop_zero]))), (by rw [Nat.zero_add]; exact hln _), (by omega), EV.ptr (by simp only [addO_eq, mulE_eq, mulE_one, Int.toNat_natCast, IntKind.wrap_i64, mmin, mmax]), (by omega), c3, ContractN.fin (ContractN.fam (k := .u8) (l := (T (o + w))) (ex := false) (args1 := [(.c (.ptr 51 0 0)), (.c (.sl 658 0 0 (ln (o + w)) 1))]) 658 2 (o + w) (Contract0.instN (ymix_ok true x z y 0 false (T (o + w)) 0 (ln (o + w)) (by rw [Nat.zero_add]; exact hln _) (by exact Nat.le_trans (Nat.le_trans (hln _) (hTs _)) (by decide))) [.b 51 1 false [], .b 52 2 false [], .b 658 3 true []] [none, none] [] [] (by kernel_rfl) (by kernel_rfl) (by kernel_rfl) (by kernel_rfl) (by kernel_rfl)) (by kernel_rfl) (by kernel_rfl) (by kernel_rfl) (by kernel_rfl) (by kernel_rfl) (by kernel_rfl)) (by kernel_rfl), (by omega), EV.ptr (by simp only [addO_eq, mulE_eq, mulE_one, Int.toNat_natCast, IntKind.wrap_i64, mmin, mmax]), (by omega), ContractN.fin (ContractN.fam (k := .u8) (l := (T (o + w))) (ex := false) (args1 := [(.c (.ptr 19 0 0)), (.c (.sl 482 0 0 (ln (o + w)) 1))]) 482 2 (o + w) (Contract0.instN (yseal0 true x z y 0 (T (o + w)) 0 (ln (o + w)) (by rw [Nat.zero_add]; exact hln _) (by exact Nat.le_trans (Nat.le_trans (hln _) (hTs _)) (by decide)) (by exact hTb _) (by omega)) [.b 19 1 false [], .b 20 2 false [], .b 482 3 true []] [none, none] [(4, 467)] [] (by kernel_rfl) (by kernel_rfl) (by kernel_rfl) (by kernel_rfl) (by kernel_rfl)) (by kernel_rfl) (by kernel_rfl) (by kernel_rfl) (by kernel_rfl) (by kernel_rfl) (by kernel_rfl)) (by kernel_rfl), (by omega), EV.ptr (by simp only [addO_eq, mulE_eq, mulE_one, Int.toNat_natCast, IntKind.wrap_i64, mmin, mmax]), (by omega), .mk (decide_eq_true h2), .mk (decide_eq_true h1), trivial⟩
theorem LSP_xtf (o n N : Nat) (ln : Nat → Nat) (T : Nat → List Int) (w : Nat) (x z y : Int)
    (hN : o + n ≤ N)
    (hln : ∀ j, ln j ≤ (T j).length)
    (hTb : ∀ j, W.bytes (T j))
    (hTs : ∀ j, (T j).length ≤ 1048576)
    (hn : n ≤ 1048576)
    (hw : w ≤ 10)
    (h1 : ((↑w : Int) < (↑n : Int)))
    (h2 : (¬(↑w : Int) < (10 : Int))) :
    CodeOk Try.prog 82 259 (kAt (kOf Try.prog Try.f12) [true, true, true, true, false, true, false, false]) (LSPI o n N ln T w x z y) (.exit 0) (LSPI o n N ln T w x z y) :=
  CodeOk.of_runs (fuel := 300) (v := ⟨[0, 3, 4, 2, 5], [1, 2, 19, 20, 51, 52], [], 259⟩) (hs := [(4, ⟨.auto, some (.c (.bool (true)))⟩), (7, ⟨.auto, some (.c (.bool (false)))⟩)])
    (cs := [EB (decide ((↑w : Int) < 10)) false,
      EB (decide ((↑w : Int) < (↑n : Int))) true])
    mixed (by kernel_rfl) ⟨.mk (decide_eq_false h2), .mk (decide_eq_true h1), trivial⟩
theorem LSP_xf (o n N : Nat) (ln : Nat → Nat) (T : Nat → List Int) (w : Nat) (x z y : Int)
    (hN : o + n ≤ N)
    (hln : ∀ j, ln j ≤ (T j).length)
    (hTb : ∀ j, W.bytes (T j))
    (hTs : ∀ j, (T j).length ≤ 1048576)
    (hn : n ≤ 1048576)
    (hw : w ≤ 10)
    (h1 : (¬(↑w : Int) < (↑n : Int))) :
    CodeOk Try.prog 82 259 (kAt (kOf Try.prog Try.f12) [true, true, true, true, false, true, false, false]) (LSPI o n N ln T w x z y) (.exit 0) (LSPI o n N ln T w x z y) :=
  CodeOk.of_runs (fuel := 300) (v := ⟨[0, 3, 4, 2, 5], [1, 2, 19, 20, 51, 52], [], 259⟩) (hs := [(4, ⟨.auto, some (.c (.bool (false)))⟩)])
    (cs := [EB (decide ((↑w : Int) < (↑n : Int))) false])
    mixed (by kernel_rfl) ⟨.mk (decide_eq_false h1), trivial⟩

-- symmPlain 0: 10551 ms
end Go.Proofs.Ytmfnldkiaodkpaa.Vm

namespace Go.Proofs.Ytmfnldkiaodkpaa.W
open Go Go.Proofs.Ytmfnldkiaodkpaa.Vm
/-- The hash behind so many texts that were mixed in. -/
noncomputable def mxs (z : Int) (o : Nat) (ln : Nat → Nat) (T : Nat → List Int) : Nat → Int
  | 0 => z
  | i + 1 => mx (mxs z o ln T i) (List.take (ln (o + i)) (T (o + i)))
theorem mxS_ex (z : Int) (o : Nat) (ln : Nat → Nat) (T : Nat → List Int) (i : Nat) : ∃ y : Int, y = mxs z o ln T i := ⟨_, rfl⟩
noncomputable def mxS (z : Int) (o : Nat) (ln : Nat → Nat) (T : Nat → List Int) (i : Nat) : Int := Classical.choose (mxS_ex z o ln T i)
theorem mxS_eq (z : Int) (o : Nat) (ln : Nat → Nat) (T : Nat → List Int) (i : Nat) : mxS z o ln T i = mxs z o ln T i := Classical.choose_spec (mxS_ex z o ln T i)
end Go.Proofs.Ytmfnldkiaodkpaa.W
namespace Go.Proofs.Ytmfnldkiaodkpaa.Vm
open Go Go.Proofs Go.Proofs.Ytmfnldkiaodkpaa
theorem plain_loop (o n N : Nat) (ln : Nat → Nat) (T : Nat → List Int) (hN : o + n ≤ N) (hln : ∀ j, ln j ≤ (T j).length) (hTb : ∀ j, W.bytes (T j)) (hTs : ∀ j, (T j).length ≤ 1048576) (hn : n ≤ 1048576) :
    CodeOk Try.prog 82 259 (kAt (kOf Try.prog Try.f12) [true, true, true, true, false, true, false]) (LSP0 o n N ln T) (.exit 0) (LSPI o n N ln T (min n 10) 120 (W.mxS 120 o ln T (min n 10)) 0) := by
  rw [W.mxS_eq]
  refine LSP_by (fun i : Nat => LSPI o n N ln T i 120 (W.mxs 120 o ln T i) 0) (fun i => i ≤ min n 10) (fun i => min n 10 - i) (by simp) ?_ 0 (Nat.zero_le _)
  intro i hi
  by_cases h : i < min n 10
  · exact .inl ⟨i + 1, h, by omega, LSP_rtt o n N ln T i _ _ _ hN hln hTb hTs hn (by omega) (by omega) (by omega) (by rw [List.length_take, Nat.min_eq_left (hln _)]; omega)⟩
  · right
    have e : i = min n 10 := by omega
    rw [← e]
    by_cases h1 : i < n
    · exact LSP_xtf o n N ln T i _ _ _ hN hln hTb hTs hn (by omega) (by omega) (by omega)
    · exact LSP_xf o n N ln T i _ _ _ hN hln hTb hTs hn (by omega) (by omega)
end Go.Proofs.Ytmfnldkiaodkpaa.Vm

namespace Go.Proofs.Ytmfnldkiaodkpaa.Vm
open Go Go.Proofs Go.Proofs.Ytmfnldkiaodkpaa
theorem ysplit_x (H : Int)  : Contract0 Try.prog 52 [(.c (.ptr 1 0 0))] [(1, (.one ⟨false, false, .cells ([.ptr 2 0 0] ++ (W.bts 120).map (C.int .u8) ++ (W.bts H).map (C.int .u8))⟩)), (2, (.one ⟨false, false, .cells ((W.bts 0).map (C.int .u8) ++ [.bool false, .int .u64 0])⟩))] 3 (.tup [(.c (.ptr 3 0 0)), (.c (.ptr 4 0 0))]) [] [(3, (.one ⟨true, true, .cells ((W.bts (W.d1 120 [])).map (C.int .u8) ++ [.bool true, .int .u64 0])⟩)), (4, (.one ⟨true, true, .cells ((W.bts (W.d2 120 [])).map (C.int .u8) ++ [.bool true, .int .u64 0])⟩))] := ysplit (120) H (0) (0) (false) 
end Go.Proofs.Ytmfnldkiaodkpaa.Vm

namespace Go.Proofs.Ytmfnldkiaodkpaa.Vm
open Go Go.Proofs Go.Proofs.Ytmfnldkiaodkpaa
set_option maxRecDepth 100000
theorem symmPlain (o n N : Nat) (ln : Nat → Nat) (T : Nat → List Int)
    (hN : o + n ≤ N)
    (hln : ∀ j, ln j ≤ (T j).length)
    (hTb : ∀ j, W.bytes (T j))
    (hTs : ∀ j, (T j).length ≤ 1048576)
    (hn : n ≤ 1048576) :
    Contract0 Try.prog 12 [(.c (.sl 1 0 o n 1))] [(1, (.one ⟨false, false, (.gen N (fun j_ => (.sl 2 j_ 0 (ln j_) 1)))⟩)), (2, (.many (fun j_ => some ⟨false, false, (.ints .u8 (T j_))⟩)))] 3 (.c (.bool (true))) [2] [] :=
  Contract0.of_frun (res := (.c (.bool (true)))) (up := []) (kill := [2]) (n0 := 3) (m := [(1, (.one ⟨false, false, (.gen N (fun j_ => (.sl 2 j_ 0 (ln j_) 1)))⟩)), (2, (.many (fun j_ => some ⟨false, false, (.ints .u8 (T j_))⟩)))]) (args := [(.c (.sl 1 0 o n 1))]) (fn := Try.f12) (c := bodyOf Try.f12) (fuel := 300) (k := kOf Try.prog Try.f12) (outs := []) (hs := [(1, ⟨.call [] (.c (.ptr 19 0 0)) [] [(19, (.one ⟨true, true, (.cells [(.ptr 20 0 0), (.int .u8 120), (.int .u8 0), (.int .u8 0), (.int .u8 0), (.int .u8 0), (.int .u8 0), (.int .u8 0), (.int .u8 0), (.int .u8 0), (.int .u8 0), (.int .u8 0), (.int .u8 0), (.int .u8 0), (.int .u8 0), (.int .u8 0), (.int .u8 0), (.int .u8 0), (.int .u8 0), (.int .u8 0), (.int .u8 0), (.int .u8 0), (.int .u8 0), (.int .u8 0), (.int .u8 0), (.int .u8 0), (.int .u8 0), (.int .u8 0), (.int .u8 0), (.int .u8 0), (.int .u8 0), (.int .u8 0), (.int .u8 0), (.int .u8 120), (.int .u8 0), (.int .u8 0), (.int .u8 0), (.int .u8 0), (.int .u8 0), (.int .u8 0), (.int .u8 0), (.int .u8 0), (.int .u8 0), (.int .u8 0), (.int .u8 0), (.int .u8 0), (.int .u8 0), (.int .u8 0), (.int .u8 0), (.int .u8 0), (.int .u8 0), (.int .u8 0), (.int .u8 0), (.int .u8 0), (.int .u8 0), (.int .u8 0), (.int .u8 0), (.int .u8 0), (.int .u8 0), (.int .u8 0), (.int .u8 0), (.int .u8 0), (.int .u8 0), (.int .u8 0), (.int .u8 0)])⟩)), (20, (.one ⟨true, true, (.cells ((W.bts 0).map (C.int .u8) ++ [(.bool (false)), (.int .u64 0)]))⟩))], none⟩), (3, ⟨.call [] (.c (.ptr 51 0 0)) [] [(51, (.one ⟨true, true, (.cells [(.ptr 52 0 0), (.int .u8 120), (.int .u8 0), (.int .u8 0), (.int .u8 0), (.int .u8 0), (.int .u8 0), (.int .u8 0), (.int .u8 0), (.int .u8 0), (.int .u8 0), (.int .u8 0), (.int .u8 0), (.int .u8 0), (.int .u8 0), (.int .u8 0), (.int .u8 0), (.int .u8 0), (.int .u8 0), (.int .u8 0), (.int .u8 0), (.int .u8 0), (.int .u8 0), (.int .u8 0), (.int .u8 0), (.int .u8 0), (.int .u8 0), (.int .u8 0), (.int .u8 0), (.int .u8 0), (.int .u8 0), (.int .u8 0), (.int .u8 0), (.int .u8 120), (.int .u8 0), (.int .u8 0), (.int .u8 0), (.int .u8 0), (.int .u8 0), (.int .u8 0), (.int .u8 0), (.int .u8 0), (.int .u8 0), (.int .u8 0), (.int .u8 0), (.int .u8 0), (.int .u8 0), (.int .u8 0), (.int .u8 0), (.int .u8 0), (.int .u8 0), (.int .u8 0), (.int .u8 0), (.int .u8 0), (.int .u8 0), (.int .u8 0), (.int .u8 0), (.int .u8 0), (.int .u8 0), (.int .u8 0), (.int .u8 0), (.int .u8 0), (.int .u8 0), (.int .u8 0), (.int .u8 0)])⟩)), (52, (.one ⟨true, true, (.cells ((W.bts 0).map (C.int .u8) ++ [(.bool (false)), (.int .u64 0)]))⟩))], none⟩), (5, ⟨.call [] (.c (.bool (true))) [] [], none⟩), (17, ⟨.sum ⟨[0, 3, 4, 2, 5], [1, 2, 19, 20, 51, 52], [], 259⟩ (.exit 0) (LSPI o n N ln T (min n 10) 120 (W.mxS 120 o ln T (min n 10)) 0), none⟩), (19, ⟨.call [19, 20] (.tup [(.c (.ptr 275 0 0)), (.c (.ptr 276 0 0))]) [] [(275, (.one ⟨true, true, (.cells (((W.bts (W.d1 120 [])).map (C.int .u8)) ++ [(.bool (true)), (.int .u64 0)]))⟩)), (276, (.one ⟨true, true, (.cells (((W.bts (W.d2 120 [])).map (C.int .u8)) ++ [(.bool (true)), (.int .u64 0)]))⟩))], none⟩), (33, ⟨.call [275] (.c (.int .u64 0)) [] [], none⟩)])
    (cs := [Contract Try.prog 33 [(.c (.ptr 275 0 0))] [(275, (.one ⟨true, true, (.cells (((W.bts (W.d1 120 [])).map (C.int .u8)) ++ [(.bool (true)), (.int .u64 0)]))⟩))] 499 (.c (.int .u64 0)) [] [],
      Contract Try.prog 52 [(.c (.ptr 19 0 0))] [(19, (.one ⟨true, true, (.cells ([(.ptr 20 0 0), (.int .u8 120), (.int .u8 0), (.int .u8 0), (.int .u8 0), (.int .u8 0), (.int .u8 0), (.int .u8 0), (.int .u8 0), (.int .u8 0), (.int .u8 0), (.int .u8 0), (.int .u8 0), (.int .u8 0), (.int .u8 0), (.int .u8 0), (.int .u8 0), (.int .u8 0), (.int .u8 0), (.int .u8 0), (.int .u8 0), (.int .u8 0), (.int .u8 0), (.int .u8 0), (.int .u8 0), (.int .u8 0), (.int .u8 0), (.int .u8 0), (.int .u8 0), (.int .u8 0), (.int .u8 0), (.int .u8 0), (.int .u8 0)] ++ ((W.bts (W.mxS 120 o ln T (min n 10))).map (C.int .u8))))⟩)), (20, (.one ⟨true, true, (.cells ((W.bts 0).map (C.int .u8) ++ [(.bool (false)), (.int .u64 0)]))⟩))] 275 (.tup [(.c (.ptr 275 0 0)), (.c (.ptr 276 0 0))]) [] [(275, (.one ⟨true, true, (.cells (((W.bts (W.d1 120 [])).map (C.int .u8)) ++ [(.bool (true)), (.int .u64 0)]))⟩)), (276, (.one ⟨true, true, (.cells (((W.bts (W.d2 120 [])).map (C.int .u8)) ++ [(.bool (true)), (.int .u64 0)]))⟩))],
      CodeOk Try.prog 82 259 (kAt (kOf Try.prog Try.f12) [true, true, true, true, false, true, false]) (LSP0 o n N ln T) (.exit 0) (LSPI o n N ln T (min n 10) 120 (W.mxS 120 o ln T (min n 10)) 0),
      Contract Try.prog 21 [] [] 83 (.c (.bool (true))) [] [],
      Contract Try.prog 20 [(.c (.str ({ data := #[120] })))] [] 51 (.c (.ptr 51 0 0)) [] [(51, (.one ⟨true, true, (.cells [(.ptr 52 0 0), (.int .u8 120), (.int .u8 0), (.int .u8 0), (.int .u8 0), (.int .u8 0), (.int .u8 0), (.int .u8 0), (.int .u8 0), (.int .u8 0), (.int .u8 0), (.int .u8 0), (.int .u8 0), (.int .u8 0), (.int .u8 0), (.int .u8 0), (.int .u8 0), (.int .u8 0), (.int .u8 0), (.int .u8 0), (.int .u8 0), (.int .u8 0), (.int .u8 0), (.int .u8 0), (.int .u8 0), (.int .u8 0), (.int .u8 0), (.int .u8 0), (.int .u8 0), (.int .u8 0), (.int .u8 0), (.int .u8 0), (.int .u8 0), (.int .u8 120), (.int .u8 0), (.int .u8 0), (.int .u8 0), (.int .u8 0), (.int .u8 0), (.int .u8 0), (.int .u8 0), (.int .u8 0), (.int .u8 0), (.int .u8 0), (.int .u8 0), (.int .u8 0), (.int .u8 0), (.int .u8 0), (.int .u8 0), (.int .u8 0), (.int .u8 0), (.int .u8 0), (.int .u8 0), (.int .u8 0), (.int .u8 0), (.int .u8 0), (.int .u8 0), (.int .u8 0), (.int .u8 0), (.int .u8 0), (.int .u8 0), (.int .u8 0), (.int .u8 0), (.int .u8 0), (.int .u8 0)])⟩)), (52, (.one ⟨true, true, (.cells ((W.bts 0).map (C.int .u8) ++ [(.bool (false)), (.int .u64 0)]))⟩))],
      Contract Try.prog 20 [(.c (.str ({ data := #[120] })))] [] 19 (.c (.ptr 19 0 0)) [] [(19, (.one ⟨true, true, (.cells [(.ptr 20 0 0), (.int .u8 120), (.int .u8 0), (.int .u8 0), (.int .u8 0), (.int .u8 0), (.int .u8 0), (.int .u8 0), (.int .u8 0), (.int .u8 0), (.int .u8 0), (.int .u8 0), (.int .u8 0), (.int .u8 0), (.int .u8 0), (.int .u8 0), (.int .u8 0), (.int .u8 0), (.int .u8 0), (.int .u8 0), (.int .u8 0), (.int .u8 0), (.int .u8 0), (.int .u8 0), (.int .u8 0), (.int .u8 0), (.int .u8 0), (.int .u8 0), (.int .u8 0), (.int .u8 0), (.int .u8 0), (.int .u8 0), (.int .u8 0), (.int .u8 120), (.int .u8 0), (.int .u8 0), (.int .u8 0), (.int .u8 0), (.int .u8 0), (.int .u8 0), (.int .u8 0), (.int .u8 0), (.int .u8 0), (.int .u8 0), (.int .u8 0), (.int .u8 0), (.int .u8 0), (.int .u8 0), (.int .u8 0), (.int .u8 0), (.int .u8 0), (.int .u8 0), (.int .u8 0), (.int .u8 0), (.int .u8 0), (.int .u8 0), (.int .u8 0), (.int .u8 0), (.int .u8 0), (.int .u8 0), (.int .u8 0), (.int .u8 0), (.int .u8 0), (.int .u8 0), (.int .u8 0)])⟩)), (20, (.one ⟨true, true, (.cells ((W.bts 0).map (C.int .u8) ++ [(.bool (false)), (.int .u64 0)]))⟩))]])
    mixed Try.func12 (by kernel_rfl) (by kernel_rfl) (by kernel_rfl) (by kernel_rfl) (by kernel_rfl) ⟨Contract0.inst (cnonceK true 0 (W.d1 120 [])) [.b 275 1 true []] [none] [] [] (by kernel_rfl) (by kernel_rfl) (by kernel_rfl) (by kernel_rfl) (by kernel_rfl), Contract0.inst (ysplit_x (W.mxS 120 o ln T (min n 10))) [.b 19 1 true [], .b 20 2 true []] [none] [(3, 275), (4, 276)] [] (by kernel_rfl) (by kernel_rfl) (by kernel_rfl) (by kernel_rfl) (by kernel_rfl), (plain_loop o n N ln T (by omega) (by omega) (by omega) (by omega) (by omega)), Contract0.inst known10 [] [] [] [] (by kernel_rfl) (by kernel_rfl) (by kernel_rfl) (by kernel_rfl) (by kernel_rfl), Contract0.inst ynew_x [] [none] [(1, 51), (2, 52)] [] (by kernel_rfl) (by kernel_rfl) (by kernel_rfl) (by kernel_rfl) (by kernel_rfl), Contract0.inst ynew_x [] [none] [(1, 19), (2, 20)] [] (by kernel_rfl) (by kernel_rfl) (by kernel_rfl) (by kernel_rfl) (by kernel_rfl), trivial⟩


-- symmPlain: 2384 ms
end Go.Proofs.Ytmfnldkiaodkpaa.Vm

namespace Go.Proofs.Ytmfnldkiaodkpaa.Vm
open Go Go.Proofs Go.Proofs.Ytmfnldkiaodkpaa
theorem symmPlain_law (N : Nat) (ln : Nat → Nat) (T : Nat → List Int) (n : Nat) (hN : 0 + n ≤ N) (hln : ∀ j, ln j ≤ (T j).length) (hTb : ∀ j, W.bytes (T j)) (hTs : ∀ j, (T j).length ≤ 1048576) (hn : n ≤ 1048576) :
    Contract0 Try.prog 12 [(.c (.sl 1 0 0 n 1))] [(1, .one ⟨false, false, .gen N (fun j => .sl 2 j 0 (ln j) 1)⟩), (2, .many fun j => some ⟨false, false, .ints .u8 (T j)⟩)] 3 (.c (.bool true)) [2] [] :=
  symmPlain 0 n N ln T hN hln hTb hTs hn
end Go.Proofs.Ytmfnldkiaodkpaa.Vm
