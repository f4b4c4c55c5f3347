/- What functions of the program come to: parts of the walk (Hb). -/
import Derived.Test.YtmfnldkiaodkpaaHa
import Derived.KernelRfl
import Derived.Test.YtmfnldkiaodkpaaProg
import Derived.Test.YtmfnldkiaodkpaaVmc
set_option linter.unusedSimpArgs false
set_option linter.unusedVariables false
namespace Go.Proofs.Ytmfnldkiaodkpaa.Vm
open Go Go.Proofs Go.Proofs.Ytmfnldkiaodkpaa
set_option maxRecDepth 100000
def LQI (o n N : Nat) (ln : Nat → Nat) (T : Nat → List Int) (fo nf M : Nat) (fr : Nat → Bool) (tl : List Int) (to nt w : Nat) (hh : List Int) (pp cc : Nat) : S0 :=
  ⟨[(0, (.c (.sl 1 0 o n 1))), (1, (.c (.sl 3 0 fo nf 1))), (2, (.c (.sl 4 0 to nt 1))), (7, (.c (.ptr 21 0 0))), (8, (.c (.ptr 69 0 0))), (6, (.c (.bool false))), (9, (.c (.int .i64 ((↑w : Int)))))], [(214, (.one ⟨true, false, (.ints .u8 hh)⟩)), (213, (.one ⟨true, false, (.ints .u8 hh)⟩)), (1, (.one ⟨false, false, (.gen N (fun j_ => (.sl 2 j_ 0 (ln j_) 1)))⟩)), (2, (.many (fun j_ => some ⟨false, false, (.ints .u8 (T j_))⟩))), (3, (.one ⟨false, false, (.gen M (fun j_ => (.bool (fr j_))))⟩)), (4, (.one ⟨false, false, (.ints .i64 tl)⟩)), (21, (.one ⟨true, true, .cells [.sl 213 0 pp cc 1, .bool false]⟩)), (69, (.one ⟨true, true, .cells [.sl 214 0 pp cc 1, .bool false]⟩))], 229⟩
def LQ0 (o n N : Nat) (ln : Nat → Nat) (T : Nat → List Int) (fo nf M : Nat) (fr : Nat → Bool) (tl : List Int) (to nt : Nat) : S0 :=
  ⟨[(0, (.c (.sl 1 0 o n 1))), (1, (.c (.sl 3 0 fo nf 1))), (2, (.c (.sl 4 0 to nt 1))), (7, (.c (.ptr 21 0 0))), (8, (.c (.ptr 69 0 0))), (6, (.c (.bool (false)))), (9, (.c (.int .i64 0)))], [(1, (.one ⟨false, false, (.gen N (fun j_ => (.sl 2 j_ 0 (ln j_) 1)))⟩)), (2, (.many (fun j_ => some ⟨false, false, (.ints .u8 (T j_))⟩))), (3, (.one ⟨false, false, (.gen M (fun j_ => (.bool (fr j_))))⟩)), (4, (.one ⟨false, false, (.ints .i64 tl)⟩)), (21, (.one ⟨true, true, (.cells [.nils, (.bool (false))])⟩)), (69, (.one ⟨true, true, (.cells [.nils, (.bool (false))])⟩))], 213⟩
theorem LQ_rttttc0c0t (o n N : Nat) (ln : Nat → Nat) (T : Nat → List Int) (fo nf M : Nat) (fr : Nat → Bool) (tl : List Int) (to nt w : Nat) (hh : List Int) (pp cc : Nat)
    (hN : o + n ≤ N)
    (hln : ∀ j, ln j ≤ (T j).length)
    (hTb : ∀ j, W.bytes (T j))
    (hTs : ∀ j, (T j).length ≤ 1048576)
    (hn : n ≤ 1048576)
    (hM : fo + nf ≤ M)
    (hnf : nf ≤ 1048576)
    (htl : to + nt ≤ tl.length)
    (hnt : nt ≤ 1048576)
    (htr : ∀ j, -9223372036854775808 ≤ List.getD tl j 0 ∧ List.getD tl j 0 < 9223372036854775808)
    (hw : w ≤ 30)
    (hpc : pp + cc ≤ hh.length)
    (hcc : cc ≤ w * 1048600)
    (hhb : W.bytes hh)
    (h2 : ((↑w : Int) < (↑n : Int)))
    (h3 : ((↑w : Int) < (30 : Int)))
    (h4 : ((↑w : Int) < (↑nf : Int)))
    (h5 : (fr (fo + w) = true))
    (c6 : (¬((1 : Nat) ≤ ln (o + w) ∧ ln (o + w) ≤ (4096 : Nat))))
    (c7 : (W.scanB (List.take cc (List.drop pp hh) ++ List.take (ln (o + w)) (List.drop (0 : Nat) (T (o + w)))) (cc + ln (o + w)) = false))
    (h8 : ((↑w : Int) < (↑nt : Int)))
    (c9 : ((0 : Nat) + (cc + ln (o + w)) ≤ List.length (List.take cc (List.drop pp hh) ++ List.take (ln (o + w)) (T (o + w)))))
    (c10 : (cc + ln (o + w) ≤ (1073741824 : Nat)))
    (c11 : (W.bytes (List.take cc (List.drop pp hh) ++ List.take (ln (o + w)) (T (o + w))))) :
    CodeOk Try.prog 136 213 (kAt (kOf Try.prog Try.f8) [true, true, true, true, false, true, false, false]) (LQI o n N ln T fo nf M fr tl to nt w hh pp cc) .normal (LQI o n N ln T fo nf M fr tl to nt (w + 1) (List.take cc (List.drop pp hh) ++ List.take (ln (o + w)) (T (o + w))) (W.nxP (List.take cc (List.drop pp hh) ++ List.take (ln (o + w)) (T (o + w))) 0 (cc + ln (o + w)) (↑(W.pick (List.getD tl (to + w) 0) 4) : Int)) (W.nxC (List.take cc (List.drop pp hh) ++ List.take (ln (o + w)) (T (o + w))) 0 (cc + ln (o + w)) (↑(W.pick (List.getD tl (to + w) 0) 4) : Int))) :=
  CodeOk.of_runs (fuel := 300) (v := ⟨[0, 1, 2, 7, 8, 6, 9], [100001, 100000, 1, 2, 3, 4, 21, 69], [(100000, 213), (100001, 214)], 229⟩) (hs := [(4, ⟨.auto, some (.c (.bool (true)))⟩), (7, ⟨.auto, some (.c (.bool (true)))⟩), (11, ⟨.ask, some (.c (.ptr 1 0 (o + w)))⟩), (12, ⟨.ask, none⟩), (18, ⟨.auto, some (.c (.bool (true)))⟩), (21, ⟨.ask, some (.c (.ptr 3 0 (fo + w)))⟩), (22, ⟨.ask, none⟩), (23, ⟨.auto, some (.c (.bool (true)))⟩), (26, ⟨.call [2] (.tup [(.c .nils), (.c (.int .i64 6))]) [] [], none⟩), (33, ⟨.call [2] (.tup [(.c .nils), (.c (.int .i64 6))]) [] [], none⟩), (55, ⟨.call [21, 2, 213] (.c (.int .i64 0)) [] [(21, (.one ⟨true, true, (.cells [(.sl 1045 0 0 (cc + ln (o + w)) 1), (.bool (false))])⟩)), (1045, (.one ⟨true, false, (.ints .u8 (List.take cc (List.drop pp hh) ++ List.take (ln (o + w)) (T (o + w))))⟩))], none⟩), (58, ⟨.call [69, 2, 214] (.c (.int .i64 0)) [] [(69, (.one ⟨true, true, (.cells [(.sl 1093 0 0 (cc + ln (o + w)) 1), (.bool (false))])⟩)), (1093, (.one ⟨true, false, (.ints .u8 (List.take cc (List.drop pp hh) ++ List.take (ln (o + w)) (T (o + w))))⟩))], none⟩), (62, ⟨.call [21, 1045] (.c (.int .i64 (↑(cc + ln (o + w))))) [] [], none⟩), (68, ⟨.auto, some (.c (.bool (false)))⟩), (75, ⟨.auto, some (.c (.bool (true)))⟩), (79, ⟨.ask, some (.c (.ptr 4 0 (to + w)))⟩), (80, ⟨.ask, none⟩), (81, ⟨.call [] (.c (.int .i64 (↑(W.pick (List.getD tl (to + w) 0) 4)))) [] [], none⟩), (83, ⟨.sum ⟨[0, 1, 2, 7, 8, 9, 6, 15], [1093, 1045, 1, 2, 3, 4, 21, 69], [(1045, 100000), (1093, 100001)], 100016⟩ (.exit 2) (LXiI o n N ln T fo nf M fr tl to nt w 0 (List.take cc (List.drop pp hh) ++ List.take (ln (o + w)) (T (o + w))) (W.nxP (List.take cc (List.drop pp hh) ++ List.take (ln (o + w)) (T (o + w))) 0 (cc + ln (o + w)) (↑(W.pick (List.getD tl (to + w) 0) 4) : Int)) (W.nxC (List.take cc (List.drop pp hh) ++ List.take (ln (o + w)) (T (o + w))) 0 (cc + ln (o + w)) (↑(W.pick (List.getD tl (to + w) 0) 4) : Int))), none⟩), (85, ⟨.auto, some (.c (.int .i64 (↑(w + 1))))⟩)])
    (cs := [EI .i64 (IntKind.wrap IntKind.i64 ((↑w : Int) + 1)) ((↑(w + 1) : Int)),
      CodeOk Try.prog 136 1461 (kAt (kOf Try.prog Try.f8) [true, true, true, true, false, true, false, false, true, false, false, true, true, true, true, true, false]) (LXiI o n N ln T fo nf M fr tl to nt w (↑(W.pick (List.getD tl (to + w) 0) 4) : Int) (List.take cc (List.drop pp hh) ++ List.take (ln (o + w)) (T (o + w))) 0 (cc + ln (o + w))) (.exit 2) (LXiI o n N ln T fo nf M fr tl to nt w 0 (List.take cc (List.drop pp hh) ++ List.take (ln (o + w)) (T (o + w))) (W.nxP (List.take cc (List.drop pp hh) ++ List.take (ln (o + w)) (T (o + w))) 0 (cc + ln (o + w)) (↑(W.pick (List.getD tl (to + w) 0) 4) : Int)) (W.nxC (List.take cc (List.drop pp hh) ++ List.take (ln (o + w)) (T (o + w))) 0 (cc + ln (o + w)) (↑(W.pick (List.getD tl (to + w) 0) 4) : Int))),
      Contract Try.prog 15 [(.c (.int .i64 (List.getD tl (to + w) 0))), (.c (.int .i64 4))] [] 1429 (.c (.int .i64 (↑(W.pick (List.getD tl (to + w) 0) 4)))) [] [],
      (to + w + (1 : Nat) ≤ List.length tl),
      ((.c (.ptr 4 0 (addO to w))) : V) = (.c (.ptr 4 0 (to + w))),
      ((0 : Int) ≤ (↑w : Int) ∧ (↑w : Int) < (↑nt : Int)),
      EB (decide ((↑w : Int) < (↑nt : Int))) true,
      EB ((↑(cc + ln (o + w)) : Int) != (↑(cc + ln (o + w)) : Int)) false,
      Contract Try.prog 44 [(.c (.ptr 21 0 0))] [(21, (.one ⟨true, true, (.cells [(.sl 1045 0 0 (cc + ln (o + w)) 1), (.bool (false))])⟩)), (1045, (.one ⟨true, false, (.ints .u8 (List.take cc (List.drop pp hh) ++ List.take (ln (o + w)) (T (o + w))))⟩))] 1157 (.c (.int .i64 (↑(cc + ln (o + w))))) [] [],
      Contract Try.prog 43 [(.c (.ptr 69 0 0)), (.c (.sl 2 (o + w) 0 (ln (o + w)) 1))] [(69, (.one ⟨true, true, (.cells [(.sl 214 0 pp cc 1), (.bool (false))])⟩)), (2, (.many (fun j_ => some ⟨false, false, (.ints .u8 (T j_))⟩))), (214, (.one ⟨true, false, (.ints .u8 hh)⟩))] 1093 (.c (.int .i64 0)) [] [(69, (.one ⟨true, true, (.cells [(.sl 1093 0 0 (cc + ln (o + w)) 1), (.bool (false))])⟩)), (1093, (.one ⟨true, false, (.ints .u8 (List.take cc (List.drop pp hh) ++ List.take (ln (o + w)) (T (o + w))))⟩))],
      Contract Try.prog 42 [(.c (.ptr 21 0 0)), (.c (.sl 2 (o + w) 0 (ln (o + w)) 1))] [(21, (.one ⟨true, true, (.cells [(.sl 213 0 pp cc 1), (.bool (false))])⟩)), (2, (.many (fun j_ => some ⟨false, false, (.ints .u8 (T j_))⟩))), (213, (.one ⟨true, false, (.ints .u8 hh)⟩))] 1045 (.c (.int .i64 0)) [] [(21, (.one ⟨true, true, (.cells [(.sl 1045 0 0 (cc + ln (o + w)) 1), (.bool (false))])⟩)), (1045, (.one ⟨true, false, (.ints .u8 (List.take cc (List.drop pp hh) ++ List.take (ln (o + w)) (T (o + w))))⟩))],
      Contract Try.prog 41 [(.c (.sl 2 (o + w) 0 (ln (o + w)) 1))] [(2, (.many (fun j_ => some ⟨false, false, (.ints .u8 (T j_))⟩)))] 725 (.tup [(.c .nils), (.c (.int .i64 6))]) [] [],
      Contract Try.prog 40 [(.c (.sl 2 (o + w) 0 (ln (o + w)) 1))] [(2, (.many (fun j_ => some ⟨false, false, (.ints .u8 (T j_))⟩)))] 613 (.tup [(.c .nils), (.c (.int .i64 6))]) [] [],
      EB (fr (fo + w)) true,
      (fo + w + (1 : Nat) ≤ M),
      ((.c (.ptr 3 0 (addO fo w))) : V) = (.c (.ptr 3 0 (fo + w))),
      ((0 : Int) ≤ (↑w : Int) ∧ (↑w : Int) < (↑nf : Int)),
      EB (decide ((↑w : Int) < (↑nf : Int))) true,
      (o + w + (1 : Nat) ≤ N),
      ((.c (.ptr 1 0 (addO o w))) : V) = (.c (.ptr 1 0 (o + w))),
      ((0 : Int) ≤ (↑w : Int) ∧ (↑w : Int) < (↑n : Int)),
      EB (decide ((↑w : Int) < 30)) true,
      EB (decide ((↑w : Int) < (↑n : Int))) true])
    mixed (by kernel_rfl) ⟨.mk (by simp only [addO_eq, mulE_eq, mulE_one, Int.toNat_natCast, IntKind.wrap_i64, mmin, mmax]; omega), (CodeOk.mono (lxi o n N ln T fo nf M fr tl to nt w ((↑(W.pick (List.getD tl (to + w) 0) 4) : Int)) (List.take cc (List.drop pp hh) ++ List.take (ln (o + w)) (T (o + w))) 0 (cc + ln (o + w)) (by omega) (by omega) (by omega) (by omega) (by omega) (by omega) (by omega) (by omega) (by omega) (by omega) (by omega) (by exact ⟨by omega, by have := W.pick_lt (a := List.getD tl (to + w) 0) (b := 4) (by decide); omega⟩) c9 c10 c11) (by decide)), Contract0.inst (pick_ok (List.getD tl (to + w) 0) 4 (by exact htr _) (by omega)) [] [none, none] [] [] (by kernel_rfl) (by kernel_rfl) (by kernel_rfl) (by kernel_rfl) (by kernel_rfl), (by omega), EV.ptr (by simp only [addO_eq, mulE_eq, mulE_one, Int.toNat_natCast, IntKind.wrap_i64, mmin, mmax]), (by omega), .mk (decide_eq_true h8), .mk (bne_f (Decidable.of_not_not (by omega))), Contract0.inst (heldY (List.take cc (List.drop pp hh) ++ List.take (ln (o + w)) (T (o + w))) 0 (cc + ln (o + w))) [.b 21 1 true [], .b 1045 2 true []] [none] [] [] (by kernel_rfl) (by kernel_rfl) (by kernel_rfl) (by kernel_rfl) (by kernel_rfl), ContractN.fin (ContractN.fam (k := .u8) (l := (T (o + w))) (ex := false) (args1 := [(.c (.ptr 69 0 0)), (.c (.sl 1108 0 0 (ln (o + w)) 1))]) 1108 2 (o + w) (Contract0.instN (rfedY true hh (T (o + w)) pp cc 0 (ln (o + w)) (by omega) (by rw [Nat.zero_add]; exact hln _) (by omega) (by exact Nat.le_trans (hln _) (Nat.le_trans (hTs _) (by decide))) (by omega) (by exact hTb _) (by omega)) [.b 69 1 false [], .b 214 2 true [], .b 1108 3 true []] [none, none] [(4, 1093)] [] (by kernel_rfl) (by kernel_rfl) (by kernel_rfl) (by kernel_rfl) (by kernel_rfl)) (by kernel_rfl) (by kernel_rfl) (by kernel_rfl) (by kernel_rfl) (by kernel_rfl) (by kernel_rfl)) (by kernel_rfl), ContractN.fin (ContractN.fam (k := .u8) (l := (T (o + w))) (ex := false) (args1 := [(.c (.ptr 21 0 0)), (.c (.sl 1060 0 0 (ln (o + w)) 1))]) 1060 2 (o + w) (Contract0.instN (fedY true hh (T (o + w)) pp cc 0 (ln (o + w)) (by omega) (by rw [Nat.zero_add]; exact hln _) (by omega) (by exact Nat.le_trans (hln _) (Nat.le_trans (hTs _) (by decide))) (by omega) (by exact hTb _) c7) [.b 21 1 false [], .b 213 2 true [], .b 1060 3 true []] [none, none] [(4, 1045)] [] (by kernel_rfl) (by kernel_rfl) (by kernel_rfl) (by kernel_rfl) (by kernel_rfl)) (by kernel_rfl) (by kernel_rfl) (by kernel_rfl) (by kernel_rfl) (by kernel_rfl) (by kernel_rfl)) (by kernel_rfl), ContractN.fin (ContractN.fam (k := .u8) (l := (T (o + w))) (ex := false) (args1 := [(.c (.sl 740 0 0 (ln (o + w)) 1))]) 740 2 (o + w) (Contract0.instN (rfraN (T (o + w)) 0 (ln (o + w)) (by rw [Nat.zero_add]; exact hln _) (by exact Nat.le_trans (hln _) (Nat.le_trans (hTs _) (by decide))) (by omega)) [.b 740 1 true []] [none] [] [] (by kernel_rfl) (by kernel_rfl) (by kernel_rfl) (by kernel_rfl) (by kernel_rfl)) (by kernel_rfl) (by kernel_rfl) (by kernel_rfl) (by kernel_rfl) (by kernel_rfl) (by kernel_rfl)) (by kernel_rfl), ContractN.fin (ContractN.fam (k := .u8) (l := (T (o + w))) (ex := false) (args1 := [(.c (.sl 628 0 0 (ln (o + w)) 1))]) 628 2 (o + w) (Contract0.instN (fraN (T (o + w)) 0 (ln (o + w)) (by rw [Nat.zero_add]; exact hln _) (by exact Nat.le_trans (hln _) (Nat.le_trans (hTs _) (by decide))) c6) [.b 628 1 true []] [none] [] [] (by kernel_rfl) (by kernel_rfl) (by kernel_rfl) (by kernel_rfl) (by kernel_rfl)) (by kernel_rfl) (by kernel_rfl) (by kernel_rfl) (by kernel_rfl) (by kernel_rfl) (by kernel_rfl)) (by kernel_rfl), .mk h5, (by omega), EV.ptr (by simp only [addO_eq, mulE_eq, mulE_one, Int.toNat_natCast, IntKind.wrap_i64, mmin, mmax]), (by omega), .mk (decide_eq_true h4), (by omega), EV.ptr (by simp only [addO_eq, mulE_eq, mulE_one, Int.toNat_natCast, IntKind.wrap_i64, mmin, mmax]), (by omega), .mk (decide_eq_true h3), .mk (decide_eq_true h2), trivial⟩
theorem LQ_rttttc0c0f (o n N : Nat) (ln : Nat → Nat) (T : Nat → List Int) (fo nf M : Nat) (fr : Nat → Bool) (tl : List Int) (to nt w : Nat) (hh : List Int) (pp cc : Nat)
    (hN : o + n ≤ N)
    (hln : ∀ j, ln j ≤ (T j).length)
    (hTb : ∀ j, W.bytes (T j))
    (hTs : ∀ j, (T j).length ≤ 1048576)
    (hn : n ≤ 1048576)
    (hM : fo + nf ≤ M)
    (hnf : nf ≤ 1048576)
    (htl : to + nt ≤ tl.length)
    (hnt : nt ≤ 1048576)
    (htr : ∀ j, -9223372036854775808 ≤ List.getD tl j 0 ∧ List.getD tl j 0 < 9223372036854775808)
    (hw : w ≤ 30)
    (hpc : pp + cc ≤ hh.length)
    (hcc : cc ≤ w * 1048600)
    (hhb : W.bytes hh)
    (h2 : ((↑w : Int) < (↑n : Int)))
    (h3 : ((↑w : Int) < (30 : Int)))
    (h4 : ((↑w : Int) < (↑nf : Int)))
    (h5 : (fr (fo + w) = true))
    (c6 : (¬((1 : Nat) ≤ ln (o + w) ∧ ln (o + w) ≤ (4096 : Nat))))
    (c7 : (W.scanB (List.take cc (List.drop pp hh) ++ List.take (ln (o + w)) (List.drop (0 : Nat) (T (o + w)))) (cc + ln (o + w)) = false))
    (h8 : (¬(↑w : Int) < (↑nt : Int)))
    (c9 : ((0 : Nat) + (cc + ln (o + w)) ≤ List.length (List.take cc (List.drop pp hh) ++ List.take (ln (o + w)) (T (o + w)))))
    (c10 : (cc + ln (o + w) ≤ (1073741824 : Nat)))
    (c11 : (W.bytes (List.take cc (List.drop pp hh) ++ List.take (ln (o + w)) (T (o + w))))) :
    CodeOk Try.prog 136 213 (kAt (kOf Try.prog Try.f8) [true, true, true, true, false, true, false, false]) (LQI o n N ln T fo nf M fr tl to nt w hh pp cc) .normal (LQI o n N ln T fo nf M fr tl to nt (w + 1) (List.take cc (List.drop pp hh) ++ List.take (ln (o + w)) (T (o + w))) (W.nxP (List.take cc (List.drop pp hh) ++ List.take (ln (o + w)) (T (o + w))) 0 (cc + ln (o + w)) 1) (W.nxC (List.take cc (List.drop pp hh) ++ List.take (ln (o + w)) (T (o + w))) 0 (cc + ln (o + w)) 1)) :=
  CodeOk.of_runs (fuel := 300) (v := ⟨[0, 1, 2, 7, 8, 6, 9], [100001, 100000, 1, 2, 3, 4, 21, 69], [(100000, 213), (100001, 214)], 229⟩) (hs := [(4, ⟨.auto, some (.c (.bool (true)))⟩), (7, ⟨.auto, some (.c (.bool (true)))⟩), (11, ⟨.ask, some (.c (.ptr 1 0 (o + w)))⟩), (12, ⟨.ask, none⟩), (18, ⟨.auto, some (.c (.bool (true)))⟩), (21, ⟨.ask, some (.c (.ptr 3 0 (fo + w)))⟩), (22, ⟨.ask, none⟩), (23, ⟨.auto, some (.c (.bool (true)))⟩), (26, ⟨.call [2] (.tup [(.c .nils), (.c (.int .i64 6))]) [] [], none⟩), (33, ⟨.call [2] (.tup [(.c .nils), (.c (.int .i64 6))]) [] [], none⟩), (55, ⟨.call [21, 2, 213] (.c (.int .i64 0)) [] [(21, (.one ⟨true, true, (.cells [(.sl 1045 0 0 (cc + ln (o + w)) 1), (.bool (false))])⟩)), (1045, (.one ⟨true, false, (.ints .u8 (List.take cc (List.drop pp hh) ++ List.take (ln (o + w)) (T (o + w))))⟩))], none⟩), (58, ⟨.call [69, 2, 214] (.c (.int .i64 0)) [] [(69, (.one ⟨true, true, (.cells [(.sl 1093 0 0 (cc + ln (o + w)) 1), (.bool (false))])⟩)), (1093, (.one ⟨true, false, (.ints .u8 (List.take cc (List.drop pp hh) ++ List.take (ln (o + w)) (T (o + w))))⟩))], none⟩), (62, ⟨.call [21, 1045] (.c (.int .i64 (↑(cc + ln (o + w))))) [] [], none⟩), (68, ⟨.auto, some (.c (.bool (false)))⟩), (75, ⟨.auto, some (.c (.bool (false)))⟩), (77, ⟨.sum ⟨[0, 1, 2, 7, 8, 9, 6, 15], [1093, 1045, 1, 2, 3, 4, 21, 69], [(1045, 100000), (1093, 100001)], 100016⟩ (.exit 2) (LXiI o n N ln T fo nf M fr tl to nt w 0 (List.take cc (List.drop pp hh) ++ List.take (ln (o + w)) (T (o + w))) (W.nxP (List.take cc (List.drop pp hh) ++ List.take (ln (o + w)) (T (o + w))) 0 (cc + ln (o + w)) 1) (W.nxC (List.take cc (List.drop pp hh) ++ List.take (ln (o + w)) (T (o + w))) 0 (cc + ln (o + w)) 1)), none⟩), (79, ⟨.auto, some (.c (.int .i64 (↑(w + 1))))⟩)])
    (cs := [EI .i64 (IntKind.wrap IntKind.i64 ((↑w : Int) + 1)) ((↑(w + 1) : Int)),
      CodeOk Try.prog 136 1365 (kAt (kOf Try.prog Try.f8) [true, true, true, true, false, true, false, false, true, false, false, true, true, true, true, true, false]) (LXiI o n N ln T fo nf M fr tl to nt w 1 (List.take cc (List.drop pp hh) ++ List.take (ln (o + w)) (T (o + w))) 0 (cc + ln (o + w))) (.exit 2) (LXiI o n N ln T fo nf M fr tl to nt w 0 (List.take cc (List.drop pp hh) ++ List.take (ln (o + w)) (T (o + w))) (W.nxP (List.take cc (List.drop pp hh) ++ List.take (ln (o + w)) (T (o + w))) 0 (cc + ln (o + w)) 1) (W.nxC (List.take cc (List.drop pp hh) ++ List.take (ln (o + w)) (T (o + w))) 0 (cc + ln (o + w)) 1)),
      EB (decide ((↑w : Int) < (↑nt : Int))) false,
      EB ((↑(cc + ln (o + w)) : Int) != (↑(cc + ln (o + w)) : Int)) false,
      Contract Try.prog 44 [(.c (.ptr 21 0 0))] [(21, (.one ⟨true, true, (.cells [(.sl 1045 0 0 (cc + ln (o + w)) 1), (.bool (false))])⟩)), (1045, (.one ⟨true, false, (.ints .u8 (List.take cc (List.drop pp hh) ++ List.take (ln (o + w)) (T (o + w))))⟩))] 1157 (.c (.int .i64 (↑(cc + ln (o + w))))) [] [],
      Contract Try.prog 43 [(.c (.ptr 69 0 0)), (.c (.sl 2 (o + w) 0 (ln (o + w)) 1))] [(69, (.one ⟨true, true, (.cells [(.sl 214 0 pp cc 1), (.bool (false))])⟩)), (2, (.many (fun j_ => some ⟨false, false, (.ints .u8 (T j_))⟩))), (214, (.one ⟨true, false, (.ints .u8 hh)⟩))] 1093 (.c (.int .i64 0)) [] [(69, (.one ⟨true, true, (.cells [(.sl 1093 0 0 (cc + ln (o + w)) 1), (.bool (false))])⟩)), (1093, (.one ⟨true, false, (.ints .u8 (List.take cc (List.drop pp hh) ++ List.take (ln (o + w)) (T (o + w))))⟩))],
      Contract Try.prog 42 [(.c (.ptr 21 0 0)), (.c (.sl 2 (o + w) 0 (ln (o + w)) 1))] [(21, (.one ⟨true, true, (.cells [(.sl 213 0 pp cc 1), (.bool (false))])⟩)), (2, (.many (fun j_ => some ⟨false, false, (.ints .u8 (T j_))⟩))), (213, (.one ⟨true, false, (.ints .u8 hh)⟩))] 1045 (.c (.int .i64 0)) [] [(21, (.one ⟨true, true, (.cells [(.sl 1045 0 0 (cc + ln (o + w)) 1), (.bool (false))])⟩)), (1045, (.one ⟨true, false, (.ints .u8 (List.take cc (List.drop pp hh) ++ List.take (ln (o + w)) (T (o + w))))⟩))],
      Contract Try.prog 41 [(.c (.sl 2 (o + w) 0 (ln (o + w)) 1))] [(2, (.many (fun j_ => some ⟨false, false, (.ints .u8 (T j_))⟩)))] 725 (.tup [(.c .nils), (.c (.int .i64 6))]) [] [],
      Contract Try.prog 40 [(.c (.sl 2 (o + w) 0 (ln (o + w)) 1))] [(2, (.many (fun j_ => some ⟨false, false, (.ints .u8 (T j_))⟩)))] 613 (.tup [(.c .nils), (.c (.int .i64 6))]) [] [],
      EB (fr (fo + w)) true,
      (fo + w + (1 : Nat) ≤ M),
      ((.c (.ptr 3 0 (addO fo w))) : V) = (.c (.ptr 3 0 (fo + w))),
      ((0 : Int) ≤ (↑w : Int) ∧ (↑w : Int) < (↑nf : Int)),
      EB (decide ((↑w : Int) < (↑nf : Int))) true,
      (o + w + (1 : Nat) ≤ N),
      ((.c (.ptr 1 0 (addO o w))) : V) = (.c (.ptr 1 0 (o + w))),
      ((0 : Int) ≤ (↑w : Int) ∧ (↑w : Int) < (↑n : Int)),
      EB (decide ((↑w : Int) < 30)) true,
      EB (decide ((↑w : Int) < (↑n : Int))) true])
    mixed (by kernel_rfl) ⟨.mk (by simp only [addO_eq, mulE_eq, mulE_one, Int.toNat_natCast, IntKind.wrap_i64, mmin, mmax]; omega), (CodeOk.mono (lxi o n N ln T fo nf M fr tl to nt w 1 (List.take cc (List.drop pp hh) ++ List.take (ln (o + w)) (T (o + w))) 0 (cc + ln (o + w)) (by omega) (by omega) (by omega) (by omega) (by omega) (by omega) (by omega) (by omega) (by omega) (by omega) (by omega) (by omega) c9 c10 c11) (by decide)), .mk (decide_eq_false h8), .mk (bne_f (Decidable.of_not_not (by omega))), Contract0.inst (heldY (List.take cc (List.drop pp hh) ++ List.take (ln (o + w)) (T (o + w))) 0 (cc + ln (o + w))) [.b 21 1 true [], .b 1045 2 true []] [none] [] [] (by kernel_rfl) (by kernel_rfl) (by kernel_rfl) (by kernel_rfl) (by kernel_rfl), ContractN.fin (ContractN.fam (k := .u8) (l := (T (o + w))) (ex := false) (args1 := [(.c (.ptr 69 0 0)), (.c (.sl 1108 0 0 (ln (o + w)) 1))]) 1108 2 (o + w) (Contract0.instN (rfedY true hh (T (o + w)) pp cc 0 (ln (o + w)) (by omega) (by rw [Nat.zero_add]; exact hln _) (by omega) (by exact Nat.le_trans (hln _) (Nat.le_trans (hTs _) (by decide))) (by omega) (by exact hTb _) (by omega)) [.b 69 1 false [], .b 214 2 true [], .b 1108 3 true []] [none, none] [(4, 1093)] [] (by kernel_rfl) (by kernel_rfl) (by kernel_rfl) (by kernel_rfl) (by kernel_rfl)) (by kernel_rfl) (by kernel_rfl) (by kernel_rfl) (by kernel_rfl) (by kernel_rfl) (by kernel_rfl)) (by kernel_rfl), ContractN.fin (ContractN.fam (k := .u8) (l := (T (o + w))) (ex := false) (args1 := [(.c (.ptr 21 0 0)), (.c (.sl 1060 0 0 (ln (o + w)) 1))]) 1060 2 (o + w) (Contract0.instN (fedY true hh (T (o + w)) pp cc 0 (ln (o + w)) (by omega) (by rw [Nat.zero_add]; exact hln _) (by omega) (by exact Nat.le_trans (hln _) (Nat.le_trans (hTs _) (by decide))) (by omega) (by exact hTb _) c7) [.b 21 1 false [], .b 213 2 true [], .b 1060 3 true []] [none, none] [(4, 1045)] [] (by kernel_rfl) (by kernel_rfl) (by kernel_rfl) (by kernel_rfl) (by kernel_rfl)) (by kernel_rfl) (by kernel_rfl) (by kernel_rfl) (by kernel_rfl) (by kernel_rfl) (by kernel_rfl)) (by kernel_rfl), ContractN.fin (ContractN.fam (k := .u8) (l := (T (o + w))) (ex := false) (args1 := [(.c (.sl 740 0 0 (ln (o + w)) 1))]) 740 2 (o + w) (Contract0.instN (rfraN (T (o + w)) 0 (ln (o + w)) (by rw [Nat.zero_add]; exact hln _) (by exact Nat.le_trans (hln _) (Nat.le_trans (hTs _) (by decide))) (by omega)) [.b 740 1 true []] [none] [] [] (by kernel_rfl) (by kernel_rfl) (by kernel_rfl) (by kernel_rfl) (by kernel_rfl)) (by kernel_rfl) (by kernel_rfl) (by kernel_rfl) (by kernel_rfl) (by kernel_rfl) (by kernel_rfl)) (by kernel_rfl), ContractN.fin (ContractN.fam (k := .u8) (l := (T (o + w))) (ex := false) (args1 := [(.c (.sl 628 0 0 (ln (o + w)) 1))]) 628 2 (o + w) (Contract0.instN (fraN (T (o + w)) 0 (ln (o + w)) (by rw [Nat.zero_add]; exact hln _) (by exact Nat.le_trans (hln _) (Nat.le_trans (hTs _) (by decide))) c6) [.b 628 1 true []] [none] [] [] (by kernel_rfl) (by kernel_rfl) (by kernel_rfl) (by kernel_rfl) (by kernel_rfl)) (by kernel_rfl) (by kernel_rfl) (by kernel_rfl) (by kernel_rfl) (by kernel_rfl) (by kernel_rfl)) (by kernel_rfl), .mk h5, (by omega), EV.ptr (by simp only [addO_eq, mulE_eq, mulE_one, Int.toNat_natCast, IntKind.wrap_i64, mmin, mmax]), (by omega), .mk (decide_eq_true h4), (by omega), EV.ptr (by simp only [addO_eq, mulE_eq, mulE_one, Int.toNat_natCast, IntKind.wrap_i64, mmin, mmax]), (by omega), .mk (decide_eq_true h3), .mk (decide_eq_true h2), trivial⟩
theorem LQ_rttttc0c1t (o n N : Nat) (ln : Nat → Nat) (T : Nat → List Int) (fo nf M : Nat) (fr : Nat → Bool) (tl : List Int) (to nt w : Nat) (hh : List Int) (pp cc : Nat)
    (hN : o + n ≤ N)
    (hln : ∀ j, ln j ≤ (T j).length)
    (hTb : ∀ j, W.bytes (T j))
    (hTs : ∀ j, (T j).length ≤ 1048576)
    (hn : n ≤ 1048576)
    (hM : fo + nf ≤ M)
    (hnf : nf ≤ 1048576)
    (htl : to + nt ≤ tl.length)
    (hnt : nt ≤ 1048576)
    (htr : ∀ j, -9223372036854775808 ≤ List.getD tl j 0 ∧ List.getD tl j 0 < 9223372036854775808)
    (hw : w ≤ 30)
    (hpc : pp + cc ≤ hh.length)
    (hcc : cc ≤ w * 1048600)
    (hhb : W.bytes hh)
    (h2 : ((↑w : Int) < (↑n : Int)))
    (h3 : ((↑w : Int) < (30 : Int)))
    (h4 : ((↑w : Int) < (↑nf : Int)))
    (h5 : (fr (fo + w) = true))
    (c6 : (¬((1 : Nat) ≤ ln (o + w) ∧ ln (o + w) ≤ (4096 : Nat))))
    (c7 : (W.scanB (List.take cc (List.drop pp hh) ++ List.take (ln (o + w)) (List.drop (0 : Nat) (T (o + w)))) (cc + ln (o + w)) = true))
    (h8 : ((↑w : Int) < (↑nt : Int))) :
    CodeOk Try.prog 136 213 (kAt (kOf Try.prog Try.f8) [true, true, true, true, false, true, false, false]) (LQI o n N ln T fo nf M fr tl to nt w hh pp cc) .normal ⟨[(0, (.c (.sl 1 0 o n 1))), (1, (.c (.sl 3 0 fo nf 1))), (2, (.c (.sl 4 0 to nt 1))), (7, (.c (.ptr 21 0 0))), (8, (.c (.ptr 69 0 0))), (6, (.c (.bool (false)))), (9, (.c (.int .i64 (↑(w + 1)))))], [(1, (.one ⟨false, false, (.gen N (fun j_ => (.sl 2 j_ 0 (ln j_) 1)))⟩)), (2, (.many (fun j_ => some ⟨false, false, (.ints .u8 (T j_))⟩))), (3, (.one ⟨false, false, (.gen M (fun j_ => (.bool (fr j_))))⟩)), (4, (.one ⟨false, false, (.ints .i64 tl)⟩)), (21, (.one ⟨true, true, (.cells [.nils, (.bool (true))])⟩)), (69, (.one ⟨true, true, (.cells [.nils, (.bool (true))])⟩))], 229⟩ :=
  CodeOk.of_runs (fuel := 300) (v := ⟨[0, 1, 2, 7, 8, 6, 9], [1, 2, 3, 4, 21, 69], [], 229⟩) (hs := [(4, ⟨.auto, some (.c (.bool (true)))⟩), (7, ⟨.auto, some (.c (.bool (true)))⟩), (11, ⟨.ask, some (.c (.ptr 1 0 (o + w)))⟩), (12, ⟨.ask, none⟩), (18, ⟨.auto, some (.c (.bool (true)))⟩), (21, ⟨.ask, some (.c (.ptr 3 0 (fo + w)))⟩), (22, ⟨.ask, none⟩), (23, ⟨.auto, some (.c (.bool (true)))⟩), (26, ⟨.call [2] (.tup [(.c .nils), (.c (.int .i64 6))]) [] [], none⟩), (33, ⟨.call [2] (.tup [(.c .nils), (.c (.int .i64 6))]) [] [], none⟩), (55, ⟨.call [21, 2, 213] (.c (.int .i64 6)) [] [(21, (.one ⟨true, true, (.cells [.nils, (.bool (true))])⟩))], none⟩), (58, ⟨.call [69, 2, 214] (.c (.int .i64 6)) [] [(69, (.one ⟨true, true, (.cells [.nils, (.bool (true))])⟩))], none⟩), (62, ⟨.call [21] (.c (.int .i64 0)) [] [], none⟩), (75, ⟨.auto, some (.c (.bool (true)))⟩), (79, ⟨.ask, some (.c (.ptr 4 0 (to + w)))⟩), (80, ⟨.ask, none⟩), (81, ⟨.call [] (.c (.int .i64 (↑(W.pick (List.getD tl (to + w) 0) 4)))) [] [], none⟩), (83, ⟨.sum ⟨[0, 1, 2, 7, 8, 9, 6, 15], [1, 2, 3, 4, 21, 69], [], 100000⟩ (.exit 2) (LZiI o n N ln T fo nf M fr tl to nt w 0), none⟩), (85, ⟨.auto, some (.c (.int .i64 (↑(w + 1))))⟩)])
    (cs := [EI .i64 (IntKind.wrap IntKind.i64 ((↑w : Int) + 1)) ((↑(w + 1) : Int)),
      CodeOk Try.prog 136 1461 (kAt (kOf Try.prog Try.f8) [true, true, true, true, false, true, false, false, true, false, false, true, true, true, true, true, false]) (LZiI o n N ln T fo nf M fr tl to nt w (↑(W.pick (List.getD tl (to + w) 0) 4) : Int)) (.exit 2) (LZiI o n N ln T fo nf M fr tl to nt w 0),
      Contract Try.prog 15 [(.c (.int .i64 (List.getD tl (to + w) 0))), (.c (.int .i64 4))] [] 1429 (.c (.int .i64 (↑(W.pick (List.getD tl (to + w) 0) 4)))) [] [],
      (to + w + (1 : Nat) ≤ List.length tl),
      ((.c (.ptr 4 0 (addO to w))) : V) = (.c (.ptr 4 0 (to + w))),
      ((0 : Int) ≤ (↑w : Int) ∧ (↑w : Int) < (↑nt : Int)),
      EB (decide ((↑w : Int) < (↑nt : Int))) true,
      Contract Try.prog 44 [(.c (.ptr 21 0 0))] [(21, (.one ⟨true, true, (.cells [.nils, (.bool (true))])⟩))] 1157 (.c (.int .i64 0)) [] [],
      Contract Try.prog 43 [(.c (.ptr 69 0 0)), (.c (.sl 2 (o + w) 0 (ln (o + w)) 1))] [(69, (.one ⟨true, true, (.cells [(.sl 214 0 pp cc 1), (.bool (false))])⟩)), (2, (.many (fun j_ => some ⟨false, false, (.ints .u8 (T j_))⟩))), (214, (.one ⟨true, false, (.ints .u8 hh)⟩))] 1093 (.c (.int .i64 6)) [] [(69, (.one ⟨true, true, (.cells [.nils, (.bool (true))])⟩))],
      Contract Try.prog 42 [(.c (.ptr 21 0 0)), (.c (.sl 2 (o + w) 0 (ln (o + w)) 1))] [(21, (.one ⟨true, true, (.cells [(.sl 213 0 pp cc 1), (.bool (false))])⟩)), (2, (.many (fun j_ => some ⟨false, false, (.ints .u8 (T j_))⟩))), (213, (.one ⟨true, false, (.ints .u8 hh)⟩))] 1045 (.c (.int .i64 6)) [] [(21, (.one ⟨true, true, (.cells [.nils, (.bool (true))])⟩))],
      Contract Try.prog 41 [(.c (.sl 2 (o + w) 0 (ln (o + w)) 1))] [(2, (.many (fun j_ => some ⟨false, false, (.ints .u8 (T j_))⟩)))] 725 (.tup [(.c .nils), (.c (.int .i64 6))]) [] [],
      Contract Try.prog 40 [(.c (.sl 2 (o + w) 0 (ln (o + w)) 1))] [(2, (.many (fun j_ => some ⟨false, false, (.ints .u8 (T j_))⟩)))] 613 (.tup [(.c .nils), (.c (.int .i64 6))]) [] [],
      EB (fr (fo + w)) true,
      (fo + w + (1 : Nat) ≤ M),
      ((.c (.ptr 3 0 (addO fo w))) : V) = (.c (.ptr 3 0 (fo + w))),
      ((0 : Int) ≤ (↑w : Int) ∧ (↑w : Int) < (↑nf : Int)),
      EB (decide ((↑w : Int) < (↑nf : Int))) true,
      (o + w + (1 : Nat) ≤ N),
      ((.c (.ptr 1 0 (addO o w))) : V) = (.c (.ptr 1 0 (o + w))),
      ((0 : Int) ≤ (↑w : Int) ∧ (↑w : Int) < (↑n : Int)),
      EB (decide ((↑w : Int) < 30)) true,
      EB (decide ((↑w : Int) < (↑n : Int))) true])
    mixed (by kernel_rfl) ⟨.mk (by simp only [addO_eq, mulE_eq, mulE_one, Int.toNat_natCast, IntKind.wrap_i64, mmin, mmax]; omega), (CodeOk.mono (lzi o n N ln T fo nf M fr tl to nt w ((↑(W.pick (List.getD tl (to + w) 0) 4) : Int)) (by omega) (by omega) (by omega) (by omega) (by omega) (by omega) (by omega) (by omega) (by omega) (by omega) (by omega) (by exact ⟨by omega, by have := W.pick_lt (a := List.getD tl (to + w) 0) (b := 4) (by decide); omega⟩)) (by decide)), Contract0.inst (pick_ok (List.getD tl (to + w) 0) 4 (by exact htr _) (by omega)) [] [none, none] [] [] (by kernel_rfl) (by kernel_rfl) (by kernel_rfl) (by kernel_rfl) (by kernel_rfl), (by omega), EV.ptr (by simp only [addO_eq, mulE_eq, mulE_one, Int.toNat_natCast, IntKind.wrap_i64, mmin, mmax]), (by omega), .mk (decide_eq_true h8), Contract0.inst (heldB true) [.b 21 1 true []] [none] [] [] (by kernel_rfl) (by kernel_rfl) (by kernel_rfl) (by kernel_rfl) (by kernel_rfl), ContractN.fin (ContractN.fam (k := .u8) (l := (T (o + w))) (ex := false) (args1 := [(.c (.ptr 69 0 0)), (.c (.sl 1108 0 0 (ln (o + w)) 1))]) 1108 2 (o + w) (Contract0.instN (rfedN true hh (T (o + w)) pp cc 0 (ln (o + w)) (by omega) (by rw [Nat.zero_add]; exact hln _) (by omega) (by exact Nat.le_trans (hln _) (Nat.le_trans (hTs _) (by decide))) (by omega) (by exact hTb _) (by omega)) [.b 69 1 false [], .b 214 2 true [], .b 1108 3 true []] [none, none] [] [] (by kernel_rfl) (by kernel_rfl) (by kernel_rfl) (by kernel_rfl) (by kernel_rfl)) (by kernel_rfl) (by kernel_rfl) (by kernel_rfl) (by kernel_rfl) (by kernel_rfl) (by kernel_rfl)) (by kernel_rfl), ContractN.fin (ContractN.fam (k := .u8) (l := (T (o + w))) (ex := false) (args1 := [(.c (.ptr 21 0 0)), (.c (.sl 1060 0 0 (ln (o + w)) 1))]) 1060 2 (o + w) (Contract0.instN (fedN true hh (T (o + w)) pp cc 0 (ln (o + w)) (by omega) (by rw [Nat.zero_add]; exact hln _) (by omega) (by exact Nat.le_trans (hln _) (Nat.le_trans (hTs _) (by decide))) (by omega) (by exact hTb _) c7) [.b 21 1 false [], .b 213 2 true [], .b 1060 3 true []] [none, none] [] [] (by kernel_rfl) (by kernel_rfl) (by kernel_rfl) (by kernel_rfl) (by kernel_rfl)) (by kernel_rfl) (by kernel_rfl) (by kernel_rfl) (by kernel_rfl) (by kernel_rfl) (by kernel_rfl)) (by kernel_rfl), ContractN.fin (ContractN.fam (k := .u8) (l := (T (o + w))) (ex := false) (args1 := [(.c (.sl 740 0 0 (ln (o + w)) 1))]) 740 2 (o + w) (Contract0.instN (rfraN (T (o + w)) 0 (ln (o + w)) (by rw [Nat.zero_add]; exact hln _) (by exact Nat.le_trans (hln _) (Nat.le_trans (hTs _) (by decide))) (by omega)) [.b 740 1 true []] [none] [] [] (by kernel_rfl) (by kernel_rfl) (by kernel_rfl) (by kernel_rfl) (by kernel_rfl)) (by kernel_rfl) (by kernel_rfl) (by kernel_rfl) (by kernel_rfl) (by kernel_rfl) (by kernel_rfl)) (by kernel_rfl), ContractN.fin (ContractN.fam (k := .u8) (l := (T (o + w))) (ex := false) (args1 := [(.c (.sl 628 0 0 (ln (o + w)) 1))]) 628 2 (o + w) (Contract0.instN (fraN (T (o + w)) 0 (ln (o + w)) (by rw [Nat.zero_add]; exact hln _) (by exact Nat.le_trans (hln _) (Nat.le_trans (hTs _) (by decide))) c6) [.b 628 1 true []] [none] [] [] (by kernel_rfl) (by kernel_rfl) (by kernel_rfl) (by kernel_rfl) (by kernel_rfl)) (by kernel_rfl) (by kernel_rfl) (by kernel_rfl) (by kernel_rfl) (by kernel_rfl) (by kernel_rfl)) (by kernel_rfl), .mk h5, (by omega), EV.ptr (by simp only [addO_eq, mulE_eq, mulE_one, Int.toNat_natCast, IntKind.wrap_i64, mmin, mmax]), (by omega), .mk (decide_eq_true h4), (by omega), EV.ptr (by simp only [addO_eq, mulE_eq, mulE_one, Int.toNat_natCast, IntKind.wrap_i64, mmin, mmax]), (by omega), .mk (decide_eq_true h3), .mk (decide_eq_true h2), trivial⟩
theorem LQ_rttttc0c1f (o n N : Nat) (ln : Nat → Nat) (T : Nat → List Int) (fo nf M : Nat) (fr : Nat → Bool) (tl : List Int) (to nt w : Nat) (hh : List Int) (pp cc : Nat)
    (hN : o + n ≤ N)
    (hln : ∀ j, ln j ≤ (T j).length)
    (hTb : ∀ j, W.bytes (T j))
    (hTs : ∀ j, (T j).length ≤ 1048576)
    (hn : n ≤ 1048576)
    (hM : fo + nf ≤ M)
    (hnf : nf ≤ 1048576)
    (htl : to + nt ≤ tl.length)
    (hnt : nt ≤ 1048576)
    (htr : ∀ j, -9223372036854775808 ≤ List.getD tl j 0 ∧ List.getD tl j 0 < 9223372036854775808)
    (hw : w ≤ 30)
    (hpc : pp + cc ≤ hh.length)
    (hcc : cc ≤ w * 1048600)
    (hhb : W.bytes hh)
    (h2 : ((↑w : Int) < (↑n : Int)))
    (h3 : ((↑w : Int) < (30 : Int)))
    (h4 : ((↑w : Int) < (↑nf : Int)))
    (h5 : (fr (fo + w) = true))
    (c6 : (¬((1 : Nat) ≤ ln (o + w) ∧ ln (o + w) ≤ (4096 : Nat))))
    (c7 : (W.scanB (List.take cc (List.drop pp hh) ++ List.take (ln (o + w)) (List.drop (0 : Nat) (T (o + w)))) (cc + ln (o + w)) = true))
    (h8 : (¬(↑w : Int) < (↑nt : Int))) :
    CodeOk Try.prog 136 213 (kAt (kOf Try.prog Try.f8) [true, true, true, true, false, true, false, false]) (LQI o n N ln T fo nf M fr tl to nt w hh pp cc) .normal ⟨[(0, (.c (.sl 1 0 o n 1))), (1, (.c (.sl 3 0 fo nf 1))), (2, (.c (.sl 4 0 to nt 1))), (7, (.c (.ptr 21 0 0))), (8, (.c (.ptr 69 0 0))), (6, (.c (.bool (false)))), (9, (.c (.int .i64 (↑(w + 1)))))], [(1, (.one ⟨false, false, (.gen N (fun j_ => (.sl 2 j_ 0 (ln j_) 1)))⟩)), (2, (.many (fun j_ => some ⟨false, false, (.ints .u8 (T j_))⟩))), (3, (.one ⟨false, false, (.gen M (fun j_ => (.bool (fr j_))))⟩)), (4, (.one ⟨false, false, (.ints .i64 tl)⟩)), (21, (.one ⟨true, true, (.cells [.nils, (.bool (true))])⟩)), (69, (.one ⟨true, true, (.cells [.nils, (.bool (true))])⟩))], 229⟩ :=
  CodeOk.of_runs (fuel := 300) (v := ⟨[0, 1, 2, 7, 8, 6, 9], [1, 2, 3, 4, 21, 69], [], 229⟩) (hs := [(4, ⟨.auto, some (.c (.bool (true)))⟩), (7, ⟨.auto, some (.c (.bool (true)))⟩), (11, ⟨.ask, some (.c (.ptr 1 0 (o + w)))⟩), (12, ⟨.ask, none⟩), (18, ⟨.auto, some (.c (.bool (true)))⟩), (21, ⟨.ask, some (.c (.ptr 3 0 (fo + w)))⟩), (22, ⟨.ask, none⟩), (23, ⟨.auto, some (.c (.bool (true)))⟩), (26, ⟨.call [2] (.tup [(.c .nils), (.c (.int .i64 6))]) [] [], none⟩), (33, ⟨.call [2] (.tup [(.c .nils), (.c (.int .i64 6))]) [] [], none⟩), (55, ⟨.call [21, 2, 213] (.c (.int .i64 6)) [] [(21, (.one ⟨true, true, (.cells [.nils, (.bool (true))])⟩))], none⟩), (58, ⟨.call [69, 2, 214] (.c (.int .i64 6)) [] [(69, (.one ⟨true, true, (.cells [.nils, (.bool (true))])⟩))], none⟩), (62, ⟨.call [21] (.c (.int .i64 0)) [] [], none⟩), (75, ⟨.auto, some (.c (.bool (false)))⟩), (77, ⟨.sum ⟨[0, 1, 2, 7, 8, 9, 6, 15], [1, 2, 3, 4, 21, 69], [], 100000⟩ (.exit 2) (LZiI o n N ln T fo nf M fr tl to nt w 0), none⟩), (79, ⟨.auto, some (.c (.int .i64 (↑(w + 1))))⟩)])
    (cs := [EI .i64 (IntKind.wrap IntKind.i64 ((↑w : Int) + 1)) ((↑(w + 1) : Int)),
      CodeOk Try.prog 136 1365 (kAt (kOf Try.prog Try.f8) [true, true, true, true, false, true, false, false, true, false, false, true, true, true, true, true, false]) (LZiI o n N ln T fo nf M fr tl to nt w 1) (.exit 2) (LZiI o n N ln T fo nf M fr tl to nt w 0),
      EB (decide ((↑w : Int) < (↑nt : Int))) false,
      Contract Try.prog 44 [(.c (.ptr 21 0 0))] [(21, (.one ⟨true, true, (.cells [.nils, (.bool (true))])⟩))] 1157 (.c (.int .i64 0)) [] [],
      Contract Try.prog 43 [(.c (.ptr 69 0 0)), (.c (.sl 2 (o + w) 0 (ln (o + w)) 1))] [(69, (.one ⟨true, true, (.cells [(.sl 214 0 pp cc 1), (.bool (false))])⟩)), (2, (.many (fun j_ => some ⟨false, false, (.ints .u8 (T j_))⟩))), (214, (.one ⟨true, false, (.ints .u8 hh)⟩))] 1093 (.c (.int .i64 6)) [] [(69, (.one ⟨true, true, (.cells [.nils, (.bool (true))])⟩))],
      Contract Try.prog 42 [(.c (.ptr 21 0 0)), (.c (.sl 2 (o + w) 0 (ln (o + w)) 1))] [(21, (.one ⟨true, true, (.cells [(.sl 213 0 pp cc 1), (.bool (false))])⟩)), (2, (.many (fun j_ => some ⟨false, false, (.ints .u8 (T j_))⟩))), (213, (.one ⟨true, false, (.ints .u8 hh)⟩))] 1045 (.c (.int .i64 6)) [] [(21, (.one ⟨true, true, (.cells [.nils, (.bool (true))])⟩))],
      Contract Try.prog 41 [(.c (.sl 2 (o + w) 0 (ln (o + w)) 1))] [(2, (.many (fun j_ => some ⟨false, false, (.ints .u8 (T j_))⟩)))] 725 (.tup [(.c .nils), (.c (.int .i64 6))]) [] [],
      Contract Try.prog 40 [(.c (.sl 2 (o + w) 0 (ln (o + w)) 1))] [(2, (.many (fun j_ => some ⟨false, false, (.ints .u8 (T j_))⟩)))] 613 (.tup [(.c .nils), (.c (.int .i64 6))]) [] [],
      EB (fr (fo + w)) true,
      (fo + w + (1 : Nat) ≤ M),
      ((.c (.ptr 3 0 (addO fo w))) : V) = (.c (.ptr 3 0 (fo + w))),
      ((0 : Int) ≤ (↑w : Int) ∧ (↑w : Int) < (↑nf : Int)),
      EB (decide ((↑w : Int) < (↑nf : Int))) true,
      (o + w + (1 : Nat) ≤ N),
      ((.c (.ptr 1 0 (addO o w))) : V) = (.c (.ptr 1 0 (o + w))),
      ((0 : Int) ≤ (↑w : Int) ∧ (↑w : Int) < (↑n : Int)),
      EB (decide ((↑w : Int) < 30)) true,
      EB (decide ((↑w : Int) < (↑n : Int))) true])
    mixed (by kernel_rfl) ⟨.mk (by simp only [addO_eq, mulE_eq, mulE_one, Int.toNat_natCast, IntKind.wrap_i64, mmin, mmax]; omega), (CodeOk.mono (lzi o n N ln T fo nf M fr tl to nt w 1 (by omega) (by omega) (by omega) (by omega) (by omega) (by omega) (by omega) (by omega) (by omega) (by omega) (by omega) (by omega)) (by decide)), .mk (decide_eq_false h8), Contract0.inst (heldB true) [.b 21 1 true []] [none] [] [] (by kernel_rfl) (by kernel_rfl) (by kernel_rfl) (by kernel_rfl) (by kernel_rfl), ContractN.fin (ContractN.fam (k := .u8) (l := (T (o + w))) (ex := false) (args1 := [(.c (.ptr 69 0 0)), (.c (.sl 1108 0 0 (ln (o + w)) 1))]) 1108 2 (o + w) (Contract0.instN (rfedN true hh (T (o + w)) pp cc 0 (ln (o + w)) (by omega) (by rw [Nat.zero_add]; exact hln _) (by omega) (by exact Nat.le_trans (hln _) (Nat.le_trans (hTs _) (by decide))) (by omega) (by exact hTb _) (by omega)) [.b 69 1 false [], .b 214 2 true [], .b 1108 3 true []] [none, none] [] [] (by kernel_rfl) (by kernel_rfl) (by kernel_rfl) (by kernel_rfl) (by kernel_rfl)) (by kernel_rfl) (by kernel_rfl) (by kernel_rfl) (by kernel_rfl) (by kernel_rfl) (by kernel_rfl)) (by kernel_rfl), ContractN.fin (ContractN.fam (k := .u8) (l := (T (o + w))) (ex := false) (args1 := [(.c (.ptr 21 0 0)), (.c (.sl 1060 0 0 (ln (o + w)) 1))]) 1060 2 (o + w) (Contract0.instN (fedN true hh (T (o + w)) pp cc 0 (ln (o + w)) (by omega) (by rw [Nat.zero_add]; exact hln _) (by omega) (by exact Nat.le_trans (hln _) (Nat.le_trans (hTs _) (by decide))) (by omega) (by exact hTb _) c7) [.b 21 1 false [], .b 213 2 true [], .b 1060 3 true []] [none, none] [] [] (by kernel_rfl) (by kernel_rfl) (by kernel_rfl) (by kernel_rfl) (by kernel_rfl)) (by kernel_rfl) (by kernel_rfl) (by kernel_rfl) (by kernel_rfl) (by kernel_rfl) (by kernel_rfl)) (by kernel_rfl), ContractN.fin (ContractN.fam (k := .u8) (l := (T (o + w))) (ex := false) (args1 := [(.c (.sl 740 0 0 (ln (o + w)) 1))]) 740 2 (o + w) (Contract0.instN (rfraN (T (o + w)) 0 (ln (o + w)) (by rw [Nat.zero_add]; exact hln _) (by exact Nat.le_trans (hln _) (Nat.le_trans (hTs _) (by decide))) (by omega)) [.b 740 1 true []] [none] [] [] (by kernel_rfl) (by kernel_rfl) (by kernel_rfl) (by kernel_rfl) (by kernel_rfl)) (by kernel_rfl) (by kernel_rfl) (by kernel_rfl) (by kernel_rfl) (by kernel_rfl) (by kernel_rfl)) (by kernel_rfl), ContractN.fin (ContractN.fam (k := .u8) (l := (T (o + w))) (ex := false) (args1 := [(.c (.sl 628 0 0 (ln (o + w)) 1))]) 628 2 (o + w) (Contract0.instN (fraN (T (o + w)) 0 (ln (o + w)) (by rw [Nat.zero_add]; exact hln _) (by exact Nat.le_trans (hln _) (Nat.le_trans (hTs _) (by decide))) c6) [.b 628 1 true []] [none] [] [] (by kernel_rfl) (by kernel_rfl) (by kernel_rfl) (by kernel_rfl) (by kernel_rfl)) (by kernel_rfl) (by kernel_rfl) (by kernel_rfl) (by kernel_rfl) (by kernel_rfl) (by kernel_rfl)) (by kernel_rfl), .mk h5, (by omega), EV.ptr (by simp only [addO_eq, mulE_eq, mulE_one, Int.toNat_natCast, IntKind.wrap_i64, mmin, mmax]), (by omega), .mk (decide_eq_true h4), (by omega), EV.ptr (by simp only [addO_eq, mulE_eq, mulE_one, Int.toNat_natCast, IntKind.wrap_i64, mmin, mmax]), (by omega), .mk (decide_eq_true h3), .mk (decide_eq_true h2), trivial⟩
theorem LQ_rttttc1c0t (o n N : Nat) (ln : Nat → Nat) (T : Nat → List Int) (fo nf M : Nat) (fr : Nat → Bool) (tl : List Int) (to nt w : Nat) (hh : List Int) (pp cc : Nat)
    (hN : o + n ≤ N)
    (hln : ∀ j, ln j ≤ (T j).length)
    (hTb : ∀ j, W.bytes (T j))
    (hTs : ∀ j, (T j).length ≤ 1048576)
    (hn : n ≤ 1048576)
    (hM : fo + nf ≤ M)
    (hnf : nf ≤ 1048576)
    (htl : to + nt ≤ tl.length)
    (hnt : nt ≤ 1048576)
    (htr : ∀ j, -9223372036854775808 ≤ List.getD tl j 0 ∧ List.getD tl j 0 < 9223372036854775808)
    (hw : w ≤ 30)
    (hpc : pp + cc ≤ hh.length)
    (hcc : cc ≤ w * 1048600)
    (hhb : W.bytes hh)
    (h2 : ((↑w : Int) < (↑n : Int)))
    (h3 : ((↑w : Int) < (30 : Int)))
    (h4 : ((↑w : Int) < (↑nf : Int)))
    (h5 : (fr (fo + w) = true))
    (c6 : ((1 : Nat) ≤ ln (o + w) ∧ ln (o + w) ≤ (4096 : Nat)))
    (c7 : ((0 : Nat) + ((2 : Nat) + ln (o + w)) ≤ List.length (W.frm (ln (o + w)) (List.take (ln (o + w)) (T (o + w))))))
    (c8 : (W.bytes (W.frm (ln (o + w)) (List.take (ln (o + w)) (T (o + w))))))
    (c9 : (W.scanB (List.take cc (List.drop pp hh) ++ List.take ((2 : Nat) + ln (o + w)) (List.drop (0 : Nat) (W.frm (ln (o + w)) (List.take (ln (o + w)) (T (o + w)))))) (cc + ((2 : Nat) + ln (o + w))) = false))
    (h10 : ((↑w : Int) < (↑nt : Int)))
    (c11 : ((0 : Nat) + (cc + ((2 : Nat) + ln (o + w))) ≤ List.length (List.take cc (List.drop pp hh) ++ List.take ((2 : Nat) + ln (o + w)) (W.frm (ln (o + w)) (List.take (ln (o + w)) (T (o + w))))))) :
    CodeOk Try.prog 136 213 (kAt (kOf Try.prog Try.f8) [true, true, true, true, false, true, false, false]) (LQI o n N ln T fo nf M fr tl to nt w hh pp cc) .normal (LQI o n N ln T fo nf M fr tl to nt (w + 1) (List.take cc (List.drop pp hh) ++ List.take (2 + ln (o + w)) (W.frm (ln (o + w)) (List.take (ln (o + w)) (T (o + w))))) (W.nxP (List.take cc (List.drop pp hh) ++ List.take (2 + ln (o + w)) (W.frm (ln (o + w)) (List.take (ln (o + w)) (T (o + w))))) 0 (cc + (2 + ln (o + w))) (↑(W.pick (List.getD tl (to + w) 0) 4) : Int)) (W.nxC (List.take cc (List.drop pp hh) ++ List.take (2 + ln (o + w)) (W.frm (ln (o + w)) (List.take (ln (o + w)) (T (o + w))))) 0 (cc + (2 + ln (o + w))) (↑(W.pick (List.getD tl (to + w) 0) 4) : Int))) :=
  CodeOk.of_runs (fuel := 300) (v := ⟨[0, 1, 2, 7, 8, 6, 9], [100001, 100000, 1, 2, 3, 4, 21, 69], [(100000, 213), (100001, 214)], 229⟩) (hs := [(4, ⟨.auto, some (.c (.bool (true)))⟩), (7, ⟨.auto, some (.c (.bool (true)))⟩), (11, ⟨.ask, some (.c (.ptr 1 0 (o + w)))⟩), (12, ⟨.ask, none⟩), (18, ⟨.auto, some (.c (.bool (true)))⟩), (21, ⟨.ask, some (.c (.ptr 3 0 (fo + w)))⟩), (22, ⟨.ask, none⟩), (23, ⟨.auto, some (.c (.bool (true)))⟩), (26, ⟨.call [2] (.tup [(.c (.sl 613 0 0 (2 + ln (o + w)) 1)), (.c (.int .i64 0))]) [] [(613, (.one ⟨true, false, (.ints .u8 (W.frm (ln (o + w)) (List.take (ln (o + w)) (T (o + w)))))⟩))], none⟩), (33, ⟨.call [2] (.tup [(.c (.sl 725 0 0 (2 + ln (o + w)) 1)), (.c (.int .i64 0))]) [] [(725, (.one ⟨true, false, (.ints .u8 (W.frm (ln (o + w)) (List.take (ln (o + w)) (T (o + w)))))⟩))], none⟩), (40, ⟨.ask, none⟩), (42, ⟨.ask, none⟩), (43, ⟨.ask, some (.c (.bool (false)))⟩), (57, ⟨.call [21, 613, 213] (.c (.int .i64 0)) [] [(21, (.one ⟨true, true, (.cells [(.sl 1077 0 0 (cc + (2 + ln (o + w))) 1), (.bool (false))])⟩)), (1077, (.one ⟨true, false, (.ints .u8 (List.take cc (List.drop pp hh) ++ List.take (2 + ln (o + w)) (W.frm (ln (o + w)) (List.take (ln (o + w)) (T (o + w))))))⟩))], none⟩), (60, ⟨.call [69, 613, 214] (.c (.int .i64 0)) [] [(69, (.one ⟨true, true, (.cells [(.sl 1125 0 0 (cc + (2 + ln (o + w))) 1), (.bool (false))])⟩)), (1125, (.one ⟨true, false, (.ints .u8 (List.take cc (List.drop pp hh) ++ List.take (2 + ln (o + w)) (W.frm (ln (o + w)) (List.take (ln (o + w)) (T (o + w))))))⟩))], none⟩), (64, ⟨.call [21, 1077] (.c (.int .i64 (↑(cc + (2 + ln (o + w)))))) [] [], none⟩), (70, ⟨.auto, some (.c (.bool (false)))⟩), (77, ⟨.auto, some (.c (.bool (true)))⟩), (81, ⟨.ask, some (.c (.ptr 4 0 (to + w)))⟩), (82, ⟨.ask, none⟩), (83, ⟨.call [] (.c (.int .i64 (↑(W.pick (List.getD tl (to + w) 0) 4)))) [] [], none⟩), (85, ⟨.sum ⟨[0, 1, 2, 7, 8, 9, 6, 15], [1125, 1077, 1, 2, 3, 4, 21, 69], [(1077, 100000), (1125, 100001)], 100016⟩ (.exit 2) (LXiI o n N ln T fo nf M fr tl to nt w 0 (List.take cc (List.drop pp hh) ++ List.take (2 + ln (o + w)) (W.frm (ln (o + w)) (List.take (ln (o + w)) (T (o + w))))) (W.nxP (List.take cc (List.drop pp hh) ++ List.take (2 + ln (o + w)) (W.frm (ln (o + w)) (List.take (ln (o + w)) (T (o + w))))) 0 (cc + (2 + ln (o + w))) (↑(W.pick (List.getD tl (to + w) 0) 4) : Int)) (W.nxC (List.take cc (List.drop pp hh) ++ List.take (2 + ln (o + w)) (W.frm (ln (o + w)) (List.take (ln (o + w)) (T (o + w))))) 0 (cc + (2 + ln (o + w))) (↑(W.pick (List.getD tl (to + w) 0) 4) : Int))), none⟩), (87, ⟨.auto, some (.c (.int .i64 (↑(w + 1))))⟩)])
    (cs := [EI .i64 (IntKind.wrap IntKind.i64 ((↑w : Int) + 1)) ((↑(w + 1) : Int)),
      CodeOk Try.prog 136 1493 (kAt (kOf Try.prog Try.f8) [true, true, true, true, false, true, false, false, true, false, false, true, true, true, true, true, false]) (LXiI o n N ln T fo nf M fr tl to nt w (↑(W.pick (List.getD tl (to + w) 0) 4) : Int) (List.take cc (List.drop pp hh) ++ List.take (2 + ln (o + w)) (W.frm (ln (o + w)) (List.take (ln (o + w)) (T (o + w))))) 0 (cc + (2 + ln (o + w)))) (.exit 2) (LXiI o n N ln T fo nf M fr tl to nt w 0 (List.take cc (List.drop pp hh) ++ List.take (2 + ln (o + w)) (W.frm (ln (o + w)) (List.take (ln (o + w)) (T (o + w))))) (W.nxP (List.take cc (List.drop pp hh) ++ List.take (2 + ln (o + w)) (W.frm (ln (o + w)) (List.take (ln (o + w)) (T (o + w))))) 0 (cc + (2 + ln (o + w))) (↑(W.pick (List.getD tl (to + w) 0) 4) : Int)) (W.nxC (List.take cc (List.drop pp hh) ++ List.take (2 + ln (o + w)) (W.frm (ln (o + w)) (List.take (ln (o + w)) (T (o + w))))) 0 (cc + (2 + ln (o + w))) (↑(W.pick (List.getD tl (to + w) 0) 4) : Int))),
      Contract Try.prog 15 [(.c (.int .i64 (List.getD tl (to + w) 0))), (.c (.int .i64 4))] [] 1461 (.c (.int .i64 (↑(W.pick (List.getD tl (to + w) 0) 4)))) [] [],
      (to + w + (1 : Nat) ≤ List.length tl),
      ((.c (.ptr 4 0 (addO to w))) : V) = (.c (.ptr 4 0 (to + w))),
      ((0 : Int) ≤ (↑w : Int) ∧ (↑w : Int) < (↑nt : Int)),
      EB (decide ((↑w : Int) < (↑nt : Int))) true,
      EB ((↑(cc + (2 + ln (o + w))) : Int) != (↑(cc + (2 + ln (o + w))) : Int)) false,
      Contract Try.prog 44 [(.c (.ptr 21 0 0))] [(21, (.one ⟨true, true, (.cells [(.sl 1077 0 0 (cc + (2 + ln (o + w))) 1), (.bool (false))])⟩)), (1077, (.one ⟨true, false, (.ints .u8 (List.take cc (List.drop pp hh) ++ List.take (2 + ln (o + w)) (W.frm (ln (o + w)) (List.take (ln (o + w)) (T (o + w))))))⟩))] 1189 (.c (.int .i64 (↑(cc + (2 + ln (o + w)))))) [] [],
      Contract Try.prog 43 [(.c (.ptr 69 0 0)), (.c (.sl 613 0 0 (2 + ln (o + w)) 1))] [(69, (.one ⟨true, true, (.cells [(.sl 214 0 pp cc 1), (.bool (false))])⟩)), (613, (.one ⟨true, false, (.ints .u8 (W.frm (ln (o + w)) (List.take (ln (o + w)) (T (o + w)))))⟩)), (214, (.one ⟨true, false, (.ints .u8 hh)⟩))] 1125 (.c (.int .i64 0)) [] [(69, (.one ⟨true, true, (.cells [(.sl 1125 0 0 (cc + (2 + ln (o + w))) 1), (.bool (false))])⟩)), (1125, (.one ⟨true, false, (.ints .u8 (List.take cc (List.drop pp hh) ++ List.take (2 + ln (o + w)) (W.frm (ln (o + w)) (List.take (ln (o + w)) (T (o + w))))))⟩))],
      Contract Try.prog 42 [(.c (.ptr 21 0 0)), (.c (.sl 613 0 0 (2 + ln (o + w)) 1))] [(21, (.one ⟨true, true, (.cells [(.sl 213 0 pp cc 1), (.bool (false))])⟩)), (613, (.one ⟨true, false, (.ints .u8 (W.frm (ln (o + w)) (List.take (ln (o + w)) (T (o + w)))))⟩)), (213, (.one ⟨true, false, (.ints .u8 hh)⟩))] 1077 (.c (.int .i64 0)) [] [(21, (.one ⟨true, true, (.cells [(.sl 1077 0 0 (cc + (2 + ln (o + w))) 1), (.bool (false))])⟩)), (1077, (.one ⟨true, false, (.ints .u8 (List.take cc (List.drop pp hh) ++ List.take (2 + ln (o + w)) (W.frm (ln (o + w)) (List.take (ln (o + w)) (T (o + w))))))⟩))],
      EB (!ByteArray.toList { data := List.toArray (List.map (fun n => UInt8.ofNat (Int.toNat n)) (List.take (2 + ln (o + w)) (List.drop 0 (W.frm (ln (o + w)) (List.take (ln (o + w)) (T (o + w))))))) } == ByteArray.toList { data := List.toArray (List.map (fun n => UInt8.ofNat (Int.toNat n)) (List.take (2 + ln (o + w)) (List.drop 0 (W.frm (ln (o + w)) (List.take (ln (o + w)) (T (o + w))))))) }) false,
      ((0 : Nat) + ((2 : Nat) + ln (o + w)) ≤ List.length (W.frm (ln (o + w)) (List.take (ln (o + w)) (T (o + w))))),
      ((0 : Nat) + ((2 : Nat) + ln (o + w)) ≤ List.length (W.frm (ln (o + w)) (List.take (ln (o + w)) (T (o + w))))),
      Contract Try.prog 41 [(.c (.sl 2 (o + w) 0 (ln (o + w)) 1))] [(2, (.many (fun j_ => some ⟨false, false, (.ints .u8 (T j_))⟩)))] 725 (.tup [(.c (.sl 725 0 0 (2 + ln (o + w)) 1)), (.c (.int .i64 0))]) [] [(725, (.one ⟨true, false, (.ints .u8 (W.frm (ln (o + w)) (List.take (ln (o + w)) (T (o + w)))))⟩))],
      Contract Try.prog 40 [(.c (.sl 2 (o + w) 0 (ln (o + w)) 1))] [(2, (.many (fun j_ => some ⟨false, false, (.ints .u8 (T j_))⟩)))] 613 (.tup [(.c (.sl 613 0 0 (2 + ln (o + w)) 1)), (.c (.int .i64 0))]) [] [(613, (.one ⟨true, false, (.ints .u8 (W.frm (ln (o + w)) (List.take (ln (o + w)) (T (o + w)))))⟩))],
      EB (fr (fo + w)) true,
      (fo + w + (1 : Nat) ≤ M),
      ((.c (.ptr 3 0 (addO fo w))) : V) = (.c (.ptr 3 0 (fo + w))),
      ((0 : Int) ≤ (↑w : Int) ∧ (↑w : Int) < (↑nf : Int)),
      EB (decide ((↑w : Int) < (↑nf : Int))) true,
      (o + w + (1 : Nat) ≤ N),
      ((.c (.ptr 1 0 (addO o w))) : V) = (.c (.ptr 1 0 (o + w))),
      ((0 : Int) ≤ (↑w : Int) ∧ (↑w : Int) < (↑n : Int)),
      EB (decide ((↑w : Int) < 30)) true,
      EB (decide ((↑w : Int) < (↑n : Int))) true])
    mixed (by kernel_rfl) ⟨.mk (by simp only [addO_eq, mulE_eq, mulE_one, Int.toNat_natCast, IntKind.wrap_i64, mmin, mmax]; omega), (CodeOk.mono (lxi o n N ln T fo nf M fr tl to nt w ((↑(W.pick (List.getD tl (to + w) 0) 4) : Int)) (List.take cc (List.drop pp hh) ++ List.take (2 + ln (o + w)) (W.frm (ln (o + w)) (List.take (ln (o + w)) (T (o + w))))) 0 (cc + (2 + ln (o + w))) (by omega) (by omega) (by omega) (by omega) (by omega) (by omega) (by omega) (by omega) (by omega) (by omega) (by omega) (by exact ⟨by omega, by have := W.pick_lt (a := List.getD tl (to + w) 0) (b := 4) (by decide); omega⟩) c11 (by omega) (by repeat' with_reducible first | assumption | exact W.p8_bytes | exact W.bytes_zero | exact W.apply_bytes | exact W.once_bytes | exact W.tag_bytes | exact W.boxTag_bytes | exact W.box_bytes | exact W.bytes_nil | exact W.bts_bytes | exact W.le_bytes | exact W.hand_bytes | exact W.padd_bytes | exact W.frm_bytes | apply W.bytes_app | apply W.bytes_take | apply W.bytes_drop)) (by decide)), Contract0.inst (pick_ok (List.getD tl (to + w) 0) 4 (by exact htr _) (by omega)) [] [none, none] [] [] (by kernel_rfl) (by kernel_rfl) (by kernel_rfl) (by kernel_rfl) (by kernel_rfl), (by omega), EV.ptr (by simp only [addO_eq, mulE_eq, mulE_one, Int.toNat_natCast, IntKind.wrap_i64, mmin, mmax]), (by omega), .mk (decide_eq_true h10), .mk (bne_f (Decidable.of_not_not (by omega))), Contract0.inst (heldY (List.take cc (List.drop pp hh) ++ List.take (2 + ln (o + w)) (W.frm (ln (o + w)) (List.take (ln (o + w)) (T (o + w))))) 0 (cc + (2 + ln (o + w)))) [.b 21 1 true [], .b 1077 2 true []] [none] [] [] (by kernel_rfl) (by kernel_rfl) (by kernel_rfl) (by kernel_rfl) (by kernel_rfl), Contract0.inst (rfedY true hh (W.frm (ln (o + w)) (List.take (ln (o + w)) (T (o + w)))) pp cc 0 (2 + ln (o + w)) (by omega) (by omega) (by omega) (by omega) (by omega) (by omega) (by omega)) [.b 69 1 false [], .b 214 2 true [], .b 613 3 true []] [none, none] [(4, 1125)] [] (by kernel_rfl) (by kernel_rfl) (by kernel_rfl) (by kernel_rfl) (by kernel_rfl), Contract0.inst (fedY true hh (W.frm (ln (o + w)) (List.take (ln (o + w)) (T (o + w)))) pp cc 0 (2 + ln (o + w)) (by omega) (by omega) (by omega) (by omega) (by omega) c8 c9) [.b 21 1 false [], .b 213 2 true [], .b 613 3 true []] [none, none] [(4, 1077)] [] (by kernel_rfl) (by kernel_rfl) (by kernel_rfl) (by kernel_rfl) (by kernel_rfl), .mk (not_f (strEq_t (by simp only [List.take_take, Nat.min_self, List.drop_zero]))), (by omega), c7, ContractN.fin (ContractN.fam (k := .u8) (l := (T (o + w))) (ex := false) (args1 := [(.c (.sl 740 0 0 (ln (o + w)) 1))]) 740 2 (o + w) (Contract0.instN (rfraY (T (o + w)) 0 (ln (o + w)) (by rw [Nat.zero_add]; exact hln _) (by omega) (by omega)) [.b 740 1 true []] [none] [(2, 725)] [] (by kernel_rfl) (by kernel_rfl) (by kernel_rfl) (by kernel_rfl) (by kernel_rfl)) (by kernel_rfl) (by kernel_rfl) (by kernel_rfl) (by kernel_rfl) (by kernel_rfl) (by kernel_rfl)) (by kernel_rfl), ContractN.fin (ContractN.fam (k := .u8) (l := (T (o + w))) (ex := false) (args1 := [(.c (.sl 628 0 0 (ln (o + w)) 1))]) 628 2 (o + w) (Contract0.instN (fraY (T (o + w)) 0 (ln (o + w)) (by rw [Nat.zero_add]; exact hln _) (by exact Nat.le_trans (hln _) (Nat.le_trans (hTs _) (by decide))) c6) [.b 628 1 true []] [none] [(2, 613)] [] (by kernel_rfl) (by kernel_rfl) (by kernel_rfl) (by kernel_rfl) (by kernel_rfl)) (by kernel_rfl) (by kernel_rfl) (by kernel_rfl) (by kernel_rfl) (by kernel_rfl) (by kernel_rfl)) (by kernel_rfl), .mk h5, (by omega), EV.ptr (by simp only [addO_eq, mulE_eq, mulE_one, Int.toNat_natCast, IntKind.wrap_i64, mmin, mmax]), (by omega), .mk (decide_eq_true h4), (by omega), EV.ptr (by simp only [addO_eq, mulE_eq, mulE_one, Int.toNat_natCast, IntKind.wrap_i64, mmin, mmax]), (by omega), .mk (decide_eq_true h3), .mk (decide_eq_true h2), trivial⟩
theorem LQ_rttttc1c0f (o n N : Nat) (ln : Nat → Nat) (T : Nat → List Int) (fo nf M : Nat) (fr : Nat → Bool) (tl : List Int) (to nt w : Nat) (hh : List Int) (pp cc : Nat)
    (hN : o + n ≤ N)
    (hln : ∀ j, ln j ≤ (T j).length)
    (hTb : ∀ j, W.bytes (T j))
    (hTs : ∀ j, (T j).length ≤ 1048576)
    (hn : n ≤ 1048576)
    (hM : fo + nf ≤ M)
    (hnf : nf ≤ 1048576)
    (htl : to + nt ≤ tl.length)
    (hnt : nt ≤ 1048576)
    (htr : ∀ j, -9223372036854775808 ≤ List.getD tl j 0 ∧ List.getD tl j 0 < 9223372036854775808)
    (hw : w ≤ 30)
    (hpc : pp + cc ≤ hh.length)
    (hcc : cc ≤ w * 1048600)
    (hhb : W.bytes hh)
    (h2 : ((↑w : Int) < (↑n : Int)))
    (h3 : ((↑w : Int) < (30 : Int)))
    (h4 : ((↑w : Int) < (↑nf : Int)))
    (h5 : (fr (fo + w) = true))
    (c6 : ((1 : Nat) ≤ ln (o + w) ∧ ln (o + w) ≤ (4096 : Nat)))
    (c7 : ((0 : Nat) + ((2 : Nat) + ln (o + w)) ≤ List.length (W.frm (ln (o + w)) (List.take (ln (o + w)) (T (o + w))))))
    (c8 : (W.bytes (W.frm (ln (o + w)) (List.take (ln (o + w)) (T (o + w))))))
    (c9 : (W.scanB (List.take cc (List.drop pp hh) ++ List.take ((2 : Nat) + ln (o + w)) (List.drop (0 : Nat) (W.frm (ln (o + w)) (List.take (ln (o + w)) (T (o + w)))))) (cc + ((2 : Nat) + ln (o + w))) = false))
    (h10 : (¬(↑w : Int) < (↑nt : Int)))
    (c11 : ((0 : Nat) + (cc + ((2 : Nat) + ln (o + w))) ≤ List.length (List.take cc (List.drop pp hh) ++ List.take ((2 : Nat) + ln (o + w)) (W.frm (ln (o + w)) (List.take (ln (o + w)) (T (o + w))))))) :
    CodeOk Try.prog 136 213 (kAt (kOf Try.prog Try.f8) [true, true, true, true, false, true, false, false]) (LQI o n N ln T fo nf M fr tl to nt w hh pp cc) .normal (LQI o n N ln T fo nf M fr tl to nt (w + 1) (List.take cc (List.drop pp hh) ++ List.take (2 + ln (o + w)) (W.frm (ln (o + w)) (List.take (ln (o + w)) (T (o + w))))) (W.nxP (List.take cc (List.drop pp hh) ++ List.take (2 + ln (o + w)) (W.frm (ln (o + w)) (List.take (ln (o + w)) (T (o + w))))) 0 (cc + (2 + ln (o + w))) 1) (W.nxC (List.take cc (List.drop pp hh) ++ List.take (2 + ln (o + w)) (W.frm (ln (o + w)) (List.take (ln (o + w)) (T (o + w))))) 0 (cc + (2 + ln (o + w))) 1)) :=
  CodeOk.of_runs (fuel := 300) (v := ⟨[0, 1, 2, 7, 8, 6, 9], [100001, 100000, 1, 2, 3, 4, 21, 69], [(100000, 213), (100001, 214)], 229⟩) (hs := [(4, ⟨.auto, some (.c (.bool (true)))⟩), (7, ⟨.auto, some (.c (.bool (true)))⟩), (11, ⟨.ask, some (.c (.ptr 1 0 (o + w)))⟩), (12, ⟨.ask, none⟩), (18, ⟨.auto, some (.c (.bool (true)))⟩), (21, ⟨.ask, some (.c (.ptr 3 0 (fo + w)))⟩), (22, ⟨.ask, none⟩), (23, ⟨.auto, some (.c (.bool (true)))⟩), (26, ⟨.call [2] (.tup [(.c (.sl 613 0 0 (2 + ln (o + w)) 1)), (.c (.int .i64 0))]) [] [(613, (.one ⟨true, false, (.ints .u8 (W.frm (ln (o + w)) (List.take (ln (o + w)) (T (o + w)))))⟩))], none⟩), (33, ⟨.call [2] (.tup [(.c (.sl 725 0 0 (2 + ln (o + w)) 1)), (.c (.int .i64 0))]) [] [(725, (.one ⟨true, false, (.ints .u8 (W.frm (ln (o + w)) (List.take (ln (o + w)) (T (o + w)))))⟩))], none⟩), (40, ⟨.ask, none⟩), (42, ⟨.ask, none⟩), (43, ⟨.ask, some (.c (.bool (false)))⟩), (57, ⟨.call [21, 613, 213] (.c (.int .i64 0)) [] [(21, (.one ⟨true, true, (.cells [(.sl 1077 0 0 (cc + (2 + ln (o + w))) 1), (.bool (false))])⟩)), (1077, (.one ⟨true, false, (.ints .u8 (List.take cc (List.drop pp hh) ++ List.take (2 + ln (o + w)) (W.frm (ln (o + w)) (List.take (ln (o + w)) (T (o + w))))))⟩))], none⟩), (60, ⟨.call [69, 613, 214] (.c (.int .i64 0)) [] [(69, (.one ⟨true, true, (.cells [(.sl 1125 0 0 (cc + (2 + ln (o + w))) 1), (.bool (false))])⟩)), (1125, (.one ⟨true, false, (.ints .u8 (List.take cc (List.drop pp hh) ++ List.take (2 + ln (o + w)) (W.frm (ln (o + w)) (List.take (ln (o + w)) (T (o + w))))))⟩))], none⟩), (64, ⟨.call [21, 1077] (.c (.int .i64 (↑(cc + (2 + ln (o + w)))))) [] [], none⟩), (70, ⟨.auto, some (.c (.bool (false)))⟩), (77, ⟨.auto, some (.c (.bool (false)))⟩), (79, ⟨.sum ⟨[0, 1, 2, 7, 8, 9, 6, 15], [1125, 1077, 1, 2, 3, 4, 21, 69], [(1077, 100000), (1125, 100001)], 100016⟩ (.exit 2) (LXiI o n N ln T fo nf M fr tl to nt w 0 (List.take cc (List.drop pp hh) ++ List.take (2 + ln (o + w)) (W.frm (ln (o + w)) (List.take (ln (o + w)) (T (o + w))))) (W.nxP (List.take cc (List.drop pp hh) ++ List.take (2 + ln (o + w)) (W.frm (ln (o + w)) (List.take (ln (o + w)) (T (o + w))))) 0 (cc + (2 + ln (o + w))) 1) (W.nxC (List.take cc (List.drop pp hh) ++ List.take (2 + ln (o + w)) (W.frm (ln (o + w)) (List.take (ln (o + w)) (T (o + w))))) 0 (cc + (2 + ln (o + w))) 1)), none⟩), (81, ⟨.auto, some (.c (.int .i64 (↑(w + 1))))⟩)])
    (cs := [EI .i64 (IntKind.wrap IntKind.i64 ((↑w : Int) + 1)) ((↑(w + 1) : Int)),
      CodeOk Try.prog 136 1397 (kAt (kOf Try.prog Try.f8) [true, true, true, true, false, true, false, false, true, false, false, true, true, true, true, true, false]) (LXiI o n N ln T fo nf M fr tl to nt w 1 (List.take cc (List.drop pp hh) ++ List.take (2 + ln (o + w)) (W.frm (ln (o + w)) (List.take (ln (o + w)) (T (o + w))))) 0 (cc + (2 + ln (o + w)))) (.exit 2) (LXiI o n N ln T fo nf M fr tl to nt w 0 (List.take cc (List.drop pp hh) ++ List.take (2 + ln (o + w)) (W.frm (ln (o + w)) (List.take (ln (o + w)) (T (o + w))))) (W.nxP (List.take cc (List.drop pp hh) ++ List.take (2 + ln (o + w)) (W.frm (ln (o + w)) (List.take (ln (o + w)) (T (o + w))))) 0 (cc + (2 + ln (o + w))) 1) (W.nxC (List.take cc (List.drop pp hh) ++ List.take (2 + ln (o + w)) (W.frm (ln (o + w)) (List.take (ln (o + w)) (T (o + w))))) 0 (cc + (2 + ln (o + w))) 1)),
      EB (decide ((↑w : Int) < (↑nt : Int))) false,
      EB ((↑(cc + (2 + ln (o + w))) : Int) != (↑(cc + (2 + ln (o + w))) : Int)) false,
      Contract Try.prog 44 [(.c (.ptr 21 0 0))] [(21, (.one ⟨true, true, (.cells [(.sl 1077 0 0 (cc + (2 + ln (o + w))) 1), (.bool (false))])⟩)), (1077, (.one ⟨true, false, (.ints .u8 (List.take cc (List.drop pp hh) ++ List.take (2 + ln (o + w)) (W.frm (ln (o + w)) (List.take (ln (o + w)) (T (o + w))))))⟩))] 1189 (.c (.int .i64 (↑(cc + (2 + ln (o + w)))))) [] [],
      Contract Try.prog 43 [(.c (.ptr 69 0 0)), (.c (.sl 613 0 0 (2 + ln (o + w)) 1))] [(69, (.one ⟨true, true, (.cells [(.sl 214 0 pp cc 1), (.bool (false))])⟩)), (613, (.one ⟨true, false, (.ints .u8 (W.frm (ln (o + w)) (List.take (ln (o + w)) (T (o + w)))))⟩)), (214, (.one ⟨true, false, (.ints .u8 hh)⟩))] 1125 (.c (.int .i64 0)) [] [(69, (.one ⟨true, true, (.cells [(.sl 1125 0 0 (cc + (2 + ln (o + w))) 1), (.bool (false))])⟩)), (1125, (.one ⟨true, false, (.ints .u8 (List.take cc (List.drop pp hh) ++ List.take (2 + ln (o + w)) (W.frm (ln (o + w)) (List.take (ln (o + w)) (T (o + w))))))⟩))],
      Contract Try.prog 42 [(.c (.ptr 21 0 0)), (.c (.sl 613 0 0 (2 + ln (o + w)) 1))] [(21, (.one ⟨true, true, (.cells [(.sl 213 0 pp cc 1), (.bool (false))])⟩)), (613, (.one ⟨true, false, (.ints .u8 (W.frm (ln (o + w)) (List.take (ln (o + w)) (T (o + w)))))⟩)), (213, (.one ⟨true, false, (.ints .u8 hh)⟩))] 1077 (.c (.int .i64 0)) [] [(21, (.one ⟨true, true, (.cells [(.sl 1077 0 0 (cc + (2 + ln (o + w))) 1), (.bool (false))])⟩)), (1077, (.one ⟨true, false, (.ints .u8 (List.take cc (List.drop pp hh) ++ List.take (2 + ln (o + w)) (W.frm (ln (o + w)) (List.take (ln (o + w)) (T (o + w))))))⟩))],
      EB (!ByteArray.toList { data := List.toArray (List.map (fun n => UInt8.ofNat (Int.toNat n)) (List.take (2 + ln (o + w)) (List.drop 0 (W.frm (ln (o + w)) (List.take (ln (o + w)) (T (o + w))))))) } == ByteArray.toList { data := List.toArray (List.map (fun n => UInt8.ofNat (Int.toNat n)) (List.take (2 + ln (o + w)) (List.drop 0 (W.frm (ln (o + w)) (List.take (ln (o + w)) (T (o + w))))))) }) false,
      ((0 : Nat) + ((2 : Nat) + ln (o + w)) ≤ List.length (W.frm (ln (o + w)) (List.take (ln (o + w)) (T (o + w))))),
      ((0 : Nat) + ((2 : Nat) + ln (o + w)) ≤ List.length (W.frm (ln (o + w)) (List.take (ln (o + w)) (T (o + w))))),
      Contract Try.prog 41 [(.c (.sl 2 (o + w) 0 (ln (o + w)) 1))] [(2, (.many (fun j_ => some ⟨false, false, (.ints .u8 (T j_))⟩)))] 725 (.tup [(.c (.sl 725 0 0 (2 + ln (o + w)) 1)), (.c (.int .i64 0))]) [] [(725, (.one ⟨true, false, (.ints .u8 (W.frm (ln (o + w)) (List.take (ln (o + w)) (T (o + w)))))⟩))],
      Contract Try.prog 40 [(.c (.sl 2 (o + w) 0 (ln (o + w)) 1))] [(2, (.many (fun j_ => some ⟨false, false, (.ints .u8 (T j_))⟩)))] 613 (.tup [(.c (.sl 613 0 0 (2 + ln (o + w)) 1)), (.c (.int .i64 0))]) [] [(613, (.one ⟨true, false, (.ints .u8 (W.frm (ln (o + w)) (List.take (ln (o + w)) (T (o + w)))))⟩))],
      EB (fr (fo + w)) true,
      (fo + w + (1 : Nat) ≤ M),
      ((.c (.ptr 3 0 (addO fo w))) : V) = (.c (.ptr 3 0 (fo + w))),
      ((0 : Int) ≤ (↑w : Int) ∧ (↑w : Int) < (↑nf : Int)),
      EB (decide ((↑w : Int) < (↑nf : Int))) true,
      (o + w + (1 : Nat) ≤ N),
      ((.c (.ptr 1 0 (addO o w))) : V) = (.c (.ptr 1 0 (o + w))),
      ((0 : Int) ≤ (↑w : Int) ∧ (↑w : Int) < (↑n : Int)),
      EB (decide ((↑w : Int) < 30)) true,
      EB (decide ((↑w : Int) < (↑n : Int))) true])
    mixed (by kernel_rfl) ⟨.mk (by simp only [addO_eq, mulE_eq, mulE_one, Int.toNat_natCast, IntKind.wrap_i64, mmin, mmax]; omega), (CodeOk.mono (lxi o n N ln T fo nf M fr tl to nt w 1 (List.take cc (List.drop pp hh) ++ List.take (2 + ln (o + w)) (W.frm (ln (o + w)) (List.take (ln (o + w)) (T (o + w))))) 0 (cc + (2 + ln (o + w))) (by omega) (by omega) (by omega) (by omega) (by omega) (by omega) (by omega) (by omega) (by omega) (by omega) (by omega) (by omega) c11 (by omega) (by repeat' with_reducible first | assumption | exact W.p8_bytes | exact W.bytes_zero | exact W.apply_bytes | exact W.once_bytes | exact W.tag_bytes | exact W.boxTag_bytes | exact W.box_bytes | exact W.bytes_nil | exact W.bts_bytes | exact W.le_bytes | exact W.hand_bytes | exact W.padd_bytes | exact W.frm_bytes | apply W.bytes_app | apply W.bytes_take | apply W.bytes_drop)) (by decide)), .mk (decide_eq_false h10), .mk (bne_f (Decidable.of_not_not (by omega))), Contract0.inst (heldY (List.take cc (List.drop pp hh) ++ List.take (2 + ln (o + w)) (W.frm (ln (o + w)) (List.take (ln (o + w)) (T (o + w))))) 0 (cc + (2 + ln (o + w)))) [.b 21 1 true [], .b 1077 2 true []] [none] [] [] (by kernel_rfl) (by kernel_rfl) (by kernel_rfl) (by kernel_rfl) (by kernel_rfl), Contract0.inst (rfedY true hh (W.frm (ln (o + w)) (List.take (ln (o + w)) (T (o + w)))) pp cc 0 (2 + ln (o + w)) (by omega) (by omega) (by omega) (by omega) (by omega) (by omega) (by omega)) [.b 69 1 false [], .b 214 2 true [], .b 613 3 true []] [none, none] [(4, 1125)] [] (by kernel_rfl) (by kernel_rfl) (by kernel_rfl) (by kernel_rfl) (by kernel_rfl), Contract0.inst (fedY true hh (W.frm (ln (o + w)) (List.take (ln (o + w)) (T (o + w)))) pp cc 0 (2 + ln (o + w)) (by omega) (by omega) (by omega) (by omega) (by omega) c8 c9) [.b 21 1 false [], .b 213 2 true [], .b 613 3 true []] [none, none] [(4, 1077)] [] (by kernel_rfl) (by kernel_rfl) (by kernel_rfl) (by kernel_rfl) (by kernel_rfl), .mk (not_f (strEq_t (by simp only [List.take_take, Nat.min_self, List.drop_zero]))), (by omega), c7, ContractN.fin (ContractN.fam (k := .u8) (l := (T (o + w))) (ex := false) (args1 := [(.c (.sl 740 0 0 (ln (o + w)) 1))]) 740 2 (o + w) (Contract0.instN (rfraY (T (o + w)) 0 (ln (o + w)) (by rw [Nat.zero_add]; exact hln _) (by omega) (by omega)) [.b 740 1 true []] [none] [(2, 725)] [] (by kernel_rfl) (by kernel_rfl) (by kernel_rfl) (by kernel_rfl) (by kernel_rfl)) (by kernel_rfl) (by kernel_rfl) (by kernel_rfl) (by kernel_rfl) (by kernel_rfl) (by kernel_rfl)) (by kernel_rfl), ContractN.fin (ContractN.fam (k := .u8) (l := (T (o + w))) (ex := false) (args1 := [(.c (.sl 628 0 0 (ln (o + w)) 1))]) 628 2 (o + w) (Contract0.instN (fraY (T (o + w)) 0 (ln (o + w)) (by rw [Nat.zero_add]; exact hln _) (by exact Nat.le_trans (hln _) (Nat.le_trans (hTs _) (by decide))) c6) [.b 628 1 true []] [none] [(2, 613)] [] (by kernel_rfl) (by kernel_rfl) (by kernel_rfl) (by kernel_rfl) (by kernel_rfl)) (by kernel_rfl) (by kernel_rfl) (by kernel_rfl) (by kernel_rfl) (by kernel_rfl) (by kernel_rfl)) (by kernel_rfl), .mk h5, (by omega), EV.ptr (by simp only [addO_eq, mulE_eq, mulE_one, Int.toNat_natCast, IntKind.wrap_i64, mmin, mmax]), (by omega), .mk (decide_eq_true h4), (by omega), EV.ptr (by simp only [addO_eq, mulE_eq, mulE_one, Int.toNat_natCast, IntKind.wrap_i64, mmin, mmax]), (by omega), .mk (decide_eq_true h3), .mk (decide_eq_true h2), trivial⟩
theorem LQ_rttttc1c1t (o n N : Nat) (ln : Nat → Nat) (T : Nat → List Int) (fo nf M : Nat) (fr : Nat → Bool) (tl : List Int) (to nt w : Nat) (hh : List Int) (pp cc : Nat)
    (hN : o + n ≤ N)
    (hln : ∀ j, ln j ≤ (T j).length)
    (hTb : ∀ j, W.bytes (T j))
    (hTs : ∀ j, (T j).length ≤ 1048576)
    (hn : n ≤ 1048576)
    (hM : fo + nf ≤ M)
    (hnf : nf ≤ 1048576)
    (htl : to + nt ≤ tl.length)
    (hnt : nt ≤ 1048576)
    (htr : ∀ j, -9223372036854775808 ≤ List.getD tl j 0 ∧ List.getD tl j 0 < 9223372036854775808)
    (hw : w ≤ 30)
    (hpc : pp + cc ≤ hh.length)
    (hcc : cc ≤ w * 1048600)
    (hhb : W.bytes hh)
    (h2 : ((↑w : Int) < (↑n : Int)))
    (h3 : ((↑w : Int) < (30 : Int)))
    (h4 : ((↑w : Int) < (↑nf : Int)))
    (h5 : (fr (fo + w) = true))
    (c6 : ((1 : Nat) ≤ ln (o + w) ∧ ln (o + w) ≤ (4096 : Nat)))
    (c7 : ((0 : Nat) + ((2 : Nat) + ln (o + w)) ≤ List.length (W.frm (ln (o + w)) (List.take (ln (o + w)) (T (o + w))))))
    (c8 : (W.bytes (W.frm (ln (o + w)) (List.take (ln (o + w)) (T (o + w))))))
    (c9 : (W.scanB (List.take cc (List.drop pp hh) ++ List.take ((2 : Nat) + ln (o + w)) (List.drop (0 : Nat) (W.frm (ln (o + w)) (List.take (ln (o + w)) (T (o + w)))))) (cc + ((2 : Nat) + ln (o + w))) = true))
    (h10 : ((↑w : Int) < (↑nt : Int))) :
    CodeOk Try.prog 136 213 (kAt (kOf Try.prog Try.f8) [true, true, true, true, false, true, false, false]) (LQI o n N ln T fo nf M fr tl to nt w hh pp cc) .normal ⟨[(0, (.c (.sl 1 0 o n 1))), (1, (.c (.sl 3 0 fo nf 1))), (2, (.c (.sl 4 0 to nt 1))), (7, (.c (.ptr 21 0 0))), (8, (.c (.ptr 69 0 0))), (6, (.c (.bool (false)))), (9, (.c (.int .i64 (↑(w + 1)))))], [(1, (.one ⟨false, false, (.gen N (fun j_ => (.sl 2 j_ 0 (ln j_) 1)))⟩)), (2, (.many (fun j_ => some ⟨false, false, (.ints .u8 (T j_))⟩))), (3, (.one ⟨false, false, (.gen M (fun j_ => (.bool (fr j_))))⟩)), (4, (.one ⟨false, false, (.ints .i64 tl)⟩)), (21, (.one ⟨true, true, (.cells [.nils, (.bool (true))])⟩)), (69, (.one ⟨true, true, (.cells [.nils, (.bool (true))])⟩))], 229⟩ :=
  CodeOk.of_runs (fuel := 300) (v := ⟨[0, 1, 2, 7, 8, 6, 9], [1, 2, 3, 4, 21, 69], [], 229⟩) (hs := [(4, ⟨.auto, some (.c (.bool (true)))⟩), (7, ⟨.auto, some (.c (.bool (true)))⟩), (11, ⟨.ask, some (.c (.ptr 1 0 (o + w)))⟩), (12, ⟨.ask, none⟩), (18, ⟨.auto, some (.c (.bool (true)))⟩), (21, ⟨.ask, some (.c (.ptr 3 0 (fo + w)))⟩), (22, ⟨.ask, none⟩), (23, ⟨.auto, some (.c (.bool (true)))⟩), (26, ⟨.call [2] (.tup [(.c (.sl 613 0 0 (2 + ln (o + w)) 1)), (.c (.int .i64 0))]) [] [(613, (.one ⟨true, false, (.ints .u8 (W.frm (ln (o + w)) (List.take (ln (o + w)) (T (o + w)))))⟩))], none⟩), (33, ⟨.call [2] (.tup [(.c (.sl 725 0 0 (2 + ln (o + w)) 1)), (.c (.int .i64 0))]) [] [(725, (.one ⟨true, false, (.ints .u8 (W.frm (ln (o + w)) (List.take (ln (o + w)) (T (o + w)))))⟩))], none⟩), (40, ⟨.ask, none⟩), (42, ⟨.ask, none⟩), (43, ⟨.ask, some (.c (.bool (false)))⟩), (57, ⟨.call [21, 613, 213] (.c (.int .i64 6)) [] [(21, (.one ⟨true, true, (.cells [.nils, (.bool (true))])⟩))], none⟩), (60, ⟨.call [69, 613, 214] (.c (.int .i64 6)) [] [(69, (.one ⟨true, true, (.cells [.nils, (.bool (true))])⟩))], none⟩), (64, ⟨.call [21] (.c (.int .i64 0)) [] [], none⟩), (77, ⟨.auto, some (.c (.bool (true)))⟩), (81, ⟨.ask, some (.c (.ptr 4 0 (to + w)))⟩), (82, ⟨.ask, none⟩), (83, ⟨.call [] (.c (.int .i64 (↑(W.pick (List.getD tl (to + w) 0) 4)))) [] [], none⟩), (85, ⟨.sum ⟨[0, 1, 2, 7, 8, 9, 6, 15], [1, 2, 3, 4, 21, 69], [], 100000⟩ (.exit 2) (LZiI o n N ln T fo nf M fr tl to nt w 0), none⟩), (87, ⟨.auto, some (.c (.int .i64 (↑(w + 1))))⟩)])
    (cs := [EI .i64 (IntKind.wrap IntKind.i64 ((↑w : Int) + 1)) ((↑(w + 1) : Int)),
      CodeOk Try.prog 136 1493 (kAt (kOf Try.prog Try.f8) [true, true, true, true, false, true, false, false, true, false, false, true, true, true, true, true, false]) (LZiI o n N ln T fo nf M fr tl to nt w (↑(W.pick (List.getD tl (to + w) 0) 4) : Int)) (.exit 2) (LZiI o n N ln T fo nf M fr tl to nt w 0),
      Contract Try.prog 15 [(.c (.int .i64 (List.getD tl (to + w) 0))), (.c (.int .i64 4))] [] 1461 (.c (.int .i64 (↑(W.pick (List.getD tl (to + w) 0) 4)))) [] [],
      (to + w + (1 : Nat) ≤ List.length tl),
      ((.c (.ptr 4 0 (addO to w))) : V) = (.c (.ptr 4 0 (to + w))),
      ((0 : Int) ≤ (↑w : Int) ∧ (↑w : Int) < (↑nt : Int)),
      EB (decide ((↑w : Int) < (↑nt : Int))) true,
      Contract Try.prog 44 [(.c (.ptr 21 0 0))] [(21, (.one ⟨true, true, (.cells [.nils, (.bool (true))])⟩))] 1189 (.c (.int .i64 0)) [] [],
      Contract Try.prog 43 [(.c (.ptr 69 0 0)), (.c (.sl 613 0 0 (2 + ln (o + w)) 1))] [(69, (.one ⟨true, true, (.cells [(.sl 214 0 pp cc 1), (.bool (false))])⟩)), (613, (.one ⟨true, false, (.ints .u8 (W.frm (ln (o + w)) (List.take (ln (o + w)) (T (o + w)))))⟩)), (214, (.one ⟨true, false, (.ints .u8 hh)⟩))] 1125 (.c (.int .i64 6)) [] [(69, (.one ⟨true, true, (.cells [.nils, (.bool (true))])⟩))],
      Contract Try.prog 42 [(.c (.ptr 21 0 0)), (.c (.sl 613 0 0 (2 + ln (o + w)) 1))] [(21, (.one ⟨true, true, (.cells [(.sl 213 0 pp cc 1), (.bool (false))])⟩)), (613, (.one ⟨true, false, (.ints .u8 (W.frm (ln (o + w)) (List.take (ln (o + w)) (T (o + w)))))⟩)), (213, (.one ⟨true, false, (.ints .u8 hh)⟩))] 1077 (.c (.int .i64 6)) [] [(21, (.one ⟨true, true, (.cells [.nils, (.bool (true))])⟩))],
      EB (!ByteArray.toList { data := List.toArray (List.map (fun n => UInt8.ofNat (Int.toNat n)) (List.take (2 + ln (o + w)) (List.drop 0 (W.frm (ln (o + w)) (List.take (ln (o + w)) (T (o + w))))))) } == ByteArray.toList { data := List.toArray (List.map (fun n => UInt8.ofNat (Int.toNat n)) (List.take (2 + ln (o + w)) (List.drop 0 (W.frm (ln (o + w)) (List.take (ln (o + w)) (T (o + w))))))) }) false,
      ((0 : Nat) + ((2 : Nat) + ln (o + w)) ≤ List.length (W.frm (ln (o + w)) (List.take (ln (o + w)) (T (o + w))))),
      ((0 : Nat) + ((2 : Nat) + ln (o + w)) ≤ List.length (W.frm (ln (o + w)) (List.take (ln (o + w)) (T (o + w))))),
      Contract Try.prog 41 [(.c (.sl 2 (o + w) 0 (ln (o + w)) 1))] [(2, (.many (fun j_ => some ⟨false, false, (.ints .u8 (T j_))⟩)))] 725 (.tup [(.c (.sl 725 0 0 (2 + ln (o + w)) 1)), (.c (.int .i64 0))]) [] [(725, (.one ⟨true, false, (.ints .u8 (W.frm (ln (o + w)) (List.take (ln (o + w)) (T (o + w)))))⟩))],
      Contract Try.prog 40 [(.c (.sl 2 (o + w) 0 (ln (o + w)) 1))] [(2, (.many (fun j_ => some ⟨false, false, (.ints .u8 (T j_))⟩)))] 613 (.tup [(.c (.sl 613 0 0 (2 + ln (o + w)) 1)), (.c (.int .i64 0))]) [] [(613, (.one ⟨true, false, (.ints .u8 (W.frm (ln (o + w)) (List.take (ln (o + w)) (T (o + w)))))⟩))],
      EB (fr (fo + w)) true,
      (fo + w + (1 : Nat) ≤ M),
      ((.c (.ptr 3 0 (addO fo w))) : V) = (.c (.ptr 3 0 (fo + w))),
      ((0 : Int) ≤ (↑w : Int) ∧ (↑w : Int) < (↑nf : Int)),
      EB (decide ((↑w : Int) < (↑nf : Int))) true,
      (o + w + (1 : Nat) ≤ N),
      ((.c (.ptr 1 0 (addO o w))) : V) = (.c (.ptr 1 0 (o + w))),
      ((0 : Int) ≤ (↑w : Int) ∧ (↑w : Int) < (↑n : Int)),
      EB (decide ((↑w : Int) < 30)) true,
      EB (decide ((↑w : Int) < (↑n : Int))) true])
    mixed (by kernel_rfl) ⟨.mk (by simp only [addO_eq, mulE_eq, mulE_one, Int.toNat_natCast, IntKind.wrap_i64, mmin, mmax]; omega), (CodeOk.mono (lzi o n N ln T fo nf M fr tl to nt w ((↑(W.pick (List.getD tl (to + w) 0) 4) : Int)) (by omega) (by omega) (by omega) (by omega) (by omega) (by omega) (by omega) (by omega) (by omega) (by omega) (by omega) (by exact ⟨by omega, by have := W.pick_lt (a := List.getD tl (to + w) 0) (b := 4) (by decide); omega⟩)) (by decide)), Contract0.inst (pick_ok (List.getD tl (to + w) 0) 4 (by exact htr _) (by omega)) [] [none, none] [] [] (by kernel_rfl) (by kernel_rfl) (by kernel_rfl) (by kernel_rfl) (by kernel_rfl), (by omega), EV.ptr (by simp only [addO_eq, mulE_eq, mulE_one, Int.toNat_natCast, IntKind.wrap_i64, mmin, mmax]), (by omega), .mk (decide_eq_true h10), Contract0.inst (heldB true) [.b 21 1 true []] [none] [] [] (by kernel_rfl) (by kernel_rfl) (by kernel_rfl) (by kernel_rfl) (by kernel_rfl), Contract0.inst (rfedN true hh (W.frm (ln (o + w)) (List.take (ln (o + w)) (T (o + w)))) pp cc 0 (2 + ln (o + w)) (by omega) (by omega) (by omega) (by omega) (by omega) (by omega) (by omega)) [.b 69 1 false [], .b 214 2 true [], .b 613 3 true []] [none, none] [] [] (by kernel_rfl) (by kernel_rfl) (by kernel_rfl) (by kernel_rfl) (by kernel_rfl), Contract0.inst (fedN true hh (W.frm (ln (o + w)) (List.take (ln (o + w)) (T (o + w)))) pp cc 0 (2 + ln (o + w)) (by omega) (by omega) (by omega) (by omega) (by omega) c8 c9) [.b 21 1 false [], .b 213 2 true [], .b 613 3 true []] [none, none] [] [] (by kernel_rfl) (by kernel_rfl) (by kernel_rfl) (by kernel_rfl) (by kernel_rfl), .mk (not_f (strEq_t (by simp only [List.take_take, Nat.min_self, List.drop_zero]))), (by omega), c7, ContractN.fin (ContractN.fam (k := .u8) (l := (T (o + w))) (ex := false) (args1 := [(.c (.sl 740 0 0 (ln (o + w)) 1))]) 740 2 (o + w) (Contract0.instN (rfraY (T (o + w)) 0 (ln (o + w)) (by rw [Nat.zero_add]; exact hln _) (by omega) (by omega)) [.b 740 1 true []] [none] [(2, 725)] [] (by kernel_rfl) (by kernel_rfl) (by kernel_rfl) (by kernel_rfl) (by kernel_rfl)) (by kernel_rfl) (by kernel_rfl) (by kernel_rfl) (by kernel_rfl) (by kernel_rfl) (by kernel_rfl)) (by kernel_rfl), ContractN.fin (ContractN.fam (k := .u8) (l := (T (o + w))) (ex := false) (args1 := [(.c (.sl 628 0 0 (ln (o + w)) 1))]) 628 2 (o + w) (Contract0.instN (fraY (T (o + w)) 0 (ln (o + w)) (by rw [Nat.zero_add]; exact hln _) (by exact Nat.le_trans (hln _) (Nat.le_trans (hTs _) (by decide))) c6) [.b 628 1 true []] [none] [(2, 613)] [] (by kernel_rfl) (by kernel_rfl) (by kernel_rfl) (by kernel_rfl) (by kernel_rfl)) (by kernel_rfl) (by kernel_rfl) (by kernel_rfl) (by kernel_rfl) (by kernel_rfl) (by kernel_rfl)) (by kernel_rfl), .mk h5, (by omega), EV.ptr (by simp only [addO_eq, mulE_eq, mulE_one, Int.toNat_natCast, IntKind.wrap_i64, mmin, mmax]), (by omega), .mk (decide_eq_true h4), (by omega), EV.ptr (by simp only [addO_eq, mulE_eq, mulE_one, Int.toNat_natCast, IntKind.wrap_i64, mmin, mmax]), (by omega), .mk (decide_eq_true h3), .mk (decide_eq_true h2), trivial⟩
theorem LQ_rttttc1c1f (o n N : Nat) (ln : Nat → Nat) (T : Nat → List Int) (fo nf M : Nat) (fr : Nat → Bool) (tl : List Int) (to nt w : Nat) (hh : List Int) (pp cc : Nat)
    (hN : o + n ≤ N)
    (hln : ∀ j, ln j ≤ (T j).length)
    (hTb : ∀ j, W.bytes (T j))
    (hTs : ∀ j, (T j).length ≤ 1048576)
    (hn : n ≤ 1048576)
    (hM : fo + nf ≤ M)
    (hnf : nf ≤ 1048576)
    (htl : to + nt ≤ tl.length)
    (hnt : nt ≤ 1048576)
    (htr : ∀ j, -9223372036854775808 ≤ List.getD tl j 0 ∧ List.getD tl j 0 < 9223372036854775808)
    (hw : w ≤ 30)
    (hpc : pp + cc ≤ hh.length)
    (hcc : cc ≤ w * 1048600)
    (hhb : W.bytes hh)
    (h2 : ((↑w : Int) < (↑n : Int)))
    (h3 : ((↑w : Int) < (30 : Int)))
    (h4 : ((↑w : Int) < (↑nf : Int)))
    (h5 : (fr (fo + w) = true))
    (c6 : ((1 : Nat) ≤ ln (o + w) ∧ ln (o + w) ≤ (4096 : Nat)))
    (c7 : ((0 : Nat) + ((2 : Nat) + ln (o + w)) ≤ List.length (W.frm (ln (o + w)) (List.take (ln (o + w)) (T (o + w))))))
    (c8 : (W.bytes (W.frm (ln (o + w)) (List.take (ln (o + w)) (T (o + w))))))
    (c9 : (W.scanB (List.take cc (List.drop pp hh) ++ List.take ((2 : Nat) + ln (o + w)) (List.drop (0 : Nat) (W.frm (ln (o + w)) (List.take (ln (o + w)) (T (o + w)))))) (cc + ((2 : Nat) + ln (o + w))) = true))
    (h10 : (¬(↑w : Int) < (↑nt : Int))) :
    CodeOk Try.prog 136 213 (kAt (kOf Try.prog Try.f8) [true, true, true, true, false, true, false, false]) (LQI o n N ln T fo nf M fr tl to nt w hh pp cc) .normal ⟨[(0, (.c (.sl 1 0 o n 1))), (1, (.c (.sl 3 0 fo nf 1))), (2, (.c (.sl 4 0 to nt 1))), (7, (.c (.ptr 21 0 0))), (8, (.c (.ptr 69 0 0))), (6, (.c (.bool (false)))), (9, (.c (.int .i64 (↑(w + 1)))))], [(1, (.one ⟨false, false, (.gen N (fun j_ => (.sl 2 j_ 0 (ln j_) 1)))⟩)), (2, (.many (fun j_ => some ⟨false, false, (.ints .u8 (T j_))⟩))), (3, (.one ⟨false, false, (.gen M (fun j_ => (.bool (fr j_))))⟩)), (4, (.one ⟨false, false, (.ints .i64 tl)⟩)), (21, (.one ⟨true, true, (.cells [.nils, (.bool (true))])⟩)), (69, (.one ⟨true, true, (.cells [.nils, (.bool (true))])⟩))], 229⟩ :=
  CodeOk.of_runs (fuel := 300) (v := ⟨[0, 1, 2, 7, 8, 6, 9], [1, 2, 3, 4, 21, 69], [], 229⟩) (hs := [(4, ⟨.auto, some (.c (.bool (true)))⟩), (7, ⟨.auto, some (.c (.bool (true)))⟩), (11, ⟨.ask, some (.c (.ptr 1 0 (o + w)))⟩), (12, ⟨.ask, none⟩), (18, ⟨.auto, some (.c (.bool (true)))⟩), (21, ⟨.ask, some (.c (.ptr 3 0 (fo + w)))⟩), (22, ⟨.ask, none⟩), (23, ⟨.auto, some (.c (.bool (true)))⟩), (26, ⟨.call [2] (.tup [(.c (.sl 613 0 0 (2 + ln (o + w)) 1)), (.c (.int .i64 0))]) [] [(613, (.one ⟨true, false, (.ints .u8 (W.frm (ln (o + w)) (List.take (ln (o + w)) (T (o + w)))))⟩))], none⟩), (33, ⟨.call [2] (.tup [(.c (.sl 725 0 0 (2 + ln (o + w)) 1)), (.c (.int .i64 0))]) [] [(725, (.one ⟨true, false, (.ints .u8 (W.frm (ln (o + w)) (List.take (ln (o + w)) (T (o + w)))))⟩))], none⟩), (40, ⟨.ask, none⟩), (42, ⟨.ask, none⟩), (43, ⟨.ask, some (.c (.bool (false)))⟩), (57, ⟨.call [21, 613, 213] (.c (.int .i64 6)) [] [(21, (.one ⟨true, true, (.cells [.nils, (.bool (true))])⟩))], none⟩), (60, ⟨.call [69, 613, 214] (.c (.int .i64 6)) [] [(69, (.one ⟨true, true, (.cells [.nils, (.bool (true))])⟩))], none⟩), (64, ⟨.call [21] (.c (.int .i64 0)) [] [], none⟩), (77, ⟨.auto, some (.c (.bool (false)))⟩), (79, ⟨.sum ⟨[0, 1, 2, 7, 8, 9, 6, 15], [1, 2, 3, 4, 21, 69], [], 100000⟩ (.exit 2) (LZiI o n N ln T fo nf M fr tl to nt w 0), none⟩), (81, ⟨.auto, some (.c (.int .i64 (↑(w + 1))))⟩)])
    (cs := [EI .i64 (IntKind.wrap IntKind.i64 ((↑w : Int) + 1)) ((↑(w + 1) : Int)),
      CodeOk Try.prog 136 1397 (kAt (kOf Try.prog Try.f8) [true, true, true, true, false, true, false, false, true, false, false, true, true, true, true, true, false]) (LZiI o n N ln T fo nf M fr tl to nt w 1) (.exit 2) (LZiI o n N ln T fo nf M fr tl to nt w 0),
      EB (decide ((↑w : Int) < (↑nt : Int))) false,
      Contract Try.prog 44 [(.c (.ptr 21 0 0))] [(21, (.one ⟨true, true, (.cells [.nils, (.bool (true))])⟩))] 1189 (.c (.int .i64 0)) [] [],
      Contract Try.prog 43 [(.c (.ptr 69 0 0)), (.c (.sl 613 0 0 (2 + ln (o + w)) 1))] [(69, (.one ⟨true, true, (.cells [(.sl 214 0 pp cc 1), (.bool (false))])⟩)), (613, (.one ⟨true, false, (.ints .u8 (W.frm (ln (o + w)) (List.take (ln (o + w)) (T (o + w)))))⟩)), (214, (.one ⟨true, false, (.ints .u8 hh)⟩))] 1125 (.c (.int .i64 6)) [] [(69, (.one ⟨true, true, (.cells [.nils, (.bool (true))])⟩))],
      Contract Try.prog 42 [(.c (.ptr 21 0 0)), (.c (.sl 613 0 0 (2 + ln (o + w)) 1))] [(21, (.one ⟨true, true, (.cells [(.sl 213 0 pp cc 1), (.bool (false))])⟩)), (613, (.one ⟨true, false, (.ints .u8 (W.frm (ln (o + w)) (List.take (ln (o + w)) (T (o + w)))))⟩)), (213, (.one ⟨true, false, (.ints .u8 hh)⟩))] 1077 (.c (.int .i64 6)) [] [(21, (.one ⟨true, true, (.cells [.nils, (.bool (true))])⟩))],
      EB (!ByteArray.toList { data := List.toArray (List.map (fun n => UInt8.ofNat (Int.toNat n)) (List.take (2 + ln (o + w)) (List.drop 0 (W.frm (ln (o + w)) (List.take (ln (o + w)) (T (o + w))))))) } == ByteArray.toList { data := List.toArray (List.map (fun n => UInt8.ofNat (Int.toNat n)) (List.take (2 + ln (o + w)) (List.drop 0 (W.frm (ln (o + w)) (List.take (ln (o + w)) (T (o + w))))))) }) false,
      ((0 : Nat) + ((2 : Nat) + ln (o + w)) ≤ List.length (W.frm (ln (o + w)) (List.take (ln (o + w)) (T (o + w))))),
      ((0 : Nat) + ((2 : Nat) + ln (o + w)) ≤ List.length (W.frm (ln (o + w)) (List.take (ln (o + w)) (T (o + w))))),
      Contract Try.prog 41 [(.c (.sl 2 (o + w) 0 (ln (o + w)) 1))] [(2, (.many (fun j_ => some ⟨false, false, (.ints .u8 (T j_))⟩)))] 725 (.tup [(.c (.sl 725 0 0 (2 + ln (o + w)) 1)), (.c (.int .i64 0))]) [] [(725, (.one ⟨true, false, (.ints .u8 (W.frm (ln (o + w)) (List.take (ln (o + w)) (T (o + w)))))⟩))],
      Contract Try.prog 40 [(.c (.sl 2 (o + w) 0 (ln (o + w)) 1))] [(2, (.many (fun j_ => some ⟨false, false, (.ints .u8 (T j_))⟩)))] 613 (.tup [(.c (.sl 613 0 0 (2 + ln (o + w)) 1)), (.c (.int .i64 0))]) [] [(613, (.one ⟨true, false, (.ints .u8 (W.frm (ln (o + w)) (List.take (ln (o + w)) (T (o + w)))))⟩))],
      EB (fr (fo + w)) true,
      (fo + w + (1 : Nat) ≤ M),
      ((.c (.ptr 3 0 (addO fo w))) : V) = (.c (.ptr 3 0 (fo + w))),
      ((0 : Int) ≤ (↑w : Int) ∧ (↑w : Int) < (↑nf : Int)),
      EB (decide ((↑w : Int) < (↑nf : Int))) true,
      (o + w + (1 : Nat) ≤ N),
      ((.c (.ptr 1 0 (addO o w))) : V) = (.c (.ptr 1 0 (o + w))),
      ((0 : Int) ≤ (↑w : Int) ∧ (↑w : Int) < (↑n : Int)),
      EB (decide ((↑w : Int) < 30)) true,
      EB (decide ((↑w : Int) < (↑n : Int))) true])
    mixed (by kernel_rfl) ⟨.mk (by simp only [addO_eq, mulE_eq, mulE_one, Int.toNat_natCast, IntKind.wrap_i64, mmin, mmax]; omega), (CodeOk.mono (lzi o n N ln T fo nf M fr tl to nt w 1 (by omega) (by omega) (by omega) (by omega) (by omega) (by omega) (by omega) (by omega) (by omega) (by omega) (by omega) (by omega)) (by decide)), .mk (decide_eq_false h10), Contract0.inst (heldB true) [.b 21 1 true []] [none] [] [] (by kernel_rfl) (by kernel_rfl) (by kernel_rfl) (by kernel_rfl) (by kernel_rfl), Contract0.inst (rfedN true hh (W.frm (ln (o + w)) (List.take (ln (o + w)) (T (o + w)))) pp cc 0 (2 + ln (o + w)) (by omega) (by omega) (by omega) (by omega) (by omega) (by omega) (by omega)) [.b 69 1 false [], .b 214 2 true [], .b 613 3 true []] [none, none] [] [] (by kernel_rfl) (by kernel_rfl) (by kernel_rfl) (by kernel_rfl) (by kernel_rfl), Contract0.inst (fedN true hh (W.frm (ln (o + w)) (List.take (ln (o + w)) (T (o + w)))) pp cc 0 (2 + ln (o + w)) (by omega) (by omega) (by omega) (by omega) (by omega) c8 c9) [.b 21 1 false [], .b 213 2 true [], .b 613 3 true []] [none, none] [] [] (by kernel_rfl) (by kernel_rfl) (by kernel_rfl) (by kernel_rfl) (by kernel_rfl), .mk (not_f (strEq_t (by simp only [List.take_take, Nat.min_self, List.drop_zero]))), (by omega), c7, ContractN.fin (ContractN.fam (k := .u8) (l := (T (o + w))) (ex := false) (args1 := [(.c (.sl 740 0 0 (ln (o + w)) 1))]) 740 2 (o + w) (Contract0.instN (rfraY (T (o + w)) 0 (ln (o + w)) (by rw [Nat.zero_add]; exact hln _) (by omega) (by omega)) [.b 740 1 true []] [none] [(2, 725)] [] (by kernel_rfl) (by kernel_rfl) (by kernel_rfl) (by kernel_rfl) (by kernel_rfl)) (by kernel_rfl) (by kernel_rfl) (by kernel_rfl) (by kernel_rfl) (by kernel_rfl) (by kernel_rfl)) (by kernel_rfl), ContractN.fin (ContractN.fam (k := .u8) (l := (T (o + w))) (ex := false) (args1 := [(.c (.sl 628 0 0 (ln (o + w)) 1))]) 628 2 (o + w) (Contract0.instN (fraY (T (o + w)) 0 (ln (o + w)) (by rw [Nat.zero_add]; exact hln _) (by exact Nat.le_trans (hln _) (Nat.le_trans (hTs _) (by decide))) c6) [.b 628 1 true []] [none] [(2, 613)] [] (by kernel_rfl) (by kernel_rfl) (by kernel_rfl) (by kernel_rfl) (by kernel_rfl)) (by kernel_rfl) (by kernel_rfl) (by kernel_rfl) (by kernel_rfl) (by kernel_rfl) (by kernel_rfl)) (by kernel_rfl), .mk h5, (by omega), EV.ptr (by simp only [addO_eq, mulE_eq, mulE_one, Int.toNat_natCast, IntKind.wrap_i64, mmin, mmax]), (by omega), .mk (decide_eq_true h4), (by omega), EV.ptr (by simp only [addO_eq, mulE_eq, mulE_one, Int.toNat_natCast, IntKind.wrap_i64, mmin, mmax]), (by omega), .mk (decide_eq_true h3), .mk (decide_eq_true h2), trivial⟩
theorem LQ_rtttfc0t (o n N : Nat) (ln : Nat → Nat) (T : Nat → List Int) (fo nf M : Nat) (fr : Nat → Bool) (tl : List Int) (to nt w : Nat) (hh : List Int) (pp cc : Nat)
    (hN : o + n ≤ N)
    (hln : ∀ j, ln j ≤ (T j).length)
    (hTb : ∀ j, W.bytes (T j))
    (hTs : ∀ j, (T j).length ≤ 1048576)
    (hn : n ≤ 1048576)
    (hM : fo + nf ≤ M)
    (hnf : nf ≤ 1048576)
    (htl : to + nt ≤ tl.length)
    (hnt : nt ≤ 1048576)
    (htr : ∀ j, -9223372036854775808 ≤ List.getD tl j 0 ∧ List.getD tl j 0 < 9223372036854775808)
    (hw : w ≤ 30)
    (hpc : pp + cc ≤ hh.length)
    (hcc : cc ≤ w * 1048600)
    (hhb : W.bytes hh)
    (h2 : ((↑w : Int) < (↑n : Int)))
    (h3 : ((↑w : Int) < (30 : Int)))
    (h4 : ((↑w : Int) < (↑nf : Int)))
    (h5 : (¬fr (fo + w) = true))
    (c6 : (W.scanB (List.take cc (List.drop pp hh) ++ List.take (ln (o + w)) (List.drop (0 : Nat) (T (o + w)))) (cc + ln (o + w)) = false))
    (h7 : ((↑w : Int) < (↑nt : Int)))
    (c8 : ((0 : Nat) + (cc + ln (o + w)) ≤ List.length (List.take cc (List.drop pp hh) ++ List.take (ln (o + w)) (T (o + w)))))
    (c9 : (cc + ln (o + w) ≤ (1073741824 : Nat)))
    (c10 : (W.bytes (List.take cc (List.drop pp hh) ++ List.take (ln (o + w)) (T (o + w))))) :
    CodeOk Try.prog 136 213 (kAt (kOf Try.prog Try.f8) [true, true, true, true, false, true, false, false]) (LQI o n N ln T fo nf M fr tl to nt w hh pp cc) .normal (LQI o n N ln T fo nf M fr tl to nt (w + 1) (List.take cc (List.drop pp hh) ++ List.take (ln (o + w)) (T (o + w))) (W.nxP (List.take cc (List.drop pp hh) ++ List.take (ln (o + w)) (T (o + w))) 0 (cc + ln (o + w)) (↑(W.pick (List.getD tl (to + w) 0) 4) : Int)) (W.nxC (List.take cc (List.drop pp hh) ++ List.take (ln (o + w)) (T (o + w))) 0 (cc + ln (o + w)) (↑(W.pick (List.getD tl (to + w) 0) 4) : Int))) :=
  CodeOk.of_runs (fuel := 300) (v := ⟨[0, 1, 2, 7, 8, 6, 9], [100001, 100000, 1, 2, 3, 4, 21, 69], [(100000, 213), (100001, 214)], 229⟩) (hs := [(4, ⟨.auto, some (.c (.bool (true)))⟩), (7, ⟨.auto, some (.c (.bool (true)))⟩), (11, ⟨.ask, some (.c (.ptr 1 0 (o + w)))⟩), (12, ⟨.ask, none⟩), (18, ⟨.auto, some (.c (.bool (true)))⟩), (21, ⟨.ask, some (.c (.ptr 3 0 (fo + w)))⟩), (22, ⟨.ask, none⟩), (23, ⟨.auto, some (.c (.bool (false)))⟩), (27, ⟨.call [21, 2, 213] (.c (.int .i64 0)) [] [(21, (.one ⟨true, true, (.cells [(.sl 629 0 0 (cc + ln (o + w)) 1), (.bool (false))])⟩)), (629, (.one ⟨true, false, (.ints .u8 (List.take cc (List.drop pp hh) ++ List.take (ln (o + w)) (T (o + w))))⟩))], none⟩), (30, ⟨.call [69, 2, 214] (.c (.int .i64 0)) [] [(69, (.one ⟨true, true, (.cells [(.sl 677 0 0 (cc + ln (o + w)) 1), (.bool (false))])⟩)), (677, (.one ⟨true, false, (.ints .u8 (List.take cc (List.drop pp hh) ++ List.take (ln (o + w)) (T (o + w))))⟩))], none⟩), (34, ⟨.call [21, 629] (.c (.int .i64 (↑(cc + ln (o + w))))) [] [], none⟩), (40, ⟨.auto, some (.c (.bool (false)))⟩), (47, ⟨.auto, some (.c (.bool (true)))⟩), (51, ⟨.ask, some (.c (.ptr 4 0 (to + w)))⟩), (52, ⟨.ask, none⟩), (53, ⟨.call [] (.c (.int .i64 (↑(W.pick (List.getD tl (to + w) 0) 4)))) [] [], none⟩), (55, ⟨.sum ⟨[0, 1, 2, 7, 8, 9, 6, 15], [677, 629, 1, 2, 3, 4, 21, 69], [(629, 100000), (677, 100001)], 100016⟩ (.exit 2) (LXiI o n N ln T fo nf M fr tl to nt w 0 (List.take cc (List.drop pp hh) ++ List.take (ln (o + w)) (T (o + w))) (W.nxP (List.take cc (List.drop pp hh) ++ List.take (ln (o + w)) (T (o + w))) 0 (cc + ln (o + w)) (↑(W.pick (List.getD tl (to + w) 0) 4) : Int)) (W.nxC (List.take cc (List.drop pp hh) ++ List.take (ln (o + w)) (T (o + w))) 0 (cc + ln (o + w)) (↑(W.pick (List.getD tl (to + w) 0) 4) : Int))), none⟩), (57, ⟨.auto, some (.c (.int .i64 (↑(w + 1))))⟩)])
    (cs := [EI .i64 (IntKind.wrap IntKind.i64 ((↑w : Int) + 1)) ((↑(w + 1) : Int)),
      CodeOk Try.prog 136 1045 (kAt (kOf Try.prog Try.f8) [true, true, true, true, false, true, false, false, true, false, false, true, true, true, true, true, false]) (LXiI o n N ln T fo nf M fr tl to nt w (↑(W.pick (List.getD tl (to + w) 0) 4) : Int) (List.take cc (List.drop pp hh) ++ List.take (ln (o + w)) (T (o + w))) 0 (cc + ln (o + w))) (.exit 2) (LXiI o n N ln T fo nf M fr tl to nt w 0 (List.take cc (List.drop pp hh) ++ List.take (ln (o + w)) (T (o + w))) (W.nxP (List.take cc (List.drop pp hh) ++ List.take (ln (o + w)) (T (o + w))) 0 (cc + ln (o + w)) (↑(W.pick (List.getD tl (to + w) 0) 4) : Int)) (W.nxC (List.take cc (List.drop pp hh) ++ List.take (ln (o + w)) (T (o + w))) 0 (cc + ln (o + w)) (↑(W.pick (List.getD tl (to + w) 0) 4) : Int))),
      Contract Try.prog 15 [(.c (.int .i64 (List.getD tl (to + w) 0))), (.c (.int .i64 4))] [] 1013 (.c (.int .i64 (↑(W.pick (List.getD tl (to + w) 0) 4)))) [] [],
      (to + w + (1 : Nat) ≤ List.length tl),
      ((.c (.ptr 4 0 (addO to w))) : V) = (.c (.ptr 4 0 (to + w))),
      ((0 : Int) ≤ (↑w : Int) ∧ (↑w : Int) < (↑nt : Int)),
      EB (decide ((↑w : Int) < (↑nt : Int))) true,
      EB ((↑(cc + ln (o + w)) : Int) != (↑(cc + ln (o + w)) : Int)) false,
      Contract Try.prog 44 [(.c (.ptr 21 0 0))] [(21, (.one ⟨true, true, (.cells [(.sl 629 0 0 (cc + ln (o + w)) 1), (.bool (false))])⟩)), (629, (.one ⟨true, false, (.ints .u8 (List.take cc (List.drop pp hh) ++ List.take (ln (o + w)) (T (o + w))))⟩))] 741 (.c (.int .i64 (↑(cc + ln (o + w))))) [] [],
      Contract Try.prog 43 [(.c (.ptr 69 0 0)), (.c (.sl 2 (o + w) 0 (ln (o + w)) 1))] [(69, (.one ⟨true, true, (.cells [(.sl 214 0 pp cc 1), (.bool (false))])⟩)), (2, (.many (fun j_ => some ⟨false, false, (.ints .u8 (T j_))⟩))), (214, (.one ⟨true, false, (.ints .u8 hh)⟩))] 677 (.c (.int .i64 0)) [] [(69, (.one ⟨true, true, (.cells [(.sl 677 0 0 (cc + ln (o + w)) 1), (.bool (false))])⟩)), (677, (.one ⟨true, false, (.ints .u8 (List.take cc (List.drop pp hh) ++ List.take (ln (o + w)) (T (o + w))))⟩))],
      Contract Try.prog 42 [(.c (.ptr 21 0 0)), (.c (.sl 2 (o + w) 0 (ln (o + w)) 1))] [(21, (.one ⟨true, true, (.cells [(.sl 213 0 pp cc 1), (.bool (false))])⟩)), (2, (.many (fun j_ => some ⟨false, false, (.ints .u8 (T j_))⟩))), (213, (.one ⟨true, false, (.ints .u8 hh)⟩))] 629 (.c (.int .i64 0)) [] [(21, (.one ⟨true, true, (.cells [(.sl 629 0 0 (cc + ln (o + w)) 1), (.bool (false))])⟩)), (629, (.one ⟨true, false, (.ints .u8 (List.take cc (List.drop pp hh) ++ List.take (ln (o + w)) (T (o + w))))⟩))],
      EB (fr (fo + w)) false,
      (fo + w + (1 : Nat) ≤ M),
      ((.c (.ptr 3 0 (addO fo w))) : V) = (.c (.ptr 3 0 (fo + w))),
      ((0 : Int) ≤ (↑w : Int) ∧ (↑w : Int) < (↑nf : Int)),
      EB (decide ((↑w : Int) < (↑nf : Int))) true,
      (o + w + (1 : Nat) ≤ N),
      ((.c (.ptr 1 0 (addO o w))) : V) = (.c (.ptr 1 0 (o + w))),
      ((0 : Int) ≤ (↑w : Int) ∧ (↑w : Int) < (↑n : Int)),
      EB (decide ((↑w : Int) < 30)) true,
      EB (decide ((↑w : Int) < (↑n : Int))) true])
    mixed (by kernel_rfl) ⟨.mk (by simp only [addO_eq, mulE_eq, mulE_one, Int.toNat_natCast, IntKind.wrap_i64, mmin, mmax]; omega), (CodeOk.mono (lxi o n N ln T fo nf M fr tl to nt w ((↑(W.pick (List.getD tl (to + w) 0) 4) : Int)) (List.take cc (List.drop pp hh) ++ List.take (ln (o + w)) (T (o + w))) 0 (cc + ln (o + w)) (by omega) (by omega) (by omega) (by omega) (by omega) (by omega) (by omega) (by omega) (by omega) (by omega) (by omega) (by exact ⟨by omega, by have := W.pick_lt (a := List.getD tl (to + w) 0) (b := 4) (by decide); omega⟩) c8 c9 c10) (by decide)), Contract0.inst (pick_ok (List.getD tl (to + w) 0) 4 (by exact htr _) (by omega)) [] [none, none] [] [] (by kernel_rfl) (by kernel_rfl) (by kernel_rfl) (by kernel_rfl) (by kernel_rfl), (by omega), EV.ptr (by simp only [addO_eq, mulE_eq, mulE_one, Int.toNat_natCast, IntKind.wrap_i64, mmin, mmax]), (by omega), .mk (decide_eq_true h7), .mk (bne_f (Decidable.of_not_not (by omega))), Contract0.inst (heldY (List.take cc (List.drop pp hh) ++ List.take (ln (o + w)) (T (o + w))) 0 (cc + ln (o + w))) [.b 21 1 true [], .b 629 2 true []] [none] [] [] (by kernel_rfl) (by kernel_rfl) (by kernel_rfl) (by kernel_rfl) (by kernel_rfl), ContractN.fin (ContractN.fam (k := .u8) (l := (T (o + w))) (ex := false) (args1 := [(.c (.ptr 69 0 0)), (.c (.sl 692 0 0 (ln (o + w)) 1))]) 692 2 (o + w) (Contract0.instN (rfedY true hh (T (o + w)) pp cc 0 (ln (o + w)) (by omega) (by rw [Nat.zero_add]; exact hln _) (by omega) (by exact Nat.le_trans (hln _) (Nat.le_trans (hTs _) (by decide))) (by omega) (by exact hTb _) (by omega)) [.b 69 1 false [], .b 214 2 true [], .b 692 3 true []] [none, none] [(4, 677)] [] (by kernel_rfl) (by kernel_rfl) (by kernel_rfl) (by kernel_rfl) (by kernel_rfl)) (by kernel_rfl) (by kernel_rfl) (by kernel_rfl) (by kernel_rfl) (by kernel_rfl) (by kernel_rfl)) (by kernel_rfl), ContractN.fin (ContractN.fam (k := .u8) (l := (T (o + w))) (ex := false) (args1 := [(.c (.ptr 21 0 0)), (.c (.sl 644 0 0 (ln (o + w)) 1))]) 644 2 (o + w) (Contract0.instN (fedY true hh (T (o + w)) pp cc 0 (ln (o + w)) (by omega) (by rw [Nat.zero_add]; exact hln _) (by omega) (by exact Nat.le_trans (hln _) (Nat.le_trans (hTs _) (by decide))) (by omega) (by exact hTb _) c6) [.b 21 1 false [], .b 213 2 true [], .b 644 3 true []] [none, none] [(4, 629)] [] (by kernel_rfl) (by kernel_rfl) (by kernel_rfl) (by kernel_rfl) (by kernel_rfl)) (by kernel_rfl) (by kernel_rfl) (by kernel_rfl) (by kernel_rfl) (by kernel_rfl) (by kernel_rfl)) (by kernel_rfl), .mk (Bool.eq_false_iff.2 h5), (by omega), EV.ptr (by simp only [addO_eq, mulE_eq, mulE_one, Int.toNat_natCast, IntKind.wrap_i64, mmin, mmax]), (by omega), .mk (decide_eq_true h4), (by omega), EV.ptr (by simp only [addO_eq, mulE_eq, mulE_one, Int.toNat_natCast, IntKind.wrap_i64, mmin, mmax]), (by omega), .mk (decide_eq_true h3), .mk (decide_eq_true h2), trivial⟩
theorem LQ_rtttfc0f (o n N : Nat) (ln : Nat → Nat) (T : Nat → List Int) (fo nf M : Nat) (fr : Nat → Bool) (tl : List Int) (to nt w : Nat) (hh : List Int) (pp cc : Nat)
    (hN : o + n ≤ N)
    (hln : ∀ j, ln j ≤ (T j).length)
    (hTb : ∀ j, W.bytes (T j))
    (hTs : ∀ j, (T j).length ≤ 1048576)
    (hn : n ≤ 1048576)
    (hM : fo + nf ≤ M)
    (hnf : nf ≤ 1048576)
    (htl : to + nt ≤ tl.length)
    (hnt : nt ≤ 1048576)
    (htr : ∀ j, -9223372036854775808 ≤ List.getD tl j 0 ∧ List.getD tl j 0 < 9223372036854775808)
    (hw : w ≤ 30)
    (hpc : pp + cc ≤ hh.length)
    (hcc : cc ≤ w * 1048600)
    (hhb : W.bytes hh)
    (h2 : ((↑w : Int) < (↑n : Int)))
    (h3 : ((↑w : Int) < (30 : Int)))
    (h4 : ((↑w : Int) < (↑nf : Int)))
    (h5 : (¬fr (fo + w) = true))
    (c6 : (W.scanB (List.take cc (List.drop pp hh) ++ List.take (ln (o + w)) (List.drop (0 : Nat) (T (o + w)))) (cc + ln (o + w)) = false))
    (h7 : (¬(↑w : Int) < (↑nt : Int)))
    (c8 : ((0 : Nat) + (cc + ln (o + w)) ≤ List.length (List.take cc (List.drop pp hh) ++ List.take (ln (o + w)) (T (o + w)))))
    (c9 : (cc + ln (o + w) ≤ (1073741824 : Nat)))
    (c10 : (W.bytes (List.take cc (List.drop pp hh) ++ List.take (ln (o + w)) (T (o + w))))) :
    CodeOk Try.prog 136 213 (kAt (kOf Try.prog Try.f8) [true, true, true, true, false, true, false, false]) (LQI o n N ln T fo nf M fr tl to nt w hh pp cc) .normal (LQI o n N ln T fo nf M fr tl to nt (w + 1) (List.take cc (List.drop pp hh) ++ List.take (ln (o + w)) (T (o + w))) (W.nxP (List.take cc (List.drop pp hh) ++ List.take (ln (o + w)) (T (o + w))) 0 (cc + ln (o + w)) 1) (W.nxC (List.take cc (List.drop pp hh) ++ List.take (ln (o + w)) (T (o + w))) 0 (cc + ln (o + w)) 1)) :=
  CodeOk.of_runs (fuel := 300) (v := ⟨[0, 1, 2, 7, 8, 6, 9], [100001, 100000, 1, 2, 3, 4, 21, 69], [(100000, 213), (100001, 214)], 229⟩) (hs := [(4, ⟨.auto, some (.c (.bool (true)))⟩), (7, ⟨.auto, some (.c (.bool (true)))⟩), (11, ⟨.ask, some (.c (.ptr 1 0 (o + w)))⟩), (12, ⟨.ask, none⟩), (18, ⟨.auto, some (.c (.bool (true)))⟩), (21, ⟨.ask, some (.c (.ptr 3 0 (fo + w)))⟩), (22, ⟨.ask, none⟩), (23, ⟨.auto, some (.c (.bool (false)))⟩), (27, ⟨.call [21, 2, 213] (.c (.int .i64 0)) [] [(21, (.one ⟨true, true, (.cells [(.sl 629 0 0 (cc + ln (o + w)) 1), (.bool (false))])⟩)), (629, (.one ⟨true, false, (.ints .u8 (List.take cc (List.drop pp hh) ++ List.take (ln (o + w)) (T (o + w))))⟩))], none⟩), (30, ⟨.call [69, 2, 214] (.c (.int .i64 0)) [] [(69, (.one ⟨true, true, (.cells [(.sl 677 0 0 (cc + ln (o + w)) 1), (.bool (false))])⟩)), (677, (.one ⟨true, false, (.ints .u8 (List.take cc (List.drop pp hh) ++ List.take (ln (o + w)) (T (o + w))))⟩))], none⟩), (34, ⟨.call [21, 629] (.c (.int .i64 (↑(cc + ln (o + w))))) [] [], none⟩), (40, ⟨.auto, some (.c (.bool (false)))⟩), (47, ⟨.auto, some (.c (.bool (false)))⟩), (49, ⟨.sum ⟨[0, 1, 2, 7, 8, 9, 6, 15], [677, 629, 1, 2, 3, 4, 21, 69], [(629, 100000), (677, 100001)], 100016⟩ (.exit 2) (LXiI o n N ln T fo nf M fr tl to nt w 0 (List.take cc (List.drop pp hh) ++ List.take (ln (o + w)) (T (o + w))) (W.nxP (List.take cc (List.drop pp hh) ++ List.take (ln (o + w)) (T (o + w))) 0 (cc + ln (o + w)) 1) (W.nxC (List.take cc (List.drop pp hh) ++ List.take (ln (o + w)) (T (o + w))) 0 (cc + ln (o + w)) 1)), none⟩), (51, ⟨.auto, some (.c (.int .i64 (↑(w + 1))))⟩)])
    (cs := [EI .i64 (IntKind.wrap IntKind.i64 ((↑w : Int) + 1)) ((↑(w + 1) : Int)),
      CodeOk Try.prog 136 949 (kAt (kOf Try.prog Try.f8) [true, true, true, true, false, true, false, false, true, false, false, true, true, true, true, true, false]) (LXiI o n N ln T fo nf M fr tl to nt w 1 (List.take cc (List.drop pp hh) ++ List.take (ln (o + w)) (T (o + w))) 0 (cc + ln (o + w))) (.exit 2) (LXiI o n N ln T fo nf M fr tl to nt w 0 (List.take cc (List.drop pp hh) ++ List.take (ln (o + w)) (T (o + w))) (W.nxP (List.take cc (List.drop pp hh) ++ List.take (ln (o + w)) (T (o + w))) 0 (cc + ln (o + w)) 1) (W.nxC (List.take cc (List.drop pp hh) ++ List.take (ln (o + w)) (T (o + w))) 0 (cc + ln (o + w)) 1)),
      EB (decide ((↑w : Int) < (↑nt : Int))) false,
      EB ((↑(cc + ln (o + w)) : Int) != (↑(cc + ln (o + w)) : Int)) false,
      Contract Try.prog 44 [(.c (.ptr 21 0 0))] [(21, (.one ⟨true, true, (.cells [(.sl 629 0 0 (cc + ln (o + w)) 1), (.bool (false))])⟩)), (629, (.one ⟨true, false, (.ints .u8 (List.take cc (List.drop pp hh) ++ List.take (ln (o + w)) (T (o + w))))⟩))] 741 (.c (.int .i64 (↑(cc + ln (o + w))))) [] [],
      Contract Try.prog 43 [(.c (.ptr 69 0 0)), (.c (.sl 2 (o + w) 0 (ln (o + w)) 1))] [(69, (.one ⟨true, true, (.cells [(.sl 214 0 pp cc 1), (.bool (false))])⟩)), (2, (.many (fun j_ => some ⟨false, false, (.ints .u8 (T j_))⟩))), (214, (.one ⟨true, false, (.ints .u8 hh)⟩))] 677 (.c (.int .i64 0)) [] [(69, (.one ⟨true, true, (.cells [(.sl 677 0 0 (cc + ln (o + w)) 1), (.bool (false))])⟩)), (677, (.one ⟨true, false, (.ints .u8 (List.take cc (List.drop pp hh) ++ List.take (ln (o + w)) (T (o + w))))⟩))],
      Contract Try.prog 42 [(.c (.ptr 21 0 0)), (.c (.sl 2 (o + w) 0 (ln (o + w)) 1))] [(21, (.one ⟨true, true, (.cells [(.sl 213 0 pp cc 1), (.bool (false))])⟩)), (2, (.many (fun j_ => some ⟨false, false, (.ints .u8 (T j_))⟩))), (213, (.one ⟨true, false, (.ints .u8 hh)⟩))] 629 (.c (.int .i64 0)) [] [(21, (.one ⟨true, true, (.cells [(.sl 629 0 0 (cc + ln (o + w)) 1), (.bool (false))])⟩)), (629, (.one ⟨true, false, (.ints .u8 (List.take cc (List.drop pp hh) ++ List.take (ln (o + w)) (T (o + w))))⟩))],
      EB (fr (fo + w)) false,
      (fo + w + (1 : Nat) ≤ M),
      ((.c (.ptr 3 0 (addO fo w))) : V) = (.c (.ptr 3 0 (fo + w))),
      ((0 : Int) ≤ (↑w : Int) ∧ (↑w : Int) < (↑nf : Int)),
      EB (decide ((↑w : Int) < (↑nf : Int))) true,
      (o + w + (1 : Nat) ≤ N),
      ((.c (.ptr 1 0 (addO o w))) : V) = (.c (.ptr 1 0 (o + w))),
      ((0 : Int) ≤ (↑w : Int) ∧ (↑w : Int) < (↑n : Int)),
      EB (decide ((↑w : Int) < 30)) true,
      EB (decide ((↑w : Int) < (↑n : Int))) true])
    mixed (by kernel_rfl) ⟨.mk (by simp only [addO_eq, mulE_eq, mulE_one, Int.toNat_natCast, IntKind.wrap_i64, mmin, mmax]; omega), (CodeOk.mono (lxi o n N ln T fo nf M fr tl to nt w 1 (List.take cc (List.drop pp hh) ++ List.take (ln (o + w)) (T (o + w))) 0 (cc + ln (o + w)) (by omega) (by omega) (by omega) (by omega) (by omega) (by omega) (by omega) (by omega) (by omega) (by omega) (by omega) (by omega) c8 c9 c10) (by decide)), .mk (decide_eq_false h7), .mk (bne_f (Decidable.of_not_not (by omega))), Contract0.inst (heldY (List.take cc (List.drop pp hh) ++ List.take (ln (o + w)) (T (o + w))) 0 (cc + ln (o + w))) [.b 21 1 true [], .b 629 2 true []] [none] [] [] (by kernel_rfl) (by kernel_rfl) (by kernel_rfl) (by kernel_rfl) (by kernel_rfl), ContractN.fin (ContractN.fam (k := .u8) (l := (T (o + w))) (ex := false) (args1 := [(.c (.ptr 69 0 0)), (.c (.sl 692 0 0 (ln (o + w)) 1))]) 692 2 (o + w) (Contract0.instN (rfedY true hh (T (o + w)) pp cc 0 (ln (o + w)) (by omega) (by rw [Nat.zero_add]; exact hln _) (by omega) (by exact Nat.le_trans (hln _) (Nat.le_trans (hTs _) (by decide))) (by omega) (by exact hTb _) (by omega)) [.b 69 1 false [], .b 214 2 true [], .b 692 3 true []] [none, none] [(4, 677)] [] (by kernel_rfl) (by kernel_rfl) (by kernel_rfl) (by kernel_rfl) (by kernel_rfl)) (by kernel_rfl) (by kernel_rfl) (by kernel_rfl) (by kernel_rfl) (by kernel_rfl) (by kernel_rfl)) (by kernel_rfl), ContractN.fin (ContractN.fam (k := .u8) (l := (T (o + w))) (ex := false) (args1 := [(.c (.ptr 21 0 0)), (.c (.sl 644 0 0 (ln (o + w)) 1))]) 644 2 (o + w) (Contract0.instN (fedY true hh (T (o + w)) pp cc 0 (ln (o + w)) (by omega) (by rw [Nat.zero_add]; exact hln _) (by omega) (by exact Nat.le_trans (hln _) (Nat.le_trans (hTs _) (by decide))) (by omega) (by exact hTb _) c6) [.b 21 1 false [], .b 213 2 true [], .b 644 3 true []] [none, none] [(4, 629)] [] (by kernel_rfl) (by kernel_rfl) (by kernel_rfl) (by kernel_rfl) (by kernel_rfl)) (by kernel_rfl) (by kernel_rfl) (by kernel_rfl) (by kernel_rfl) (by kernel_rfl) (by kernel_rfl)) (by kernel_rfl), .mk (Bool.eq_false_iff.2 h5), (by omega), EV.ptr (by simp only [addO_eq, mulE_eq, mulE_one, Int.toNat_natCast, IntKind.wrap_i64, mmin, mmax]), (by omega), .mk (decide_eq_true h4), (by omega), EV.ptr (by simp only [addO_eq, mulE_eq, mulE_one, Int.toNat_natCast, IntKind.wrap_i64, mmin, mmax]), (by omega), .mk (decide_eq_true h3), .mk (decide_eq_true h2), trivial⟩
theorem LQ_rtttfc1t (o n N : Nat) (ln : Nat → Nat) (T : Nat → List Int) (fo nf M : Nat) (fr : Nat → Bool) (tl : List Int) (to nt w : Nat) (hh : List Int) (pp cc : Nat)
    (hN : o + n ≤ N)
    (hln : ∀ j, ln j ≤ (T j).length)
    (hTb : ∀ j, W.bytes (T j))
    (hTs : ∀ j, (T j).length ≤ 1048576)
    (hn : n ≤ 1048576)
    (hM : fo + nf ≤ M)
    (hnf : nf ≤ 1048576)
    (htl : to + nt ≤ tl.length)
    (hnt : nt ≤ 1048576)
    (htr : ∀ j, -9223372036854775808 ≤ List.getD tl j 0 ∧ List.getD tl j 0 < 9223372036854775808)
    (hw : w ≤ 30)
    (hpc : pp + cc ≤ hh.length)
    (hcc : cc ≤ w * 1048600)
    (hhb : W.bytes hh)
    (h2 : ((↑w : Int) < (↑n : Int)))
    (h3 : ((↑w : Int) < (30 : Int)))
    (h4 : ((↑w : Int) < (↑nf : Int)))
    (h5 : (¬fr (fo + w) = true))
    (c6 : (W.scanB (List.take cc (List.drop pp hh) ++ List.take (ln (o + w)) (List.drop (0 : Nat) (T (o + w)))) (cc + ln (o + w)) = true))
    (h7 : ((↑w : Int) < (↑nt : Int))) :
    CodeOk Try.prog 136 213 (kAt (kOf Try.prog Try.f8) [true, true, true, true, false, true, false, false]) (LQI o n N ln T fo nf M fr tl to nt w hh pp cc) .normal ⟨[(0, (.c (.sl 1 0 o n 1))), (1, (.c (.sl 3 0 fo nf 1))), (2, (.c (.sl 4 0 to nt 1))), (7, (.c (.ptr 21 0 0))), (8, (.c (.ptr 69 0 0))), (6, (.c (.bool (false)))), (9, (.c (.int .i64 (↑(w + 1)))))], [(1, (.one ⟨false, false, (.gen N (fun j_ => (.sl 2 j_ 0 (ln j_) 1)))⟩)), (2, (.many (fun j_ => some ⟨false, false, (.ints .u8 (T j_))⟩))), (3, (.one ⟨false, false, (.gen M (fun j_ => (.bool (fr j_))))⟩)), (4, (.one ⟨false, false, (.ints .i64 tl)⟩)), (21, (.one ⟨true, true, (.cells [.nils, (.bool (true))])⟩)), (69, (.one ⟨true, true, (.cells [.nils, (.bool (true))])⟩))], 229⟩ :=
  CodeOk.of_runs (fuel := 300) (v := ⟨[0, 1, 2, 7, 8, 6, 9], [1, 2, 3, 4, 21, 69], [], 229⟩) (hs := [(4, ⟨.auto, some (.c (.bool (true)))⟩), (7, ⟨.auto, some (.c (.bool (true)))⟩), (11, ⟨.ask, some (.c (.ptr 1 0 (o + w)))⟩), (12, ⟨.ask, none⟩), (18, ⟨.auto, some (.c (.bool (true)))⟩), (21, ⟨.ask, some (.c (.ptr 3 0 (fo + w)))⟩), (22, ⟨.ask, none⟩), (23, ⟨.auto, some (.c (.bool (false)))⟩), (27, ⟨.call [21, 2, 213] (.c (.int .i64 6)) [] [(21, (.one ⟨true, true, (.cells [.nils, (.bool (true))])⟩))], none⟩), (30, ⟨.call [69, 2, 214] (.c (.int .i64 6)) [] [(69, (.one ⟨true, true, (.cells [.nils, (.bool (true))])⟩))], none⟩), (34, ⟨.call [21] (.c (.int .i64 0)) [] [], none⟩), (47, ⟨.auto, some (.c (.bool (true)))⟩), (51, ⟨.ask, some (.c (.ptr 4 0 (to + w)))⟩), (52, ⟨.ask, none⟩), (53, ⟨.call [] (.c (.int .i64 (↑(W.pick (List.getD tl (to + w) 0) 4)))) [] [], none⟩), (55, ⟨.sum ⟨[0, 1, 2, 7, 8, 9, 6, 15], [1, 2, 3, 4, 21, 69], [], 100000⟩ (.exit 2) (LZiI o n N ln T fo nf M fr tl to nt w 0), none⟩), (57, ⟨.auto, some (.c (.int .i64 (↑(w + 1))))⟩)])
    (cs := [EI .i64 (IntKind.wrap IntKind.i64 ((↑w : Int) + 1)) ((↑(w + 1) : Int)),
      CodeOk Try.prog 136 1045 (kAt (kOf Try.prog Try.f8) [true, true, true, true, false, true, false, false, true, false, false, true, true, true, true, true, false]) (LZiI o n N ln T fo nf M fr tl to nt w (↑(W.pick (List.getD tl (to + w) 0) 4) : Int)) (.exit 2) (LZiI o n N ln T fo nf M fr tl to nt w 0),
      Contract Try.prog 15 [(.c (.int .i64 (List.getD tl (to + w) 0))), (.c (.int .i64 4))] [] 1013 (.c (.int .i64 (↑(W.pick (List.getD tl (to + w) 0) 4)))) [] [],
      (to + w + (1 : Nat) ≤ List.length tl),
      ((.c (.ptr 4 0 (addO to w))) : V) = (.c (.ptr 4 0 (to + w))),
      ((0 : Int) ≤ (↑w : Int) ∧ (↑w : Int) < (↑nt : Int)),
      EB (decide ((↑w : Int) < (↑nt : Int))) true,
      Contract Try.prog 44 [(.c (.ptr 21 0 0))] [(21, (.one ⟨true, true, (.cells [.nils, (.bool (true))])⟩))] 741 (.c (.int .i64 0)) [] [],
      Contract Try.prog 43 [(.c (.ptr 69 0 0)), (.c (.sl 2 (o + w) 0 (ln (o + w)) 1))] [(69, (.one ⟨true, true, (.cells [(.sl 214 0 pp cc 1), (.bool (false))])⟩)), (2, (.many (fun j_ => some ⟨false, false, (.ints .u8 (T j_))⟩))), (214, (.one ⟨true, false, (.ints .u8 hh)⟩))] 677 (.c (.int .i64 6)) [] [(69, (.one ⟨true, true, (.cells [.nils, (.bool (true))])⟩))],
      Contract Try.prog 42 [(.c (.ptr 21 0 0)), (.c (.sl 2 (o + w) 0 (ln (o + w)) 1))] [(21, (.one ⟨true, true, (.cells [(.sl 213 0 pp cc 1), (.bool (false))])⟩)), (2, (.many (fun j_ => some ⟨false, false, (.ints .u8 (T j_))⟩))), (213, (.one ⟨true, false, (.ints .u8 hh)⟩))] 629 (.c (.int .i64 6)) [] [(21, (.one ⟨true, true, (.cells [.nils, (.bool (true))])⟩))],
      EB (fr (fo + w)) false,
      (fo + w + (1 : Nat) ≤ M),
      ((.c (.ptr 3 0 (addO fo w))) : V) = (.c (.ptr 3 0 (fo + w))),
      ((0 : Int) ≤ (↑w : Int) ∧ (↑w : Int) < (↑nf : Int)),
      EB (decide ((↑w : Int) < (↑nf : Int))) true,
      (o + w + (1 : Nat) ≤ N),
      ((.c (.ptr 1 0 (addO o w))) : V) = (.c (.ptr 1 0 (o + w))),
      ((0 : Int) ≤ (↑w : Int) ∧ (↑w : Int) < (↑n : Int)),
      EB (decide ((↑w : Int) < 30)) true,
      EB (decide ((↑w : Int) < (↑n : Int))) true])
    mixed (by kernel_rfl) ⟨.mk (by simp only [addO_eq, mulE_eq, mulE_one, Int.toNat_natCast, IntKind.wrap_i64, mmin, mmax]; omega), (CodeOk.mono (lzi o n N ln T fo nf M fr tl to nt w ((↑(W.pick (List.getD tl (to + w) 0) 4) : Int)) (by omega) (by omega) (by omega) (by omega) (by omega) (by omega) (by omega) (by omega) (by omega) (by omega) (by omega) (by exact ⟨by omega, by have := W.pick_lt (a := List.getD tl (to + w) 0) (b := 4) (by decide); omega⟩)) (by decide)), Contract0.inst (pick_ok (List.getD tl (to + w) 0) 4 (by exact htr _) (by omega)) [] [none, none] [] [] (by kernel_rfl) (by kernel_rfl) (by kernel_rfl) (by kernel_rfl) (by kernel_rfl), (by omega), EV.ptr (by simp only [addO_eq, mulE_eq, mulE_one, Int.toNat_natCast, IntKind.wrap_i64, mmin, mmax]), (by omega), .mk (decide_eq_true h7), Contract0.inst (heldB true) [.b 21 1 true []] [none] [] [] (by kernel_rfl) (by kernel_rfl) (by kernel_rfl) (by kernel_rfl) (by kernel_rfl), ContractN.fin (ContractN.fam (k := .u8) (l := (T (o + w))) (ex := false) (args1 := [(.c (.ptr 69 0 0)), (.c (.sl 692 0 0 (ln (o + w)) 1))]) 692 2 (o + w) (Contract0.instN (rfedN true hh (T (o + w)) pp cc 0 (ln (o + w)) (by omega) (by rw [Nat.zero_add]; exact hln _) (by omega) (by exact Nat.le_trans (hln _) (Nat.le_trans (hTs _) (by decide))) (by omega) (by exact hTb _) (by omega)) [.b 69 1 false [], .b 214 2 true [], .b 692 3 true []] [none, none] [] [] (by kernel_rfl) (by kernel_rfl) (by kernel_rfl) (by kernel_rfl) (by kernel_rfl)) (by kernel_rfl) (by kernel_rfl) (by kernel_rfl) (by kernel_rfl) (by kernel_rfl) (by kernel_rfl)) (by kernel_rfl), ContractN.fin (ContractN.fam (k := .u8) (l := (T (o + w))) (ex := false) (args1 := [(.c (.ptr 21 0 0)), (.c (.sl 644 0 0 (ln (o + w)) 1))]) 644 2 (o + w) (Contract0.instN (fedN true hh (T (o + w)) pp cc 0 (ln (o + w)) (by omega) (by rw [Nat.zero_add]; exact hln _) (by omega) (by exact Nat.le_trans (hln _) (Nat.le_trans (hTs _) (by decide))) (by omega) (by exact hTb _) c6) [.b 21 1 false [], .b 213 2 true [], .b 644 3 true []] [none, none] [] [] (by kernel_rfl) (by kernel_rfl) (by kernel_rfl) (by kernel_rfl) (by kernel_rfl)) (by kernel_rfl) (by kernel_rfl) (by kernel_rfl) (by kernel_rfl) (by kernel_rfl) (by kernel_rfl)) (by kernel_rfl), .mk (Bool.eq_false_iff.2 h5), (by omega), EV.ptr (by simp only [addO_eq, mulE_eq, mulE_one, Int.toNat_natCast, IntKind.wrap_i64, mmin, mmax]), (by omega), .mk (decide_eq_true h4), (by omega), EV.ptr (by simp only [addO_eq, mulE_eq, mulE_one, Int.toNat_natCast, IntKind.wrap_i64, mmin, mmax]), (by omega), .mk (decide_eq_true h3), .mk (decide_eq_true h2), trivial⟩
theorem LQ_rtttfc1f (o n N : Nat) (ln : Nat → Nat) (T : Nat → List Int) (fo nf M : Nat) (fr : Nat → Bool) (tl : List Int) (to nt w : Nat) (hh : List Int) (pp cc : Nat)
    (hN : o + n ≤ N)
    (hln : ∀ j, ln j ≤ (T j).length)
    (hTb : ∀ j, W.bytes (T j))
    (hTs : ∀ j, (T j).length ≤ 1048576)
    (hn : n ≤ 1048576)
    (hM : fo + nf ≤ M)
    (hnf : nf ≤ 1048576)
    (htl : to + nt ≤ tl.length)
    (hnt : nt ≤ 1048576)
    (htr : ∀ j, -9223372036854775808 ≤ List.getD tl j 0 ∧ List.getD tl j 0 < 9223372036854775808)
    (hw : w ≤ 30)
    (hpc : pp + cc ≤ hh.length)
    (hcc : cc ≤ w * 1048600)
    (hhb : W.bytes hh)
    (h2 : ((↑w : Int) < (↑n : Int)))
    (h3 : ((↑w : Int) < (30 : Int)))
    (h4 : ((↑w : Int) < (↑nf : Int)))
    (h5 : (¬fr (fo + w) = true))
    (c6 : (W.scanB (List.take cc (List.drop pp hh) ++ List.take (ln (o + w)) (List.drop (0 : Nat) (T (o + w)))) (cc + ln (o + w)) = true))
    (h7 : (¬(↑w : Int) < (↑nt : Int))) :
    CodeOk Try.prog 136 213 (kAt (kOf Try.prog Try.f8) [true, true, true, true, false, true, false, false]) (LQI o n N ln T fo nf M fr tl to nt w hh pp cc) .normal ⟨[(0, (.c (.sl 1 0 o n 1))), (1, (.c (.sl 3 0 fo nf 1))), (2, (.c (.sl 4 0 to nt 1))), (7, (.c (.ptr 21 0 0))), (8, (.c (.ptr 69 0 0))), (6, (.c (.bool (false)))), (9, (.c (.int .i64 (↑(w + 1)))))], [(1, (.one ⟨false, false, (.gen N (fun j_ => (.sl 2 j_ 0 (ln j_) 1)))⟩)), (2, (.many (fun j_ => some ⟨false, false, (.ints .u8 (T j_))⟩))), (3, (.one ⟨false, false, (.gen M (fun j_ => (.bool (fr j_))))⟩)), (4, (.one ⟨false, false, (.ints .i64 tl)⟩)), (21, (.one ⟨true, true, (.cells [.nils, (.bool (true))])⟩)), (69, (.one ⟨true, true, (.cells [.nils, (.bool (true))])⟩))], 229⟩ :=
  CodeOk.of_runs (fuel := 300) (v := ⟨[0, 1, 2, 7, 8, 6, 9], [1, 2, 3, 4, 21, 69], [], 229⟩) (hs := [(4, ⟨.auto, some (.c (.bool (true)))⟩), (7, ⟨.auto, some (.c (.bool (true)))⟩), (11, ⟨.ask, some (.c (.ptr 1 0 (o + w)))⟩), (12, ⟨.ask, none⟩), (18, ⟨.auto, some (.c (.bool (true)))⟩), (21, ⟨.ask, some (.c (.ptr 3 0 (fo + w)))⟩), (22, ⟨.ask, none⟩), (23, ⟨.auto, some (.c (.bool (false)))⟩), (27, ⟨.call [21, 2, 213] (.c (.int .i64 6)) [] [(21, (.one ⟨true, true, (.cells [.nils, (.bool (true))])⟩))], none⟩), (30, ⟨.call [69, 2, 214] (.c (.int .i64 6)) [] [(69, (.one ⟨true, true, (.cells [.nils, (.bool (true))])⟩))], none⟩), (34, ⟨.call [21] (.c (.int .i64 0)) [] [], none⟩), (47, ⟨.auto, some (.c (.bool (false)))⟩), (49, ⟨.sum ⟨[0, 1, 2, 7, 8, 9, 6, 15], [1, 2, 3, 4, 21, 69], [], 100000⟩ (.exit 2) (LZiI o n N ln T fo nf M fr tl to nt w 0), none⟩), (51, ⟨.auto, some (.c (.int .i64 (↑(w + 1))))⟩)])
    (cs := [EI .i64 (IntKind.wrap IntKind.i64 ((↑w : Int) + 1)) ((↑(w + 1) : Int)),
      CodeOk Try.prog 136 949 (kAt (kOf Try.prog Try.f8) [true, true, true, true, false, true, false, false, true, false, false, true, true, true, true, true, false]) (LZiI o n N ln T fo nf M fr tl to nt w 1) (.exit 2) (LZiI o n N ln T fo nf M fr tl to nt w 0),
      EB (decide ((↑w : Int) < (↑nt : Int))) false,
      Contract Try.prog 44 [(.c (.ptr 21 0 0))] [(21, (.one ⟨true, true, (.cells [.nils, (.bool (true))])⟩))] 741 (.c (.int .i64 0)) [] [],
      Contract Try.prog 43 [(.c (.ptr 69 0 0)), (.c (.sl 2 (o + w) 0 (ln (o + w)) 1))] [(69, (.one ⟨true, true, (.cells [(.sl 214 0 pp cc 1), (.bool (false))])⟩)), (2, (.many (fun j_ => some ⟨false, false, (.ints .u8 (T j_))⟩))), (214, (.one ⟨true, false, (.ints .u8 hh)⟩))] 677 (.c (.int .i64 6)) [] [(69, (.one ⟨true, true, (.cells [.nils, (.bool (true))])⟩))],
      Contract Try.prog 42 [(.c (.ptr 21 0 0)), (.c (.sl 2 (o + w) 0 (ln (o + w)) 1))] [(21, (.one ⟨true, true, (.cells [(.sl 213 0 pp cc 1), (.bool (false))])⟩)), (2, (.many (fun j_ => some ⟨false, false, (.ints .u8 (T j_))⟩))), (213, (.one ⟨true, false, (.ints .u8 hh)⟩))] 629 (.c (.int .i64 6)) [] [(21, (.one ⟨true, true, (.cells [.nils, (.bool (true))])⟩))],
      EB (fr (fo + w)) false,
      (fo + w + (1 : Nat) ≤ M),
      ((.c (.ptr 3 0 (addO fo w))) : V) = (.c (.ptr 3 0 (fo + w))),
      ((0 : Int) ≤ (↑w : Int) ∧ (↑w : Int) < (↑nf : Int)),
      EB (decide ((↑w : Int) < (↑nf : Int))) true,
      (o + w + (1 : Nat) ≤ N),
      ((.c (.ptr 1 0 (addO o w))) : V) = (.c (.ptr 1 0 (o + w))),
      ((0 : Int) ≤ (↑w : Int) ∧ (↑w : Int) < (↑n : Int)),
      EB (decide ((↑w : Int) < 30)) true,
      EB (decide ((↑w : Int) < (↑n : Int))) true])
    mixed (by kernel_rfl) ⟨.mk (by simp only [addO_eq, mulE_eq, mulE_one, Int.toNat_natCast, IntKind.wrap_i64, mmin, mmax]; omega), (CodeOk.mono (lzi o n N ln T fo nf M fr tl to nt w 1 (by omega) (by omega) (by omega) (by omega) (by omega) (by omega) (by omega) (by omega) (by omega) (by omega) (by omega) (by omega)) (by decide)), .mk (decide_eq_false h7), Contract0.inst (heldB true) [.b 21 1 true []] [none] [] [] (by kernel_rfl) (by kernel_rfl) (by kernel_rfl) (by kernel_rfl) (by kernel_rfl), ContractN.fin (ContractN.fam (k := .u8) (l := (T (o + w))) (ex := false) (args1 := [(.c (.ptr 69 0 0)), (.c (.sl 692 0 0 (ln (o + w)) 1))]) 692 2 (o + w) (Contract0.instN (rfedN true hh (T (o + w)) pp cc 0 (ln (o + w)) (by omega) (by rw [Nat.zero_add]; exact hln _) (by omega) (by exact Nat.le_trans (hln _) (Nat.le_trans (hTs _) (by decide))) (by omega) (by exact hTb _) (by omega)) [.b 69 1 false [], .b 214 2 true [], .b 692 3 true []] [none, none] [] [] (by kernel_rfl) (by kernel_rfl) (by kernel_rfl) (by kernel_rfl) (by kernel_rfl)) (by kernel_rfl) (by kernel_rfl) (by kernel_rfl) (by kernel_rfl) (by kernel_rfl) (by kernel_rfl)) (by kernel_rfl), ContractN.fin (ContractN.fam (k := .u8) (l := (T (o + w))) (ex := false) (args1 := [(.c (.ptr 21 0 0)), (.c (.sl 644 0 0 (ln (o + w)) 1))]) 644 2 (o + w) (Contract0.instN (fedN true hh (T (o + w)) pp cc 0 (ln (o + w)) (by omega) (by rw [Nat.zero_add]; exact hln _) (by omega) (by exact Nat.le_trans (hln _) (Nat.le_trans (hTs _) (by decide))) (by omega) (by exact hTb _) c6) [.b 21 1 false [], .b 213 2 true [], .b 644 3 true []] [none, none] [] [] (by kernel_rfl) (by kernel_rfl) (by kernel_rfl) (by kernel_rfl) (by kernel_rfl)) (by kernel_rfl) (by kernel_rfl) (by kernel_rfl) (by kernel_rfl) (by kernel_rfl) (by kernel_rfl)) (by kernel_rfl), .mk (Bool.eq_false_iff.2 h5), (by omega), EV.ptr (by simp only [addO_eq, mulE_eq, mulE_one, Int.toNat_natCast, IntKind.wrap_i64, mmin, mmax]), (by omega), .mk (decide_eq_true h4), (by omega), EV.ptr (by simp only [addO_eq, mulE_eq, mulE_one, Int.toNat_natCast, IntKind.wrap_i64, mmin, mmax]), (by omega), .mk (decide_eq_true h3), .mk (decide_eq_true h2), trivial⟩
theorem LQ_rttfc0t (o n N : Nat) (ln : Nat → Nat) (T : Nat → List Int) (fo nf M : Nat) (fr : Nat → Bool) (tl : List Int) (to nt w : Nat) (hh : List Int) (pp cc : Nat)
    (hN : o + n ≤ N)
    (hln : ∀ j, ln j ≤ (T j).length)
    (hTb : ∀ j, W.bytes (T j))
    (hTs : ∀ j, (T j).length ≤ 1048576)
    (hn : n ≤ 1048576)
    (hM : fo + nf ≤ M)
    (hnf : nf ≤ 1048576)
    (htl : to + nt ≤ tl.length)
    (hnt : nt ≤ 1048576)
    (htr : ∀ j, -9223372036854775808 ≤ List.getD tl j 0 ∧ List.getD tl j 0 < 9223372036854775808)
    (hw : w ≤ 30)
    (hpc : pp + cc ≤ hh.length)
    (hcc : cc ≤ w * 1048600)
    (hhb : W.bytes hh)
    (h2 : ((↑w : Int) < (↑n : Int)))
    (h3 : ((↑w : Int) < (30 : Int)))
    (h4 : (¬(↑w : Int) < (↑nf : Int)))
    (c5 : (W.scanB (List.take cc (List.drop pp hh) ++ List.take (ln (o + w)) (List.drop (0 : Nat) (T (o + w)))) (cc + ln (o + w)) = false))
    (h6 : ((↑w : Int) < (↑nt : Int)))
    (c7 : ((0 : Nat) + (cc + ln (o + w)) ≤ List.length (List.take cc (List.drop pp hh) ++ List.take (ln (o + w)) (T (o + w)))))
    (c8 : (cc + ln (o + w) ≤ (1073741824 : Nat)))
    (c9 : (W.bytes (List.take cc (List.drop pp hh) ++ List.take (ln (o + w)) (T (o + w))))) :
    CodeOk Try.prog 136 213 (kAt (kOf Try.prog Try.f8) [true, true, true, true, false, true, false, false]) (LQI o n N ln T fo nf M fr tl to nt w hh pp cc) .normal (LQI o n N ln T fo nf M fr tl to nt (w + 1) (List.take cc (List.drop pp hh) ++ List.take (ln (o + w)) (T (o + w))) (W.nxP (List.take cc (List.drop pp hh) ++ List.take (ln (o + w)) (T (o + w))) 0 (cc + ln (o + w)) (↑(W.pick (List.getD tl (to + w) 0) 4) : Int)) (W.nxC (List.take cc (List.drop pp hh) ++ List.take (ln (o + w)) (T (o + w))) 0 (cc + ln (o + w)) (↑(W.pick (List.getD tl (to + w) 0) 4) : Int))) :=
  CodeOk.of_runs (fuel := 300) (v := ⟨[0, 1, 2, 7, 8, 6, 9], [100001, 100000, 1, 2, 3, 4, 21, 69], [(100000, 213), (100001, 214)], 229⟩) (hs := [(4, ⟨.auto, some (.c (.bool (true)))⟩), (7, ⟨.auto, some (.c (.bool (true)))⟩), (11, ⟨.ask, some (.c (.ptr 1 0 (o + w)))⟩), (12, ⟨.ask, none⟩), (18, ⟨.auto, some (.c (.bool (false)))⟩), (27, ⟨.call [21, 2, 213] (.c (.int .i64 0)) [] [(21, (.one ⟨true, true, (.cells [(.sl 629 0 0 (cc + ln (o + w)) 1), (.bool (false))])⟩)), (629, (.one ⟨true, false, (.ints .u8 (List.take cc (List.drop pp hh) ++ List.take (ln (o + w)) (T (o + w))))⟩))], none⟩), (30, ⟨.call [69, 2, 214] (.c (.int .i64 0)) [] [(69, (.one ⟨true, true, (.cells [(.sl 677 0 0 (cc + ln (o + w)) 1), (.bool (false))])⟩)), (677, (.one ⟨true, false, (.ints .u8 (List.take cc (List.drop pp hh) ++ List.take (ln (o + w)) (T (o + w))))⟩))], none⟩), (34, ⟨.call [21, 629] (.c (.int .i64 (↑(cc + ln (o + w))))) [] [], none⟩), (40, ⟨.auto, some (.c (.bool (false)))⟩), (47, ⟨.auto, some (.c (.bool (true)))⟩), (51, ⟨.ask, some (.c (.ptr 4 0 (to + w)))⟩), (52, ⟨.ask, none⟩), (53, ⟨.call [] (.c (.int .i64 (↑(W.pick (List.getD tl (to + w) 0) 4)))) [] [], none⟩), (55, ⟨.sum ⟨[0, 1, 2, 7, 8, 9, 6, 15], [677, 629, 1, 2, 3, 4, 21, 69], [(629, 100000), (677, 100001)], 100016⟩ (.exit 2) (LXiI o n N ln T fo nf M fr tl to nt w 0 (List.take cc (List.drop pp hh) ++ List.take (ln (o + w)) (T (o + w))) (W.nxP (List.take cc (List.drop pp hh) ++ List.take (ln (o + w)) (T (o + w))) 0 (cc + ln (o + w)) (↑(W.pick (List.getD tl (to + w) 0) 4) : Int)) (W.nxC (List.take cc (List.drop pp hh) ++ List.take (ln (o + w)) (T (o + w))) 0 (cc + ln (o + w)) (↑(W.pick (List.getD tl (to + w) 0) 4) : Int))), none⟩), (57, ⟨.auto, some (.c (.int .i64 (↑(w + 1))))⟩)])
    (cs := [EI .i64 (IntKind.wrap IntKind.i64 ((↑w : Int) + 1)) ((↑(w + 1) : Int)),
      CodeOk Try.prog 136 1045 (kAt (kOf Try.prog Try.f8) [true, true, true, true, false, true, false, false, true, false, false, true, true, true, true, true, false]) (LXiI o n N ln T fo nf M fr tl to nt w (↑(W.pick (List.getD tl (to + w) 0) 4) : Int) (List.take cc (List.drop pp hh) ++ List.take (ln (o + w)) (T (o + w))) 0 (cc + ln (o + w))) (.exit 2) (LXiI o n N ln T fo nf M fr tl to nt w 0 (List.take cc (List.drop pp hh) ++ List.take (ln (o + w)) (T (o + w))) (W.nxP (List.take cc (List.drop pp hh) ++ List.take (ln (o + w)) (T (o + w))) 0 (cc + ln (o + w)) (↑(W.pick (List.getD tl (to + w) 0) 4) : Int)) (W.nxC (List.take cc (List.drop pp hh) ++ List.take (ln (o + w)) (T (o + w))) 0 (cc + ln (o + w)) (↑(W.pick (List.getD tl (to + w) 0) 4) : Int))),
      Contract Try.prog 15 [(.c (.int .i64 (List.getD tl (to + w) 0))), (.c (.int .i64 4))] [] 1013 (.c (.int .i64 (↑(W.pick (List.getD tl (to + w) 0) 4)))) [] [],
      (to + w + (1 : Nat) ≤ List.length tl),
      ((.c (.ptr 4 0 (addO to w))) : V) = (.c (.ptr 4 0 (to + w))),
      ((0 : Int) ≤ (↑w : Int) ∧ (↑w : Int) < (↑nt : Int)),
      EB (decide ((↑w : Int) < (↑nt : Int))) true,
      EB ((↑(cc + ln (o + w)) : Int) != (↑(cc + ln (o + w)) : Int)) false,
      Contract Try.prog 44 [(.c (.ptr 21 0 0))] [(21, (.one ⟨true, true, (.cells [(.sl 629 0 0 (cc + ln (o + w)) 1), (.bool (false))])⟩)), (629, (.one ⟨true, false, (.ints .u8 (List.take cc (List.drop pp hh) ++ List.take (ln (o + w)) (T (o + w))))⟩))] 741 (.c (.int .i64 (↑(cc + ln (o + w))))) [] [],
      Contract Try.prog 43 [(.c (.ptr 69 0 0)), (.c (.sl 2 (o + w) 0 (ln (o + w)) 1))] [(69, (.one ⟨true, true, (.cells [(.sl 214 0 pp cc 1), (.bool (false))])⟩)), (2, (.many (fun j_ => some ⟨false, false, (.ints .u8 (T j_))⟩))), (214, (.one ⟨true, false, (.ints .u8 hh)⟩))] 677 (.c (.int .i64 0)) [] [(69, (.one ⟨true, true, (.cells [(.sl 677 0 0 (cc + ln (o + w)) 1), (.bool (false))])⟩)), (677, (.one ⟨true, false, (.ints .u8 (List.take cc (List.drop pp hh) ++ List.take (ln (o + w)) (T (o + w))))⟩))],
      Contract Try.prog 42 [(.c (.ptr 21 0 0)), (.c (.sl 2 (o + w) 0 (ln (o + w)) 1))] [(21, (.one ⟨true, true, (.cells [(.sl 213 0 pp cc 1), (.bool (false))])⟩)), (2, (.many (fun j_ => some ⟨false, false, (.ints .u8 (T j_))⟩))), (213, (.one ⟨true, false, (.ints .u8 hh)⟩))] 629 (.c (.int .i64 0)) [] [(21, (.one ⟨true, true, (.cells [(.sl 629 0 0 (cc + ln (o + w)) 1), (.bool (false))])⟩)), (629, (.one ⟨true, false, (.ints .u8 (List.take cc (List.drop pp hh) ++ List.take (ln (o + w)) (T (o + w))))⟩))],
      EB (decide ((↑w : Int) < (↑nf : Int))) false,
      (o + w + (1 : Nat) ≤ N),
      ((.c (.ptr 1 0 (addO o w))) : V) = (.c (.ptr 1 0 (o + w))),
      ((0 : Int) ≤ (↑w : Int) ∧ (↑w : Int) < (↑n : Int)),
      EB (decide ((↑w : Int) < 30)) true,
      EB (decide ((↑w : Int) < (↑n : Int))) true])
    mixed (by kernel_rfl) ⟨.mk (by simp only [addO_eq, mulE_eq, mulE_one, Int.toNat_natCast, IntKind.wrap_i64, mmin, mmax]; omega), (CodeOk.mono (lxi o n N ln T fo nf M fr tl to nt w ((↑(W.pick (List.getD tl (to + w) 0) 4) : Int)) (List.take cc (List.drop pp hh) ++ List.take (ln (o + w)) (T (o + w))) 0 (cc + ln (o + w)) (by omega) (by omega) (by omega) (by omega) (by omega) (by omega) (by omega) (by omega) (by omega) (by omega) (by omega) (by exact ⟨by omega, by have := W.pick_lt (a := List.getD tl (to + w) 0) (b := 4) (by decide); omega⟩) c7 c8 c9) (by decide)), Contract0.inst (pick_ok (List.getD tl (to + w) 0) 4 (by exact htr _) (by omega)) [] [none, none] [] [] (by kernel_rfl) (by kernel_rfl) (by kernel_rfl) (by kernel_rfl) (by kernel_rfl), (by omega), EV.ptr (by simp only [addO_eq, mulE_eq, mulE_one, Int.toNat_natCast, IntKind.wrap_i64, mmin, mmax]), (by omega), .mk (decide_eq_true h6), .mk (bne_f (Decidable.of_not_not (by omega))), Contract0.inst (heldY (List.take cc (List.drop pp hh) ++ List.take (ln (o + w)) (T (o + w))) 0 (cc + ln (o + w))) [.b 21 1 true [], .b 629 2 true []] [none] [] [] (by kernel_rfl) (by kernel_rfl) (by kernel_rfl) (by kernel_rfl) (by kernel_rfl), ContractN.fin (ContractN.fam (k := .u8) (l := (T (o + w))) (ex := false) (args1 := [(.c (.ptr 69 0 0)), (.c (.sl 692 0 0 (ln (o + w)) 1))]) 692 2 (o + w) (Contract0.instN (rfedY true hh (T (o + w)) pp cc 0 (ln (o + w)) (by omega) (by rw [Nat.zero_add]; exact hln _) (by omega) (by exact Nat.le_trans (hln _) (Nat.le_trans (hTs _) (by decide))) (by omega) (by exact hTb _) (by omega)) [.b 69 1 false [], .b 214 2 true [], .b 692 3 true []] [none, none] [(4, 677)] [] (by kernel_rfl) (by kernel_rfl) (by kernel_rfl) (by kernel_rfl) (by kernel_rfl)) (by kernel_rfl) (by kernel_rfl) (by kernel_rfl) (by kernel_rfl) (by kernel_rfl) (by kernel_rfl)) (by kernel_rfl), ContractN.fin (ContractN.fam (k := .u8) (l := (T (o + w))) (ex := false) (args1 := [(.c (.ptr 21 0 0)), (.c (.sl 644 0 0 (ln (o + w)) 1))]) 644 2 (o + w) (Contract0.instN (fedY true hh (T (o + w)) pp cc 0 (ln (o + w)) (by omega) (by rw [Nat.zero_add]; exact hln _) (by omega) (by exact Nat.le_trans (hln _) (Nat.le_trans (hTs _) (by decide))) (by omega) (by exact hTb _) c5) [.b 21 1 false [], .b 213 2 true [], .b 644 3 true []] [none, none] [(4, 629)] [] (by kernel_rfl) (by kernel_rfl) (by kernel_rfl) (by kernel_rfl) (by kernel_rfl)) (by kernel_rfl) (by kernel_rfl) (by kernel_rfl) (by kernel_rfl) (by kernel_rfl) (by kernel_rfl)) (by kernel_rfl), .mk (decide_eq_false h4), (by omega), EV.ptr (by simp only [addO_eq, mulE_eq, mulE_one, Int.toNat_natCast, IntKind.wrap_i64, mmin, mmax]), (by omega), .mk (decide_eq_true h3), .mk (decide_eq_true h2), trivial⟩
theorem LQ_rttfc0f (o n N : Nat) (ln : Nat → Nat) (T : Nat → List Int) (fo nf M : Nat) (fr : Nat → Bool) (tl : List Int) (to nt w : Nat) (hh : List Int) (pp cc : Nat)
    (hN : o + n ≤ N)
    (hln : ∀ j, ln j ≤ (T j).length)
    (hTb : ∀ j, W.bytes (T j))
    (hTs : ∀ j, (T j).length ≤ 1048576)
    (hn : n ≤ 1048576)
    (hM : fo + nf ≤ M)
    (hnf : nf ≤ 1048576)
    (htl : to + nt ≤ tl.length)
    (hnt : nt ≤ 1048576)
    (htr : ∀ j, -9223372036854775808 ≤ List.getD tl j 0 ∧ List.getD tl j 0 < 9223372036854775808)
    (hw : w ≤ 30)
    (hpc : pp + cc ≤ hh.length)
    (hcc : cc ≤ w * 1048600)
    (hhb : W.bytes hh)
    (h2 : ((↑w : Int) < (↑n : Int)))
    (h3 : ((↑w : Int) < (30 : Int)))
    (h4 : (¬(↑w : Int) < (↑nf : Int)))
    (c5 : (W.scanB (List.take cc (List.drop pp hh) ++ List.take (ln (o + w)) (List.drop (0 : Nat) (T (o + w)))) (cc + ln (o + w)) = false))
    (h6 : (¬(↑w : Int) < (↑nt : Int)))
    (c7 : ((0 : Nat) + (cc + ln (o + w)) ≤ List.length (List.take cc (List.drop pp hh) ++ List.take (ln (o + w)) (T (o + w)))))
    (c8 : (cc + ln (o + w) ≤ (1073741824 : Nat)))
    (c9 : (W.bytes (List.take cc (List.drop pp hh) ++ List.take (ln (o + w)) (T (o + w))))) :
    CodeOk Try.prog 136 213 (kAt (kOf Try.prog Try.f8) [true, true, true, true, false, true, false, false]) (LQI o n N ln T fo nf M fr tl to nt w hh pp cc) .normal (LQI o n N ln T fo nf M fr tl to nt (w + 1) (List.take cc (List.drop pp hh) ++ List.take (ln (o + w)) (T (o + w))) (W.nxP (List.take cc (List.drop pp hh) ++ List.take (ln (o + w)) (T (o + w))) 0 (cc + ln (o + w)) 1) (W.nxC (List.take cc (List.drop pp hh) ++ List.take (ln (o + w)) (T (o + w))) 0 (cc + ln (o + w)) 1)) :=
  CodeOk.of_runs (fuel := 300) (v := ⟨[0, 1, 2, 7, 8, 6, 9], [100001, 100000, 1, 2, 3, 4, 21, 69], [(100000, 213), (100001, 214)], 229⟩) (hs := [(4, ⟨.auto, some (.c (.bool (true)))⟩), (7, ⟨.auto, some (.c (.bool (true)))⟩), (11, ⟨.ask, some (.c (.ptr 1 0 (o + w)))⟩), (12, ⟨.ask, none⟩), (18, ⟨.auto, some (.c (.bool (false)))⟩), (27, ⟨.call [21, 2, 213] (.c (.int .i64 0)) [] [(21, (.one ⟨true, true, (.cells [(.sl 629 0 0 (cc + ln (o + w)) 1), (.bool (false))])⟩)), (629, (.one ⟨true, false, (.ints .u8 (List.take cc (List.drop pp hh) ++ List.take (ln (o + w)) (T (o + w))))⟩))], none⟩), (30, ⟨.call [69, 2, 214] (.c (.int .i64 0)) [] [(69, (.one ⟨true, true, (.cells [(.sl 677 0 0 (cc + ln (o + w)) 1), (.bool (false))])⟩)), (677, (.one ⟨true, false, (.ints .u8 (List.take cc (List.drop pp hh) ++ List.take (ln (o + w)) (T (o + w))))⟩))], none⟩), (34, ⟨.call [21, 629] (.c (.int .i64 (↑(cc + ln (o + w))))) [] [], none⟩), (40, ⟨.auto, some (.c (.bool (false)))⟩), (47, ⟨.auto, some (.c (.bool (false)))⟩), (49, ⟨.sum ⟨[0, 1, 2, 7, 8, 9, 6, 15], [677, 629, 1, 2, 3, 4, 21, 69], [(629, 100000), (677, 100001)], 100016⟩ (.exit 2) (LXiI o n N ln T fo nf M fr tl to nt w 0 (List.take cc (List.drop pp hh) ++ List.take (ln (o + w)) (T (o + w))) (W.nxP (List.take cc (List.drop pp hh) ++ List.take (ln (o + w)) (T (o + w))) 0 (cc + ln (o + w)) 1) (W.nxC (List.take cc (List.drop pp hh) ++ List.take (ln (o + w)) (T (o + w))) 0 (cc + ln (o + w)) 1)), none⟩), (51, ⟨.auto, some (.c (.int .i64 (↑(w + 1))))⟩)])
    (cs := [EI .i64 (IntKind.wrap IntKind.i64 ((↑w : Int) + 1)) ((↑(w + 1) : Int)),
      CodeOk Try.prog 136 949 (kAt (kOf Try.prog Try.f8) [true, true, true, true, false, true, false, false, true, false, false, true, true, true, true, true, false]) (LXiI o n N ln T fo nf M fr tl to nt w 1 (List.take cc (List.drop pp hh) ++ List.take (ln (o + w)) (T (o + w))) 0 (cc + ln (o + w))) (.exit 2) (LXiI o n N ln T fo nf M fr tl to nt w 0 (List.take cc (List.drop pp hh) ++ List.take (ln (o + w)) (T (o + w))) (W.nxP (List.take cc (List.drop pp hh) ++ List.take (ln (o + w)) (T (o + w))) 0 (cc + ln (o + w)) 1) (W.nxC (List.take cc (List.drop pp hh) ++ List.take (ln (o + w)) (T (o + w))) 0 (cc + ln (o + w)) 1)),
      EB (decide ((↑w : Int) < (↑nt : Int))) false,
      EB ((↑(cc + ln (o + w)) : Int) != (↑(cc + ln (o + w)) : Int)) false,
      Contract Try.prog 44 [(.c (.ptr 21 0 0))] [(21, (.one ⟨true, true, (.cells [(.sl 629 0 0 (cc + ln (o + w)) 1), (.bool (false))])⟩)), (629, (.one ⟨true, false, (.ints .u8 (List.take cc (List.drop pp hh) ++ List.take (ln (o + w)) (T (o + w))))⟩))] 741 (.c (.int .i64 (↑(cc + ln (o + w))))) [] [],
      Contract Try.prog 43 [(.c (.ptr 69 0 0)), (.c (.sl 2 (o + w) 0 (ln (o + w)) 1))] [(69, (.one ⟨true, true, (.cells [(.sl 214 0 pp cc 1), (.bool (false))])⟩)), (2, (.many (fun j_ => some ⟨false, false, (.ints .u8 (T j_))⟩))), (214, (.one ⟨true, false, (.ints .u8 hh)⟩))] 677 (.c (.int .i64 0)) [] [(69, (.one ⟨true, true, (.cells [(.sl 677 0 0 (cc + ln (o + w)) 1), (.bool (false))])⟩)), (677, (.one ⟨true, false, (.ints .u8 (List.take cc (List.drop pp hh) ++ List.take (ln (o + w)) (T (o + w))))⟩))],
      Contract Try.prog 42 [(.c (.ptr 21 0 0)), (.c (.sl 2 (o + w) 0 (ln (o + w)) 1))] [(21, (.one ⟨true, true, (.cells [(.sl 213 0 pp cc 1), (.bool (false))])⟩)), (2, (.many (fun j_ => some ⟨false, false, (.ints .u8 (T j_))⟩))), (213, (.one ⟨true, false, (.ints .u8 hh)⟩))] 629 (.c (.int .i64 0)) [] [(21, (.one ⟨true, true, (.cells [(.sl 629 0 0 (cc + ln (o + w)) 1), (.bool (false))])⟩)), (629, (.one ⟨true, false, (.ints .u8 (List.take cc (List.drop pp hh) ++ List.take (ln (o + w)) (T (o + w))))⟩))],
      EB (decide ((↑w : Int) < (↑nf : Int))) false,
      (o + w + (1 : Nat) ≤ N),
      ((.c (.ptr 1 0 (addO o w))) : V) = (.c (.ptr 1 0 (o + w))),
      ((0 : Int) ≤ (↑w : Int) ∧ (↑w : Int) < (↑n : Int)),
      EB (decide ((↑w : Int) < 30)) true,
      EB (decide ((↑w : Int) < (↑n : Int))) true])
    mixed (by kernel_rfl) ⟨.mk (by simp only [addO_eq, mulE_eq, mulE_one, Int.toNat_natCast, IntKind.wrap_i64, mmin, mmax]; omega), (CodeOk.mono (lxi o n N ln T fo nf M fr tl to nt w 1 (List.take cc (List.drop pp hh) ++ List.take (ln (o + w)) (T (o + w))) 0 (cc + ln (o + w)) (by omega) (by omega) (by omega) (by omega) (by omega) (by omega) (by omega) (by omega) (by omega) (by omega) (by omega) (by omega) c7 c8 c9) (by decide)), .mk (decide_eq_false h6), .mk (bne_f (Decidable.of_not_not (by omega))), Contract0.inst (heldY (List.take cc (List.drop pp hh) ++ List.take (ln (o + w)) (T (o + w))) 0 (cc + ln (o + w))) [.b 21 1 true [], .b 629 2 true []] [none] [] [] (by kernel_rfl) (by kernel_rfl) (by kernel_rfl) (by kernel_rfl) (by kernel_rfl), ContractN.fin (ContractN.fam (k := .u8) (l := (T (o + w))) (ex := false) (args1 := [(.c (.ptr 69 0 0)), (.c (.sl 692 0 0 (ln (o + w)) 1))]) 692 2 (o + w) (Contract0.instN (rfedY true hh (T (o + w)) pp cc 0 (ln (o + w)) (by omega) (by rw [Nat.zero_add]; exact hln _) (by omega) (by exact Nat.le_trans (hln _) (Nat.le_trans (hTs _) (by decide))) (by omega) (by exact hTb _) (by omega)) [.b 69 1 false [], .b 214 2 true [], .b 692 3 true []] [none, none] [(4, 677)] [] (by kernel_rfl) (by kernel_rfl) (by kernel_rfl) (by kernel_rfl) (by kernel_rfl)) (by kernel_rfl) (by kernel_rfl) (by kernel_rfl) (by kernel_rfl) (by kernel_rfl) (by kernel_rfl)) (by kernel_rfl), ContractN.fin (ContractN.fam (k := .u8) (l := (T (o + w))) (ex := false) (args1 := [(.c (.ptr 21 0 0)), (.c (.sl 644 0 0 (ln (o + w)) 1))]) 644 2 (o + w) (Contract0.instN (fedY true hh (T (o + w)) pp cc 0 (ln (o + w)) (by omega) (by rw [Nat.zero_add]; exact hln _) (by omega) (by exact Nat.le_trans (hln _) (Nat.le_trans (hTs _) (by decide))) (by omega) (by exact hTb _) c5) [.b 21 1 false [], .b 213 2 true [], .b 644 3 true []] [none, none] [(4, 629)] [] (by kernel_rfl) (by kernel_rfl) (by kernel_rfl) (by kernel_rfl) (by kernel_rfl)) (by kernel_rfl) (by kernel_rfl) (by kernel_rfl) (by kernel_rfl) (by kernel_rfl) (by kernel_rfl)) (by kernel_rfl), .mk (decide_eq_false h4), (by omega), EV.ptr (by simp only [addO_eq, mulE_eq, mulE_one, Int.toNat_natCast, IntKind.wrap_i64, mmin, mmax]), (by omega), .mk (decide_eq_true h3), .mk (decide_eq_true h2), trivial⟩
theorem LQ_rttfc1t (o n N : Nat) (ln : Nat → Nat) (T : Nat → List Int) (fo nf M : Nat) (fr : Nat → Bool) (tl : List Int) (to nt w : Nat) (hh : List Int) (pp cc : Nat)
    (hN : o + n ≤ N)
    (hln : ∀ j, ln j ≤ (T j).length)
    (hTb : ∀ j, W.bytes (T j))
    (hTs : ∀ j, (T j).length ≤ 1048576)
    (hn : n ≤ 1048576)
    (hM : fo + nf ≤ M)
    (hnf : nf ≤ 1048576)
    (htl : to + nt ≤ tl.length)
    (hnt : nt ≤ 1048576)
    (htr : ∀ j, -9223372036854775808 ≤ List.getD tl j 0 ∧ List.getD tl j 0 < 9223372036854775808)
    (hw : w ≤ 30)
    (hpc : pp + cc ≤ hh.length)
    (hcc : cc ≤ w * 1048600)
    (hhb : W.bytes hh)
    (h2 : ((↑w : Int) < (↑n : Int)))
    (h3 : ((↑w : Int) < (30 : Int)))
    (h4 : (¬(↑w : Int) < (↑nf : Int)))
    (c5 : (W.scanB (List.take cc (List.drop pp hh) ++ List.take (ln (o + w)) (List.drop (0 : Nat) (T (o + w)))) (cc + ln (o + w)) = true))
    (h6 : ((↑w : Int) < (↑nt : Int))) :
    CodeOk Try.prog 136 213 (kAt (kOf Try.prog Try.f8) [true, true, true, true, false, true, false, false]) (LQI o n N ln T fo nf M fr tl to nt w hh pp cc) .normal ⟨[(0, (.c (.sl 1 0 o n 1))), (1, (.c (.sl 3 0 fo nf 1))), (2, (.c (.sl 4 0 to nt 1))), (7, (.c (.ptr 21 0 0))), (8, (.c (.ptr 69 0 0))), (6, (.c (.bool (false)))), (9, (.c (.int .i64 (↑(w + 1)))))], [(1, (.one ⟨false, false, (.gen N (fun j_ => (.sl 2 j_ 0 (ln j_) 1)))⟩)), (2, (.many (fun j_ => some ⟨false, false, (.ints .u8 (T j_))⟩))), (3, (.one ⟨false, false, (.gen M (fun j_ => (.bool (fr j_))))⟩)), (4, (.one ⟨false, false, (.ints .i64 tl)⟩)), (21, (.one ⟨true, true, (.cells [.nils, (.bool (true))])⟩)), (69, (.one ⟨true, true, (.cells [.nils, (.bool (true))])⟩))], 229⟩ :=
  CodeOk.of_runs (fuel := 300) (v := ⟨[0, 1, 2, 7, 8, 6, 9], [1, 2, 3, 4, 21, 69], [], 229⟩) (hs := [(4, ⟨.auto, some (.c (.bool (true)))⟩), (7, ⟨.auto, some (.c (.bool (true)))⟩), (11, ⟨.ask, some (.c (.ptr 1 0 (o + w)))⟩), (12, ⟨.ask, none⟩), (18, ⟨.auto, some (.c (.bool (false)))⟩), (27, ⟨.call [21, 2, 213] (.c (.int .i64 6)) [] [(21, (.one ⟨true, true, (.cells [.nils, (.bool (true))])⟩))], none⟩), (30, ⟨.call [69, 2, 214] (.c (.int .i64 6)) [] [(69, (.one ⟨true, true, (.cells [.nils, (.bool (true))])⟩))], none⟩), (34, ⟨.call [21] (.c (.int .i64 0)) [] [], none⟩), (47, ⟨.auto, some (.c (.bool (true)))⟩), (51, ⟨.ask, some (.c (.ptr 4 0 (to + w)))⟩), (52, ⟨.ask, none⟩), (53, ⟨.call [] (.c (.int .i64 (↑(W.pick (List.getD tl (to + w) 0) 4)))) [] [], none⟩), (55, ⟨.sum ⟨[0, 1, 2, 7, 8, 9, 6, 15], [1, 2, 3, 4, 21, 69], [], 100000⟩ (.exit 2) (LZiI o n N ln T fo nf M fr tl to nt w 0), none⟩), (57, ⟨.auto, some (.c (.int .i64 (↑(w + 1))))⟩)])
    (cs := [EI .i64 (IntKind.wrap IntKind.i64 ((↑w : Int) + 1)) ((↑(w + 1) : Int)),
      CodeOk Try.prog 136 1045 (kAt (kOf Try.prog Try.f8) [true, true, true, true, false, true, false, false, true, false, false, true, true, true, true, true, false]) (LZiI o n N ln T fo nf M fr tl to nt w (↑(W.pick (List.getD tl (to + w) 0) 4) : Int)) (.exit 2) (LZiI o n N ln T fo nf M fr tl to nt w 0),
      Contract Try.prog 15 [(.c (.int .i64 (List.getD tl (to + w) 0))), (.c (.int .i64 4))] [] 1013 (.c (.int .i64 (↑(W.pick (List.getD tl (to + w) 0) 4)))) [] [],
      (to + w + (1 : Nat) ≤ List.length tl),
      ((.c (.ptr 4 0 (addO to w))) : V) = (.c (.ptr 4 0 (to + w))),
      ((0 : Int) ≤ (↑w : Int) ∧ (↑w : Int) < (↑nt : Int)),
      EB (decide ((↑w : Int) < (↑nt : Int))) true,
      Contract Try.prog 44 [(.c (.ptr 21 0 0))] [(21, (.one ⟨true, true, (.cells [.nils, (.bool (true))])⟩))] 741 (.c (.int .i64 0)) [] [],
      Contract Try.prog 43 [(.c (.ptr 69 0 0)), (.c (.sl 2 (o + w) 0 (ln (o + w)) 1))] [(69, (.one ⟨true, true, (.cells [(.sl 214 0 pp cc 1), (.bool (false))])⟩)), (2, (.many (fun j_ => some ⟨false, false, (.ints .u8 (T j_))⟩))), (214, (.one ⟨true, false, (.ints .u8 hh)⟩))] 677 (.c (.int .i64 6)) [] [(69, (.one ⟨true, true, (.cells [.nils, (.bool (true))])⟩))],
      Contract Try.prog 42 [(.c (.ptr 21 0 0)), (.c (.sl 2 (o + w) 0 (ln (o + w)) 1))] [(21, (.one ⟨true, true, (.cells [(.sl 213 0 pp cc 1), (.bool (false))])⟩)), (2, (.many (fun j_ => some ⟨false, false, (.ints .u8 (T j_))⟩))), (213, (.one ⟨true, false, (.ints .u8 hh)⟩))] 629 (.c (.int .i64 6)) [] [(21, (.one ⟨true, true, (.cells [.nils, (.bool (true))])⟩))],
      EB (decide ((↑w : Int) < (↑nf : Int))) false,
      (o + w + (1 : Nat) ≤ N),
      ((.c (.ptr 1 0 (addO o w))) : V) = (.c (.ptr 1 0 (o + w))),
      ((0 : Int) ≤ (↑w : Int) ∧ (↑w : Int) < (↑n : Int)),
      EB (decide ((↑w : Int) < 30)) true,
      EB (decide ((↑w : Int) < (↑n : Int))) true])
    mixed (by kernel_rfl) ⟨.mk (by simp only [addO_eq, mulE_eq, mulE_one, Int.toNat_natCast, IntKind.wrap_i64, mmin, mmax]; omega), (CodeOk.mono (lzi o n N ln T fo nf M fr tl to nt w ((↑(W.pick (List.getD tl (to + w) 0) 4) : Int)) (by omega) (by omega) (by omega) (by omega) (by omega) (by omega) (by omega) (by omega) (by omega) (by omega) (by omega) (by exact ⟨by omega, by have := W.pick_lt (a := List.getD tl (to + w) 0) (b := 4) (by decide); omega⟩)) (by decide)), Contract0.inst (pick_ok (List.getD tl (to + w) 0) 4 (by exact htr _) (by omega)) [] [none, none] [] [] (by kernel_rfl) (by kernel_rfl) (by kernel_rfl) (by kernel_rfl) (by kernel_rfl), (by omega), EV.ptr (by simp only [addO_eq, mulE_eq, mulE_one, Int.toNat_natCast, IntKind.wrap_i64, mmin, mmax]), (by omega), .mk (decide_eq_true h6), Contract0.inst (heldB true) [.b 21 1 true []] [none] [] [] (by kernel_rfl) (by kernel_rfl) (by kernel_rfl) (by kernel_rfl) (by kernel_rfl), ContractN.fin (ContractN.fam (k := .u8) (l := (T (o + w))) (ex := false) (args1 := [(.c (.ptr 69 0 0)), (.c (.sl 692 0 0 (ln (o + w)) 1))]) 692 2 (o + w) (Contract0.instN (rfedN true hh (T (o + w)) pp cc 0 (ln (o + w)) (by omega) (by rw [Nat.zero_add]; exact hln _) (by omega) (by exact Nat.le_trans (hln _) (Nat.le_trans (hTs _) (by decide))) (by omega) (by exact hTb _) (by omega)) [.b 69 1 false [], .b 214 2 true [], .b 692 3 true []] [none, none] [] [] (by kernel_rfl) (by kernel_rfl) (by kernel_rfl) (by kernel_rfl) (by kernel_rfl)) (by kernel_rfl) (by kernel_rfl) (by kernel_rfl) (by kernel_rfl) (by kernel_rfl) (by kernel_rfl)) (by kernel_rfl), ContractN.fin (ContractN.fam (k := .u8) (l := (T (o + w))) (ex := false) (args1 := [(.c (.ptr 21 0 0)), (.c (.sl 644 0 0 (ln (o + w)) 1))]) 644 2 (o + w) (Contract0.instN (fedN true hh (T (o + w)) pp cc 0 (ln (o + w)) (by omega) (by rw [Nat.zero_add]; exact hln _) (by omega) (by exact Nat.le_trans (hln _) (Nat.le_trans (hTs _) (by decide))) (by omega) (by exact hTb _) c5) [.b 21 1 false [], .b 213 2 true [], .b 644 3 true []] [none, none] [] [] (by kernel_rfl) (by kernel_rfl) (by kernel_rfl) (by kernel_rfl) (by kernel_rfl)) (by kernel_rfl) (by kernel_rfl) (by kernel_rfl) (by kernel_rfl) (by kernel_rfl) (by kernel_rfl)) (by kernel_rfl), .mk (decide_eq_false h4), (by omega), EV.ptr (by simp only [addO_eq, mulE_eq, mulE_one, Int.toNat_natCast, IntKind.wrap_i64, mmin, mmax]), (by omega), .mk (decide_eq_true h3), .mk (decide_eq_true h2), trivial⟩
theorem LQ_rttfc1f (o n N : Nat) (ln : Nat → Nat) (T : Nat → List Int) (fo nf M : Nat) (fr : Nat → Bool) (tl : List Int) (to nt w : Nat) (hh : List Int) (pp cc : Nat)
    (hN : o + n ≤ N)
    (hln : ∀ j, ln j ≤ (T j).length)
    (hTb : ∀ j, W.bytes (T j))
    (hTs : ∀ j, (T j).length ≤ 1048576)
    (hn : n ≤ 1048576)
    (hM : fo + nf ≤ M)
    (hnf : nf ≤ 1048576)
    (htl : to + nt ≤ tl.length)
    (hnt : nt ≤ 1048576)
    (htr : ∀ j, -9223372036854775808 ≤ List.getD tl j 0 ∧ List.getD tl j 0 < 9223372036854775808)
    (hw : w ≤ 30)
    (hpc : pp + cc ≤ hh.length)
    (hcc : cc ≤ w * 1048600)
    (hhb : W.bytes hh)
    (h2 : ((↑w : Int) < (↑n : Int)))
    (h3 : ((↑w : Int) < (30 : Int)))
    (h4 : (¬(↑w : Int) < (↑nf : Int)))
    (c5 : (W.scanB (List.take cc (List.drop pp hh) ++ List.take (ln (o + w)) (List.drop (0 : Nat) (T (o + w)))) (cc + ln (o + w)) = true))
    (h6 : (¬(↑w : Int) < (↑nt : Int))) :
    CodeOk Try.prog 136 213 (kAt (kOf Try.prog Try.f8) [true, true, true, true, false, true, false, false]) (LQI o n N ln T fo nf M fr tl to nt w hh pp cc) .normal ⟨[(0, (.c (.sl 1 0 o n 1))), (1, (.c (.sl 3 0 fo nf 1))), (2, (.c (.sl 4 0 to nt 1))), (7, (.c (.ptr 21 0 0))), (8, (.c (.ptr 69 0 0))), (6, (.c (.bool (false)))), (9, (.c (.int .i64 (↑(w + 1)))))], [(1, (.one ⟨false, false, (.gen N (fun j_ => (.sl 2 j_ 0 (ln j_) 1)))⟩)), (2, (.many (fun j_ => some ⟨false, false, (.ints .u8 (T j_))⟩))), (3, (.one ⟨false, false, (.gen M (fun j_ => (.bool (fr j_))))⟩)), (4, (.one ⟨false, false, (.ints .i64 tl)⟩)), (21, (.one ⟨true, true, (.cells [.nils, (.bool (true))])⟩)), (69, (.one ⟨true, true, (.cells [.nils, (.bool (true))])⟩))], 229⟩ :=
  CodeOk.of_runs (fuel := 300) (v := ⟨[0, 1, 2, 7, 8, 6, 9], [1, 2, 3, 4, 21, 69], [], 229⟩) (hs := [(4, ⟨.auto, some (.c (.bool (true)))⟩), (7, ⟨.auto, some (.c (.bool (true)))⟩), (11, ⟨.ask, some (.c (.ptr 1 0 (o + w)))⟩), (12, ⟨.ask, none⟩), (18, ⟨.auto, some (.c (.bool (false)))⟩), (27, ⟨.call [21, 2, 213] (.c (.int .i64 6)) [] [(21, (.one ⟨true, true, (.cells [.nils, (.bool (true))])⟩))], none⟩), (30, ⟨.call [69, 2, 214] (.c (.int .i64 6)) [] [(69, (.one ⟨true, true, (.cells [.nils, (.bool (true))])⟩))], none⟩), (34, ⟨.call [21] (.c (.int .i64 0)) [] [], none⟩), (47, ⟨.auto, some (.c (.bool (false)))⟩), (49, ⟨.sum ⟨[0, 1, 2, 7, 8, 9, 6, 15], [1, 2, 3, 4, 21, 69], [], 100000⟩ (.exit 2) (LZiI o n N ln T fo nf M fr tl to nt w 0), none⟩), (51, ⟨.auto, some (.c (.int .i64 (↑(w + 1))))⟩)])
    (cs := [EI .i64 (IntKind.wrap IntKind.i64 ((↑w : Int) + 1)) ((↑(w + 1) : Int)),
      CodeOk Try.prog 136 949 (kAt (kOf Try.prog Try.f8) [true, true, true, true, false, true, false, false, true, false, false, true, true, true, true, true, false]) (LZiI o n N ln T fo nf M fr tl to nt w 1) (.exit 2) (LZiI o n N ln T fo nf M fr tl to nt w 0),
      EB (decide ((↑w : Int) < (↑nt : Int))) false,
      Contract Try.prog 44 [(.c (.ptr 21 0 0))] [(21, (.one ⟨true, true, (.cells [.nils, (.bool (true))])⟩))] 741 (.c (.int .i64 0)) [] [],
      Contract Try.prog 43 [(.c (.ptr 69 0 0)), (.c (.sl 2 (o + w) 0 (ln (o + w)) 1))] [(69, (.one ⟨true, true, (.cells [(.sl 214 0 pp cc 1), (.bool (false))])⟩)), (2, (.many (fun j_ => some ⟨false, false, (.ints .u8 (T j_))⟩))), (214, (.one ⟨true, false, (.ints .u8 hh)⟩))] 677 (.c (.int .i64 6)) [] [(69, (.one ⟨true, true, (.cells [.nils, (.bool (true))])⟩))],
      Contract Try.prog 42 [(.c (.ptr 21 0 0)), (.c (.sl 2 (o + w) 0 (ln (o + w)) 1))] [(21, (.one ⟨true, true, (.cells [(.sl 213 0 pp cc 1), (.bool (false))])⟩)), (2, (.many (fun j_ => some ⟨false, false, (.ints .u8 (T j_))⟩))), (213, (.one ⟨true, false, (.ints .u8 hh)⟩))] 629 (.c (.int .i64 6)) [] [(21, (.one ⟨true, true, (.cells [.nils, (.bool (true))])⟩))],
      EB (decide ((↑w : Int) < (↑nf : Int))) false,
      (o + w + (1 : Nat) ≤ N),
      ((.c (.ptr 1 0 (addO o w))) : V) = (.c (.ptr 1 0 (o + w))),
      ((0 : Int) ≤ (↑w : Int) ∧ (↑w : Int) < (↑n : Int)),
      EB (decide ((↑w : Int) < 30)) true,
      EB (decide ((↑w : Int) < (↑n : Int))) true])
    mixed (by kernel_rfl) ⟨.mk (by simp only [addO_eq, mulE_eq, mulE_one, Int.toNat_natCast, IntKind.wrap_i64, mmin, mmax]; omega), (CodeOk.mono (lzi o n N ln T fo nf M fr tl to nt w 1 (by omega) (by omega) (by omega) (by omega) (by omega) (by omega) (by omega) (by omega) (by omega) (by omega) (by omega) (by omega)) (by decide)), .mk (decide_eq_false h6), Contract0.inst (heldB true) [.b 21 1 true []] [none] [] [] (by kernel_rfl) (by kernel_rfl) (by kernel_rfl) (by kernel_rfl) (by kernel_rfl), ContractN.fin (ContractN.fam (k := .u8) (l := (T (o + w))) (ex := false) (args1 := [(.c (.ptr 69 0 0)), (.c (.sl 692 0 0 (ln (o + w)) 1))]) 692 2 (o + w) (Contract0.instN (rfedN true hh (T (o + w)) pp cc 0 (ln (o + w)) (by omega) (by rw [Nat.zero_add]; exact hln _) (by omega) (by exact Nat.le_trans (hln _) (Nat.le_trans (hTs _) (by decide))) (by omega) (by exact hTb _) (by omega)) [.b 69 1 false [], .b 214 2 true [], .b 692 3 true []] [none, none] [] [] (by kernel_rfl) (by kernel_rfl) (by kernel_rfl) (by kernel_rfl) (by kernel_rfl)) (by kernel_rfl) (by kernel_rfl) (by kernel_rfl) (by kernel_rfl) (by kernel_rfl) (by kernel_rfl)) (by kernel_rfl), ContractN.fin (ContractN.fam (k := .u8) (l := (T (o + w))) (ex := false) (args1 := [(.c (.ptr 21 0 0)), (.c (.sl 644 0 0 (ln (o + w)) 1))]) 644 2 (o + w) (Contract0.instN (fedN true hh (T (o + w)) pp cc 0 (ln (o + w)) (by omega) (by rw [Nat.zero_add]; exact hln _) (by omega) (by exact Nat.le_trans (hln _) (Nat.le_trans (hTs _) (by decide))) (by omega) (by exact hTb _) c5) [.b 21 1 false [], .b 213 2 true [], .b 644 3 true []] [none, none] [] [] (by kernel_rfl) (by kernel_rfl) (by kernel_rfl) (by kernel_rfl) (by kernel_rfl)) (by kernel_rfl) (by kernel_rfl) (by kernel_rfl) (by kernel_rfl) (by kernel_rfl) (by kernel_rfl)) (by kernel_rfl), .mk (decide_eq_false h4), (by omega), EV.ptr (by simp only [addO_eq, mulE_eq, mulE_one, Int.toNat_natCast, IntKind.wrap_i64, mmin, mmax]), (by omega), .mk (decide_eq_true h3), .mk (decide_eq_true h2), trivial⟩
theorem LQ_xtf (o n N : Nat) (ln : Nat → Nat) (T : Nat → List Int) (fo nf M : Nat) (fr : Nat → Bool) (tl : List Int) (to nt w : Nat) (hh : List Int) (pp cc : Nat)
    (hN : o + n ≤ N)
    (hln : ∀ j, ln j ≤ (T j).length)
    (hTb : ∀ j, W.bytes (T j))
    (hTs : ∀ j, (T j).length ≤ 1048576)
    (hn : n ≤ 1048576)
    (hM : fo + nf ≤ M)
    (hnf : nf ≤ 1048576)
    (htl : to + nt ≤ tl.length)
    (hnt : nt ≤ 1048576)
    (htr : ∀ j, -9223372036854775808 ≤ List.getD tl j 0 ∧ List.getD tl j 0 < 9223372036854775808)
    (hw : w ≤ 30)
    (hpc : pp + cc ≤ hh.length)
    (hcc : cc ≤ w * 1048600)
    (hhb : W.bytes hh)
    (h2 : ((↑w : Int) < (↑n : Int)))
    (h3 : (¬(↑w : Int) < (30 : Int))) :
    CodeOk Try.prog 136 213 (kAt (kOf Try.prog Try.f8) [true, true, true, true, false, true, false, false]) (LQI o n N ln T fo nf M fr tl to nt w hh pp cc) (.exit 0) (LQI o n N ln T fo nf M fr tl to nt w hh pp cc) :=
  CodeOk.of_runs (fuel := 300) (v := ⟨[0, 1, 2, 7, 8, 6, 9], [214, 213, 1, 2, 3, 4, 21, 69], [(213, 213), (214, 214)], 229⟩) (hs := [(4, ⟨.auto, some (.c (.bool (true)))⟩), (7, ⟨.auto, some (.c (.bool (false)))⟩)])
    (cs := [EB (decide ((↑w : Int) < 30)) false,
      EB (decide ((↑w : Int) < (↑n : Int))) true])
    mixed (by kernel_rfl) ⟨.mk (decide_eq_false h3), .mk (decide_eq_true h2), trivial⟩
theorem LQ_xf (o n N : Nat) (ln : Nat → Nat) (T : Nat → List Int) (fo nf M : Nat) (fr : Nat → Bool) (tl : List Int) (to nt w : Nat) (hh : List Int) (pp cc : Nat)
    (hN : o + n ≤ N)
    (hln : ∀ j, ln j ≤ (T j).length)
    (hTb : ∀ j, W.bytes (T j))
    (hTs : ∀ j, (T j).length ≤ 1048576)
    (hn : n ≤ 1048576)
    (hM : fo + nf ≤ M)
    (hnf : nf ≤ 1048576)
    (htl : to + nt ≤ tl.length)
    (hnt : nt ≤ 1048576)
    (htr : ∀ j, -9223372036854775808 ≤ List.getD tl j 0 ∧ List.getD tl j 0 < 9223372036854775808)
    (hw : w ≤ 30)
    (hpc : pp + cc ≤ hh.length)
    (hcc : cc ≤ w * 1048600)
    (hhb : W.bytes hh)
    (h2 : (¬(↑w : Int) < (↑n : Int))) :
    CodeOk Try.prog 136 213 (kAt (kOf Try.prog Try.f8) [true, true, true, true, false, true, false, false]) (LQI o n N ln T fo nf M fr tl to nt w hh pp cc) (.exit 0) (LQI o n N ln T fo nf M fr tl to nt w hh pp cc) :=
  CodeOk.of_runs (fuel := 300) (v := ⟨[0, 1, 2, 7, 8, 6, 9], [214, 213, 1, 2, 3, 4, 21, 69], [(213, 213), (214, 214)], 229⟩) (hs := [(4, ⟨.auto, some (.c (.bool (false)))⟩)])
    (cs := [EB (decide ((↑w : Int) < (↑n : Int))) false])
    mixed (by kernel_rfl) ⟨.mk (decide_eq_false h2), trivial⟩

end Go.Proofs.Ytmfnldkiaodkpaa.Vm

namespace Go.Proofs.Ytmfnldkiaodkpaa.Vm
open Go Go.Proofs Go.Proofs.Ytmfnldkiaodkpaa
/-- Seen anew behind the run. -/
theorem CodeOk.post {P : Program} {nt n0 : Nat} {k : K} {s s0 s1 : S0} {x : Ex} (v : SView) (hok : v.ok n0 = true) (hv : v.app n0 s = s1) (h : CodeOk P nt n0 k s0 x s) : CodeOk P nt n0 k s0 x s1 := by
  subst hv
  intro Γ c hP hnt hn0 hf0 hc φ a w R hf
  refine wp_mono (h Γ c hP hnt hn0 hf0 hc φ a w R hf) ?_
  rintro e a' w' ⟨x', s'', φ', q1, ⟨rfl, rfl⟩, q3, q4⟩
  obtain ⟨q5, q6⟩ := q3.view (nx := s''.nx) v hok hn0 hf0
  exact ⟨x', _, _, q1, ⟨rfl, rfl⟩, q5, q6⟩
def LPI (o n N : Nat) (ln : Nat → Nat) (T : Nat → List Int) (fo nf M : Nat) (fr : Nat → Bool) (tl : List Int) (to nt : Nat) : S0 :=
  ⟨[(0, (.c (.sl 1 0 o n 1))), (1, (.c (.sl 3 0 fo nf 1))), (2, (.c (.sl 4 0 to nt 1))), (6, (.c (.bool false)))], [(1, (.one ⟨false, false, (.gen N (fun j_ => (.sl 2 j_ 0 (ln j_) 1)))⟩)), (2, (.many (fun j_ => some ⟨false, false, (.ints .u8 (T j_))⟩))), (3, (.one ⟨false, false, (.gen M (fun j_ => (.bool (fr j_))))⟩)), (4, (.one ⟨false, false, (.ints .i64 tl)⟩))], 229⟩
abbrev RdSt := Nat ⊕ (Nat × List Int × Nat × Nat)
def rdI (o n N : Nat) (ln : Nat → Nat) (T : Nat → List Int) (fo nf M : Nat) (fr : Nat → Bool) (tl : List Int) (to nt : Nat) : RdSt → S0
  | .inl w => LZI o n N ln T fo nf M fr tl to nt w
  | .inr (w, hh, pp, cc) => LQI o n N ln T fo nf M fr tl to nt w hh pp cc
def rdInv : RdSt → Prop
  | .inl w => w ≤ 30
  | .inr (w, hh, pp, cc) => w ≤ 30 ∧ pp + cc ≤ hh.length ∧ cc ≤ w * 1048600 ∧ W.bytes hh
def rdMu : RdSt → Nat
  | .inl w => 30 - w
  | .inr (w, _, _, _) => 30 - w
theorem rd_len {hh X : List Int} {pp cc k : Nat} (hpc : pp + cc ≤ hh.length) (hk : k ≤ X.length) : (List.take cc (List.drop pp hh) ++ List.take k X).length = cc + k := by
  rw [List.length_append, List.length_take, List.length_take, List.length_drop]; omega
theorem rd_bytes {hh X : List Int} {pp cc k : Nat} (hb : W.bytes hh) (hX : W.bytes X) : W.bytes (List.take cc (List.drop pp hh) ++ List.take k X) :=
  W.bytes_app (W.bytes_take (W.bytes_drop hb)) (W.bytes_take hX)
theorem rd_good {hh X : List Int} {pp cc k w : Nat} (m : Int) (hw : w < 30) (hpc : pp + cc ≤ hh.length) (hcc : cc ≤ w * 1048600) (hb : W.bytes hh) (hk : k ≤ X.length) (hk2 : k ≤ 1048600) (hX : W.bytes X) :
    rdInv (.inr (w + 1, List.take cc (List.drop pp hh) ++ List.take k X, W.nxP (List.take cc (List.drop pp hh) ++ List.take k X) 0 (cc + k) m, W.nxC (List.take cc (List.drop pp hh) ++ List.take k X) 0 (cc + k) m)) := by
  have e := W.nx_le (h := List.take cc (List.drop pp hh) ++ List.take k X) (p := 0) (c := cc + k) m (by rw [rd_len hpc hk]; omega)
  refine ⟨by omega, e.1, ?_, rd_bytes hb hX⟩
  have := e.2
  omega
set_option linter.unusedVariables false in
theorem rd_stepZ (o n N : Nat) (ln : Nat → Nat) (T : Nat → List Int) (fo nf M : Nat) (fr : Nat → Bool) (tl : List Int) (to nt : Nat) (hN : o + n ≤ N) (hln : ∀ j, ln j ≤ (T j).length) (hTb : ∀ j, W.bytes (T j)) (hTs : ∀ j, (T j).length ≤ 1048576) (hn : n ≤ 1048576) (hM : fo + nf ≤ M) (hnf : nf ≤ 1048576) (htl : to + nt ≤ tl.length) (hnt : nt ≤ 1048576) (htr : ∀ j, -9223372036854775808 ≤ List.getD tl j 0 ∧ List.getD tl j 0 < 9223372036854775808) (w : Nat) (hw : w ≤ 30) :
    (∃ y, rdInv y ∧ rdMu y < rdMu (.inl w) ∧ CodeOk Try.prog 136 213 (kAt (kOf Try.prog Try.f8) [true, true, true, true, false, true, false, false]) (rdI o n N ln T fo nf M fr tl to nt (.inl w)) .normal (rdI o n N ln T fo nf M fr tl to nt y)) ∨ CodeOk Try.prog 136 213 (kAt (kOf Try.prog Try.f8) [true, true, true, true, false, true, false, false]) (rdI o n N ln T fo nf M fr tl to nt (.inl w)) (.exit 0) (LPI o n N ln T fo nf M fr tl to nt) := by
  by_cases h2 : (w : Int) < (n : Int)
  case neg => exact .inr (CodeOk.post ⟨[0, 1, 2, 6], [1, 2, 3, 4], [], 229⟩ (by decide) rfl (LZ_xf o n N ln T fo nf M fr tl to nt w hN hln hTb hTs hn hM hnf htl hnt htr hw h2))
  by_cases h3 : (w : Int) < 30
  case neg => exact .inr (CodeOk.post ⟨[0, 1, 2, 6], [1, 2, 3, 4], [], 229⟩ (by decide) rfl (LZ_xtf o n N ln T fo nf M fr tl to nt w hN hln hTb hTs hn hM hnf htl hnt htr hw h2 h3))
  have hk : rdMu (.inl (w + 1)) < rdMu (.inl w) := by show 30 - (w + 1) < 30 - w; omega
  have hi : rdInv (.inl (w + 1)) := by show w + 1 ≤ 30; omega
  by_cases h4 : (w : Int) < (nf : Int)
  case neg =>
    by_cases h8 : (w : Int) < (nt : Int)
    · exact .inl ⟨_, hi, hk, LZ_rttft o n N ln T fo nf M fr tl to nt w hN hln hTb hTs hn hM hnf htl hnt htr hw h2 h3 h4 h8⟩
    · exact .inl ⟨_, hi, hk, LZ_rttff o n N ln T fo nf M fr tl to nt w hN hln hTb hTs hn hM hnf htl hnt htr hw h2 h3 h4 h8⟩
  by_cases h5 : fr (fo + w) = true
  case neg =>
    by_cases h8 : (w : Int) < (nt : Int)
    · exact .inl ⟨_, hi, hk, LZ_rtttft o n N ln T fo nf M fr tl to nt w hN hln hTb hTs hn hM hnf htl hnt htr hw h2 h3 h4 h5 h8⟩
    · exact .inl ⟨_, hi, hk, LZ_rtttff o n N ln T fo nf M fr tl to nt w hN hln hTb hTs hn hM hnf htl hnt htr hw h2 h3 h4 h5 h8⟩
  by_cases c6 : 1 ≤ ln (o + w) ∧ ln (o + w) ≤ 4096
  case neg =>
    by_cases h8 : (w : Int) < (nt : Int)
    · exact .inl ⟨_, hi, hk, LZ_rttttc0t o n N ln T fo nf M fr tl to nt w hN hln hTb hTs hn hM hnf htl hnt htr hw h2 h3 h4 h5 c6 h8⟩
    · exact .inl ⟨_, hi, hk, LZ_rttttc0f o n N ln T fo nf M fr tl to nt w hN hln hTb hTs hn hM hnf htl hnt htr hw h2 h3 h4 h5 c6 h8⟩
  have c7 : 0 + (2 + ln (o + w)) ≤ (W.frm (ln (o + w)) (List.take (ln (o + w)) (T (o + w)))).length := by rw [W.frm_len, List.length_take, Nat.min_eq_left (hln _)]; omega
  by_cases h8 : (w : Int) < (nt : Int)
  · exact .inl ⟨_, hi, hk, LZ_rttttc1t o n N ln T fo nf M fr tl to nt w hN hln hTb hTs hn hM hnf htl hnt htr hw h2 h3 h4 h5 c6 c7 h8⟩
  · exact .inl ⟨_, hi, hk, LZ_rttttc1f o n N ln T fo nf M fr tl to nt w hN hln hTb hTs hn hM hnf htl hnt htr hw h2 h3 h4 h5 c6 c7 h8⟩
set_option linter.unusedVariables false in
theorem rd_stepQ (o n N : Nat) (ln : Nat → Nat) (T : Nat → List Int) (fo nf M : Nat) (fr : Nat → Bool) (tl : List Int) (to nt : Nat) (hN : o + n ≤ N) (hln : ∀ j, ln j ≤ (T j).length) (hTb : ∀ j, W.bytes (T j)) (hTs : ∀ j, (T j).length ≤ 1048576) (hn : n ≤ 1048576) (hM : fo + nf ≤ M) (hnf : nf ≤ 1048576) (htl : to + nt ≤ tl.length) (hnt : nt ≤ 1048576) (htr : ∀ j, -9223372036854775808 ≤ List.getD tl j 0 ∧ List.getD tl j 0 < 9223372036854775808) (w : Nat) (hh : List Int) (pp cc : Nat) (hw : w ≤ 30) (hpc : pp + cc ≤ hh.length) (hcc : cc ≤ w * 1048600) (hhb : W.bytes hh) :
    (∃ y, rdInv y ∧ rdMu y < rdMu (.inr (w, hh, pp, cc)) ∧ CodeOk Try.prog 136 213 (kAt (kOf Try.prog Try.f8) [true, true, true, true, false, true, false, false]) (rdI o n N ln T fo nf M fr tl to nt (.inr (w, hh, pp, cc))) .normal (rdI o n N ln T fo nf M fr tl to nt y)) ∨ CodeOk Try.prog 136 213 (kAt (kOf Try.prog Try.f8) [true, true, true, true, false, true, false, false]) (rdI o n N ln T fo nf M fr tl to nt (.inr (w, hh, pp, cc))) (.exit 0) (LPI o n N ln T fo nf M fr tl to nt) := by
  by_cases h2 : (w : Int) < (n : Int)
  case neg => exact .inr (CodeOk.post ⟨[0, 1, 2, 6], [1, 2, 3, 4], [], 229⟩ (by decide) rfl (LQ_xf o n N ln T fo nf M fr tl to nt w hh pp cc hN hln hTb hTs hn hM hnf htl hnt htr hw hpc hcc hhb h2))
  by_cases h3 : (w : Int) < 30
  case neg => exact .inr (CodeOk.post ⟨[0, 1, 2, 6], [1, 2, 3, 4], [], 229⟩ (by decide) rfl (LQ_xtf o n N ln T fo nf M fr tl to nt w hh pp cc hN hln hTb hTs hn hM hnf htl hnt htr hw hpc hcc hhb h2 h3))
  by_cases h4 : (w : Int) < (nf : Int)
  case neg =>
    have hX : W.bytes (T (o + w)) := hTb _
    have hl : (ln (o + w)) ≤ (T (o + w)).length := hln _
    have hb : (ln (o + w)) ≤ 1048600 := by have := hln (o + w); have := hTs (o + w); omega
    have hL : 0 + (cc + (ln (o + w))) ≤ (List.take cc (List.drop pp hh) ++ List.take (ln (o + w)) (T (o + w))).length := by rw [rd_len hpc hl]; omega
    by_cases c9 : W.scanB (List.take cc (List.drop pp hh) ++ List.take (ln (o + w)) (List.drop 0 (T (o + w)))) (cc + (ln (o + w))) = true
    · by_cases h8 : (w : Int) < (nt : Int)
      · exact .inl ⟨.inl (w + 1), by show w + 1 ≤ 30; omega, by show 30 - (w + 1) < 30 - w; omega, LQ_rttfc1t o n N ln T fo nf M fr tl to nt w hh pp cc hN hln hTb hTs hn hM hnf htl hnt htr hw hpc hcc hhb h2 h3 h4 c9 h8⟩
      · exact .inl ⟨.inl (w + 1), by show w + 1 ≤ 30; omega, by show 30 - (w + 1) < 30 - w; omega, LQ_rttfc1f o n N ln T fo nf M fr tl to nt w hh pp cc hN hln hTb hTs hn hM hnf htl hnt htr hw hpc hcc hhb h2 h3 h4 c9 h8⟩
    · have c9 := (Bool.not_eq_true _).mp c9
      by_cases h8 : (w : Int) < (nt : Int)
      · exact .inl ⟨.inr (w + 1, _, _, _), rd_good _ (by omega) hpc hcc hhb hl hb hX, by show 30 - (w + 1) < 30 - w; omega, LQ_rttfc0t o n N ln T fo nf M fr tl to nt w hh pp cc hN hln hTb hTs hn hM hnf htl hnt htr hw hpc hcc hhb h2 h3 h4 c9 h8 hL (by omega) (rd_bytes hhb hX)⟩
      · exact .inl ⟨.inr (w + 1, _, _, _), rd_good _ (by omega) hpc hcc hhb hl hb hX, by show 30 - (w + 1) < 30 - w; omega, LQ_rttfc0f o n N ln T fo nf M fr tl to nt w hh pp cc hN hln hTb hTs hn hM hnf htl hnt htr hw hpc hcc hhb h2 h3 h4 c9 h8 hL (by omega) (rd_bytes hhb hX)⟩
  by_cases h5 : fr (fo + w) = true
  case neg =>
    have hX : W.bytes (T (o + w)) := hTb _
    have hl : (ln (o + w)) ≤ (T (o + w)).length := hln _
    have hb : (ln (o + w)) ≤ 1048600 := by have := hln (o + w); have := hTs (o + w); omega
    have hL : 0 + (cc + (ln (o + w))) ≤ (List.take cc (List.drop pp hh) ++ List.take (ln (o + w)) (T (o + w))).length := by rw [rd_len hpc hl]; omega
    by_cases c9 : W.scanB (List.take cc (List.drop pp hh) ++ List.take (ln (o + w)) (List.drop 0 (T (o + w)))) (cc + (ln (o + w))) = true
    · by_cases h8 : (w : Int) < (nt : Int)
      · exact .inl ⟨.inl (w + 1), by show w + 1 ≤ 30; omega, by show 30 - (w + 1) < 30 - w; omega, LQ_rtttfc1t o n N ln T fo nf M fr tl to nt w hh pp cc hN hln hTb hTs hn hM hnf htl hnt htr hw hpc hcc hhb h2 h3 h4 h5 c9 h8⟩
      · exact .inl ⟨.inl (w + 1), by show w + 1 ≤ 30; omega, by show 30 - (w + 1) < 30 - w; omega, LQ_rtttfc1f o n N ln T fo nf M fr tl to nt w hh pp cc hN hln hTb hTs hn hM hnf htl hnt htr hw hpc hcc hhb h2 h3 h4 h5 c9 h8⟩
    · have c9 := (Bool.not_eq_true _).mp c9
      by_cases h8 : (w : Int) < (nt : Int)
      · exact .inl ⟨.inr (w + 1, _, _, _), rd_good _ (by omega) hpc hcc hhb hl hb hX, by show 30 - (w + 1) < 30 - w; omega, LQ_rtttfc0t o n N ln T fo nf M fr tl to nt w hh pp cc hN hln hTb hTs hn hM hnf htl hnt htr hw hpc hcc hhb h2 h3 h4 h5 c9 h8 hL (by omega) (rd_bytes hhb hX)⟩
      · exact .inl ⟨.inr (w + 1, _, _, _), rd_good _ (by omega) hpc hcc hhb hl hb hX, by show 30 - (w + 1) < 30 - w; omega, LQ_rtttfc0f o n N ln T fo nf M fr tl to nt w hh pp cc hN hln hTb hTs hn hM hnf htl hnt htr hw hpc hcc hhb h2 h3 h4 h5 c9 h8 hL (by omega) (rd_bytes hhb hX)⟩
  by_cases c6 : 1 ≤ ln (o + w) ∧ ln (o + w) ≤ 4096
  case neg =>
    have hX : W.bytes (T (o + w)) := hTb _
    have hl : (ln (o + w)) ≤ (T (o + w)).length := hln _
    have hb : (ln (o + w)) ≤ 1048600 := by have := hln (o + w); have := hTs (o + w); omega
    have hL : 0 + (cc + (ln (o + w))) ≤ (List.take cc (List.drop pp hh) ++ List.take (ln (o + w)) (T (o + w))).length := by rw [rd_len hpc hl]; omega
    by_cases c9 : W.scanB (List.take cc (List.drop pp hh) ++ List.take (ln (o + w)) (List.drop 0 (T (o + w)))) (cc + (ln (o + w))) = true
    · by_cases h8 : (w : Int) < (nt : Int)
      · exact .inl ⟨.inl (w + 1), by show w + 1 ≤ 30; omega, by show 30 - (w + 1) < 30 - w; omega, LQ_rttttc0c1t o n N ln T fo nf M fr tl to nt w hh pp cc hN hln hTb hTs hn hM hnf htl hnt htr hw hpc hcc hhb h2 h3 h4 h5 c6 c9 h8⟩
      · exact .inl ⟨.inl (w + 1), by show w + 1 ≤ 30; omega, by show 30 - (w + 1) < 30 - w; omega, LQ_rttttc0c1f o n N ln T fo nf M fr tl to nt w hh pp cc hN hln hTb hTs hn hM hnf htl hnt htr hw hpc hcc hhb h2 h3 h4 h5 c6 c9 h8⟩
    · have c9 := (Bool.not_eq_true _).mp c9
      by_cases h8 : (w : Int) < (nt : Int)
      · exact .inl ⟨.inr (w + 1, _, _, _), rd_good _ (by omega) hpc hcc hhb hl hb hX, by show 30 - (w + 1) < 30 - w; omega, LQ_rttttc0c0t o n N ln T fo nf M fr tl to nt w hh pp cc hN hln hTb hTs hn hM hnf htl hnt htr hw hpc hcc hhb h2 h3 h4 h5 c6 c9 h8 hL (by omega) (rd_bytes hhb hX)⟩
      · exact .inl ⟨.inr (w + 1, _, _, _), rd_good _ (by omega) hpc hcc hhb hl hb hX, by show 30 - (w + 1) < 30 - w; omega, LQ_rttttc0c0f o n N ln T fo nf M fr tl to nt w hh pp cc hN hln hTb hTs hn hM hnf htl hnt htr hw hpc hcc hhb h2 h3 h4 h5 c6 c9 h8 hL (by omega) (rd_bytes hhb hX)⟩
  have c7 : 0 + (2 + ln (o + w)) ≤ (W.frm (ln (o + w)) (List.take (ln (o + w)) (T (o + w)))).length := by rw [W.frm_len, List.length_take, Nat.min_eq_left (hln _)]; omega
  have hX : W.bytes (W.frm (ln (o + w)) (List.take (ln (o + w)) (T (o + w)))) := W.frm_bytes (by omega) (W.bytes_take (hTb _))
  have hl : (2 + ln (o + w)) ≤ (W.frm (ln (o + w)) (List.take (ln (o + w)) (T (o + w)))).length := by have := c7; omega
  have hb : (2 + ln (o + w)) ≤ 1048600 := by have := hln (o + w); have := hTs (o + w); omega
  have hL : 0 + (cc + (2 + ln (o + w))) ≤ (List.take cc (List.drop pp hh) ++ List.take (2 + ln (o + w)) (W.frm (ln (o + w)) (List.take (ln (o + w)) (T (o + w))))).length := by rw [rd_len hpc hl]; omega
  by_cases c9 : W.scanB (List.take cc (List.drop pp hh) ++ List.take (2 + ln (o + w)) (List.drop 0 (W.frm (ln (o + w)) (List.take (ln (o + w)) (T (o + w)))))) (cc + (2 + ln (o + w))) = true
  · by_cases h8 : (w : Int) < (nt : Int)
    · exact .inl ⟨.inl (w + 1), by show w + 1 ≤ 30; omega, by show 30 - (w + 1) < 30 - w; omega, LQ_rttttc1c1t o n N ln T fo nf M fr tl to nt w hh pp cc hN hln hTb hTs hn hM hnf htl hnt htr hw hpc hcc hhb h2 h3 h4 h5 c6 c7 hX c9 h8⟩
    · exact .inl ⟨.inl (w + 1), by show w + 1 ≤ 30; omega, by show 30 - (w + 1) < 30 - w; omega, LQ_rttttc1c1f o n N ln T fo nf M fr tl to nt w hh pp cc hN hln hTb hTs hn hM hnf htl hnt htr hw hpc hcc hhb h2 h3 h4 h5 c6 c7 hX c9 h8⟩
  · have c9 := (Bool.not_eq_true _).mp c9
    by_cases h8 : (w : Int) < (nt : Int)
    · exact .inl ⟨.inr (w + 1, _, _, _), rd_good _ (by omega) hpc hcc hhb hl hb hX, by show 30 - (w + 1) < 30 - w; omega, LQ_rttttc1c0t o n N ln T fo nf M fr tl to nt w hh pp cc hN hln hTb hTs hn hM hnf htl hnt htr hw hpc hcc hhb h2 h3 h4 h5 c6 c7 hX c9 h8 hL⟩
    · exact .inl ⟨.inr (w + 1, _, _, _), rd_good _ (by omega) hpc hcc hhb hl hb hX, by show 30 - (w + 1) < 30 - w; omega, LQ_rttttc1c0f o n N ln T fo nf M fr tl to nt w hh pp cc hN hln hTb hTs hn hM hnf htl hnt htr hw hpc hcc hhb h2 h3 h4 h5 c6 c7 hX c9 h8 hL⟩
theorem reads_loop (o n N : Nat) (ln : Nat → Nat) (T : Nat → List Int) (fo nf M : Nat) (fr : Nat → Bool) (tl : List Int) (to nt : Nat) (hN : o + n ≤ N) (hln : ∀ j, ln j ≤ (T j).length) (hTb : ∀ j, W.bytes (T j)) (hTs : ∀ j, (T j).length ≤ 1048576) (hn : n ≤ 1048576) (hM : fo + nf ≤ M) (hnf : nf ≤ 1048576) (htl : to + nt ≤ tl.length) (hnt : nt ≤ 1048576) (htr : ∀ j, -9223372036854775808 ≤ List.getD tl j 0 ∧ List.getD tl j 0 < 9223372036854775808) : CodeOk Try.prog 136 213 (kAt (kOf Try.prog Try.f8) [true, true, true, true, false, true, false]) (LQ0 o n N ln T fo nf M fr tl to nt) (.exit 0) (LPI o n N ln T fo nf M fr tl to nt) := by
  have h : CodeOk Try.prog 136 213 (kAt (kOf Try.prog Try.f8) [true, true, true, true, false, true, false]) (rdI o n N ln T fo nf M fr tl to nt (.inr (0, [], 0, 0))) (.exit 0) (LPI o n N ln T fo nf M fr tl to nt) := by
    refine LZ_by (rdI o n N ln T fo nf M fr tl to nt) rdInv rdMu (by simp) ?_ _ ⟨by omega, by simp, by omega, W.bytes_nil⟩
    rintro (w | ⟨w, hh, pp, cc⟩) hx
    · exact rd_stepZ o n N ln T fo nf M fr tl to nt hN hln hTb hTs hn hM hnf htl hnt htr w hx
    · exact rd_stepQ o n N ln T fo nf M fr tl to nt hN hln hTb hTs hn hM hnf htl hnt htr w hh pp cc hx.1 hx.2.1 hx.2.2.1 hx.2.2.2
  refine CodeOk.wnilC (nx' := 214) 21 0 1 213 (.ints .u8 []) rfl (by decide) (by decide) (by decide) rfl rfl ?_
  exact CodeOk.wnilC (nx' := 229) 69 0 1 214 (.ints .u8 []) rfl (by decide) (by decide) (by decide) rfl rfl h
end Go.Proofs.Ytmfnldkiaodkpaa.Vm

namespace Go.Proofs.Ytmfnldkiaodkpaa.Vm
open Go Go.Proofs Go.Proofs.Ytmfnldkiaodkpaa
set_option maxRecDepth 100000
theorem recordReads (o n N : Nat) (ln : Nat → Nat) (T : Nat → List Int) (fo nf M : Nat) (fr : Nat → Bool) (tl : List Int) (to nt : Nat)
    (hN : o + n ≤ N)
    (hln : ∀ j, ln j ≤ (T j).length)
    (hTb : ∀ j, W.bytes (T j))
    (hTs : ∀ j, (T j).length ≤ 1048576)
    (hn : n ≤ 1048576)
    (hM : fo + nf ≤ M)
    (hnf : nf ≤ 1048576)
    (htl : to + nt ≤ tl.length)
    (hnt : nt ≤ 1048576)
    (htr : ∀ j, -9223372036854775808 ≤ List.getD tl j 0 ∧ List.getD tl j 0 < 9223372036854775808) :
    Contract0 Try.prog 8 [(.c (.sl 1 0 o n 1)), (.c (.sl 3 0 fo nf 1)), (.c (.sl 4 0 to nt 1))] [(1, (.one ⟨false, false, (.gen N (fun j_ => (.sl 2 j_ 0 (ln j_) 1)))⟩)), (2, (.many (fun j_ => some ⟨false, false, (.ints .u8 (T j_))⟩))), (3, (.one ⟨false, false, (.gen M (fun j_ => (.bool (fr j_))))⟩)), (4, (.one ⟨false, false, (.ints .i64 tl)⟩))] 5 (.c (.bool (true))) [2] [] :=
  Contract0.of_frun (res := (.c (.bool (true)))) (up := []) (kill := [2]) (n0 := 5) (m := [(1, (.one ⟨false, false, (.gen N (fun j_ => (.sl 2 j_ 0 (ln j_) 1)))⟩)), (2, (.many (fun j_ => some ⟨false, false, (.ints .u8 (T j_))⟩))), (3, (.one ⟨false, false, (.gen M (fun j_ => (.bool (fr j_))))⟩)), (4, (.one ⟨false, false, (.ints .i64 tl)⟩))]) (args := [(.c (.sl 1 0 o n 1)), (.c (.sl 3 0 fo nf 1)), (.c (.sl 4 0 to nt 1))]) (fn := Try.f8) (c := bodyOf Try.f8) (fuel := 300) (k := kOf Try.prog Try.f8) (outs := []) (hs := [(1, ⟨.call [] (.c (.ptr 21 0 0)) [] [(21, (.one ⟨true, true, (.cells [.nils, (.bool (false))])⟩))], none⟩), (6, ⟨.call [] (.c (.bool (true))) [] [], none⟩), (14, ⟨.sum ⟨[0, 1, 2, 7, 8, 6, 9], [1, 2, 3, 4, 21, 69], [], 213⟩ (.exit 0) (LPI o n N ln T fo nf M fr tl to nt), none⟩)])
    (cs := [CodeOk Try.prog 136 213 (kAt (kOf Try.prog Try.f8) [true, true, true, true, false, true, false]) (LQ0 o n N ln T fo nf M fr tl to nt) (.exit 0) (LPI o n N ln T fo nf M fr tl to nt),
      Contract Try.prog 35 [] [] 101 (.c (.bool (true))) [] [],
      Contract Try.prog 39 [] [] 21 (.c (.ptr 21 0 0)) [] [(21, (.one ⟨true, true, (.cells [.nils, (.bool (false))])⟩))]])
    mixed Try.func8 (by kernel_rfl) (by kernel_rfl) (by kernel_rfl) (by kernel_rfl) (by kernel_rfl) ⟨(reads_loop o n N ln T fo nf M fr tl to nt (by omega) (by omega) (by omega) (by omega) (by omega) (by omega) (by omega) (by omega) (by omega) (by omega)), Contract0.inst known16 [] [] [] [] (by kernel_rfl) (by kernel_rfl) (by kernel_rfl) (by kernel_rfl) (by kernel_rfl), Contract0.inst newReader [] [] [(1, 21)] [] (by kernel_rfl) (by kernel_rfl) (by kernel_rfl) (by kernel_rfl) (by kernel_rfl), trivial⟩


end Go.Proofs.Ytmfnldkiaodkpaa.Vm

namespace Go.Proofs.Ytmfnldkiaodkpaa.Vm
open Go Go.Proofs Go.Proofs.Ytmfnldkiaodkpaa
theorem recordReads_law (N : Nat) (ln : Nat → Nat) (T : Nat → List Int) (n : Nat) (hN : 0 + n ≤ N) (hln : ∀ j, ln j ≤ (T j).length) (hTb : ∀ j, W.bytes (T j)) (hTs : ∀ j, (T j).length ≤ 1048576) (hn : n ≤ 1048576)
    (fr : Nat → Bool) (M nf : Nat) (hM : 0 + nf ≤ M) (hnf : nf ≤ 1048576)
    (tl : List Int) (nt : Nat) (htl : 0 + nt ≤ tl.length) (htr : ∀ j, -9223372036854775808 ≤ List.getD tl j 0 ∧ List.getD tl j 0 < 9223372036854775808) (hts : tl.length ≤ 1048576) :
    Contract0 Try.prog 8 [(.c (.sl 1 0 0 n 1)), (.c (.sl 3 0 0 nf 1)), (.c (.sl 4 0 0 nt 1))] (memS [.fam ⟨false, false, .gen N (fun j => C.sl 2 j 0 (ln j) 1)⟩ (fun j => ⟨false, false, .ints .u8 (T j)⟩), .one ⟨false, false, .gen M (fun j => C.bool (fr j))⟩, .one ⟨false, false, .ints .i64 tl⟩] 1) 5 (.c (.bool true)) [2] [] :=
  recordReads 0 n N ln T 0 nf M fr tl 0 nt hN hln hTb hTs hn hM hnf htl (by omega) htr
end Go.Proofs.Ytmfnldkiaodkpaa.Vm
