/- What functions of the program come to: parts of the walk (Ha). -/
import Derived.Test.YtmfnldkiaodkpaaFb
import Derived.Test.YtmfnldkiaodkpaaRb
import Derived.Test.YtmfnldkiaodkpaaVn
import Derived.Test.YtmfnldkiaodkpaaVmc
import Derived.KernelRfl
import Derived.Test.YtmfnldkiaodkpaaProg
set_option linter.unusedSimpArgs false
set_option linter.unusedVariables false
namespace Go.Proofs.Ytmfnldkiaodkpaa.Vm
open Go Go.Proofs Go.Proofs.Ytmfnldkiaodkpaa
set_option maxRecDepth 100000
def LZiI (o n N : Nat) (ln : Nat → Nat) (T : Nat → List Int) (fo nf M : Nat) (fr : Nat → Bool) (tl : List Int) (to nt w : Nat) (m : Int) : S0 :=
  ⟨[(0, (.c (.sl 1 0 o n 1))), (1, (.c (.sl 3 0 fo nf 1))), (2, (.c (.sl 4 0 to nt 1))), (7, (.c (.ptr 21 0 0))), (8, (.c (.ptr 69 0 0))), (9, (.c (.int .i64 (w : Int)))), (6, (.c (.bool false))), (15, (.c (.int .i64 m)))], [(1, (.one ⟨false, false, (.gen N (fun j_ => (.sl 2 j_ 0 (ln j_) 1)))⟩)), (2, (.many (fun j_ => some ⟨false, false, (.ints .u8 (T j_))⟩))), (3, (.one ⟨false, false, (.gen M (fun j_ => (.bool (fr j_))))⟩)), (4, (.one ⟨false, false, (.ints .i64 tl)⟩)), (21, (.one ⟨true, true, .cells [.nils, .bool true]⟩)), (69, (.one ⟨true, true, .cells [.nils, .bool true]⟩))], 100000⟩
theorem LZi_by {α : Type} (I : α → S0) (Inv : α → Prop) (μ : α → Nat) {ex : Ex} {s' : S0} (hex : ex ≠ .normal)
    (step : ∀ x, Inv x → (∃ y, Inv y ∧ μ y < μ x ∧ CodeOk Try.prog 136 100000 (kAt (kOf Try.prog Try.f8) [true, true, true, true, false, true, false, false, true, false, false, true, true, true, true, true, false, false]) (I x) .normal (I y)) ∨ CodeOk Try.prog 136 100000 (kAt (kOf Try.prog Try.f8) [true, true, true, true, false, true, false, false, true, false, false, true, true, true, true, true, false, false]) (I x) ex s') (x : α) (hx : Inv x) :
    CodeOk Try.prog 136 100000 (kAt (kOf Try.prog Try.f8) [true, true, true, true, false, true, false, false, true, false, false, true, true, true, true, true, false]) (I x) ex s' := by
  have hk : (kAt (kOf Try.prog Try.f8) [true, true, true, true, false, true, false, false, true, false, false, true, true, true, true, true, false]) = .loop (kAt (kOf Try.prog Try.f8) [true, true, true, true, false, true, false, false, true, false, false, true, true, true, true, true, false, false]) := by kernel_rfl
  rw [hk]
  exact CodeOk.loop I Inv μ hex step x hx
theorem LZi_rt (o n N : Nat) (ln : Nat → Nat) (T : Nat → List Int) (fo nf M : Nat) (fr : Nat → Bool) (tl : List Int) (to nt w : Nat) (m : Int)
    (hN : o + n ≤ N)
    (hln : ∀ j, ln j ≤ (T j).length)
    (hTb : ∀ j, W.bytes (T j))
    (hTs : ∀ j, (T j).length ≤ 1048576)
    (hn : n ≤ 1048576)
    (hM : fo + nf ≤ M)
    (hnf : nf ≤ 1048576)
    (htl : to + nt ≤ tl.length)
    (hnt : nt ≤ 1048576)
    (htr : ∀ j, -9223372036854775808 ≤ List.getD tl j 0 ∧ List.getD tl j 0 < 9223372036854775808)
    (hw : w ≤ 30)
    (hm : 0 ≤ m ∧ m ≤ 4)
    (h1 : (m > (0 : Int))) :
    CodeOk Try.prog 136 100000 (kAt (kOf Try.prog Try.f8) [true, true, true, true, false, true, false, false, true, false, false, true, true, true, true, true, false, false]) (LZiI o n N ln T fo nf M fr tl to nt w m) .normal (LZiI o n N ln T fo nf M fr tl to nt w (m - 1)) :=
  CodeOk.of_runs (fuel := 300) (v := ⟨[0, 1, 2, 7, 8, 9, 6, 15], [1, 2, 3, 4, 21, 69], [], 100000⟩) (hs := [(1, ⟨.auto, some (.c (.bool (true)))⟩), (4, ⟨.call [21] (.tup [(.c .nils), (.c (.bool (false)))]) [] [(21, (.one ⟨true, true, (.cells [.nils, (.bool (true))])⟩))], none⟩), (11, ⟨.call [69] (.tup [(.c .nils), (.c (.bool (false)))]) [] [(69, (.one ⟨true, true, (.cells [.nils, (.bool (true))])⟩))], none⟩), (29, ⟨.call [21] (.c (.int .i64 0)) [] [], none⟩), (39, ⟨.auto, some (.c (.int .i64 (m - 1)))⟩)])
    (cs := [EI .i64 (IntKind.wrap IntKind.i64 (m - 1)) (m - 1),
      Contract Try.prog 44 [(.c (.ptr 21 0 0))] [(21, (.one ⟨true, true, (.cells [.nils, (.bool (true))])⟩))] 100448 (.c (.int .i64 0)) [] [],
      Contract Try.prog 46 [(.c (.ptr 69 0 0))] [(69, (.one ⟨true, true, (.cells [.nils, (.bool (true))])⟩))] 100160 (.tup [(.c .nils), (.c (.bool (false)))]) [] [(69, (.one ⟨true, true, (.cells [.nils, (.bool (true))])⟩))],
      Contract Try.prog 45 [(.c (.ptr 21 0 0))] [(21, (.one ⟨true, true, (.cells [.nils, (.bool (true))])⟩))] 100048 (.tup [(.c .nils), (.c (.bool (false)))]) [] [(21, (.one ⟨true, true, (.cells [.nils, (.bool (true))])⟩))],
      EB (decide (m > 0)) true])
    mixed (by kernel_rfl) ⟨.mk (by simp only [addO_eq, mulE_eq, mulE_one, Int.toNat_natCast, IntKind.wrap_i64, mmin, mmax]; omega), Contract0.inst (heldB true) [.b 21 1 true []] [none] [] [] (by kernel_rfl) (by kernel_rfl) (by kernel_rfl) (by kernel_rfl) (by kernel_rfl), Contract0.inst (rnexB true) [.b 69 1 false []] [none] [] [] (by kernel_rfl) (by kernel_rfl) (by kernel_rfl) (by kernel_rfl) (by kernel_rfl), Contract0.inst (nexB true) [.b 21 1 false []] [none] [] [] (by kernel_rfl) (by kernel_rfl) (by kernel_rfl) (by kernel_rfl) (by kernel_rfl), .mk (decide_eq_true h1), trivial⟩
theorem LZi_xf (o n N : Nat) (ln : Nat → Nat) (T : Nat → List Int) (fo nf M : Nat) (fr : Nat → Bool) (tl : List Int) (to nt w : Nat) (m : Int)
    (hN : o + n ≤ N)
    (hln : ∀ j, ln j ≤ (T j).length)
    (hTb : ∀ j, W.bytes (T j))
    (hTs : ∀ j, (T j).length ≤ 1048576)
    (hn : n ≤ 1048576)
    (hM : fo + nf ≤ M)
    (hnf : nf ≤ 1048576)
    (htl : to + nt ≤ tl.length)
    (hnt : nt ≤ 1048576)
    (htr : ∀ j, -9223372036854775808 ≤ List.getD tl j 0 ∧ List.getD tl j 0 < 9223372036854775808)
    (hw : w ≤ 30)
    (hm : 0 ≤ m ∧ m ≤ 4)
    (h1 : (¬m > (0 : Int))) :
    CodeOk Try.prog 136 100000 (kAt (kOf Try.prog Try.f8) [true, true, true, true, false, true, false, false, true, false, false, true, true, true, true, true, false, false]) (LZiI o n N ln T fo nf M fr tl to nt w m) (.exit 2) (LZiI o n N ln T fo nf M fr tl to nt w m) :=
  CodeOk.of_runs (fuel := 300) (v := ⟨[0, 1, 2, 7, 8, 9, 6, 15], [1, 2, 3, 4, 21, 69], [], 100000⟩) (hs := [(1, ⟨.auto, some (.c (.bool (false)))⟩)])
    (cs := [EB (decide (m > 0)) false])
    mixed (by kernel_rfl) ⟨.mk (decide_eq_false h1), trivial⟩

def LXiI (o n N : Nat) (ln : Nat → Nat) (T : Nat → List Int) (fo nf M : Nat) (fr : Nat → Bool) (tl : List Int) (to nt w : Nat) (m : Int) (hh : List Int) (pp cc : Nat) : S0 :=
  ⟨[(0, (.c (.sl 1 0 o n 1))), (1, (.c (.sl 3 0 fo nf 1))), (2, (.c (.sl 4 0 to nt 1))), (7, (.c (.ptr 21 0 0))), (8, (.c (.ptr 69 0 0))), (9, (.c (.int .i64 (w : Int)))), (6, (.c (.bool false))), (15, (.c (.int .i64 m)))], [(100001, (.one ⟨true, false, (.ints .u8 hh)⟩)), (100000, (.one ⟨true, false, (.ints .u8 hh)⟩)), (1, (.one ⟨false, false, (.gen N (fun j_ => (.sl 2 j_ 0 (ln j_) 1)))⟩)), (2, (.many (fun j_ => some ⟨false, false, (.ints .u8 (T j_))⟩))), (3, (.one ⟨false, false, (.gen M (fun j_ => (.bool (fr j_))))⟩)), (4, (.one ⟨false, false, (.ints .i64 tl)⟩)), (21, (.one ⟨true, true, .cells [.sl 100000 0 pp cc 1, .bool false]⟩)), (69, (.one ⟨true, true, .cells [.sl 100001 0 pp cc 1, .bool false]⟩))], 100016⟩
theorem LXi_by {α : Type} (I : α → S0) (Inv : α → Prop) (μ : α → Nat) {ex : Ex} {s' : S0} (hex : ex ≠ .normal)
    (step : ∀ x, Inv x → (∃ y, Inv y ∧ μ y < μ x ∧ CodeOk Try.prog 136 100000 (kAt (kOf Try.prog Try.f8) [true, true, true, true, false, true, false, false, true, false, false, true, true, true, true, true, false, false]) (I x) .normal (I y)) ∨ CodeOk Try.prog 136 100000 (kAt (kOf Try.prog Try.f8) [true, true, true, true, false, true, false, false, true, false, false, true, true, true, true, true, false, false]) (I x) ex s') (x : α) (hx : Inv x) :
    CodeOk Try.prog 136 100000 (kAt (kOf Try.prog Try.f8) [true, true, true, true, false, true, false, false, true, false, false, true, true, true, true, true, false]) (I x) ex s' := by
  have hk : (kAt (kOf Try.prog Try.f8) [true, true, true, true, false, true, false, false, true, false, false, true, true, true, true, true, false]) = .loop (kAt (kOf Try.prog Try.f8) [true, true, true, true, false, true, false, false, true, false, false, true, true, true, true, true, false, false]) := by kernel_rfl
  rw [hk]
  exact CodeOk.loop I Inv μ hex step x hx
theorem LXi_rtc0 (o n N : Nat) (ln : Nat → Nat) (T : Nat → List Int) (fo nf M : Nat) (fr : Nat → Bool) (tl : List Int) (to nt w : Nat) (m : Int) (hh : List Int) (pp cc : Nat)
    (hN : o + n ≤ N)
    (hln : ∀ j, ln j ≤ (T j).length)
    (hTb : ∀ j, W.bytes (T j))
    (hTs : ∀ j, (T j).length ≤ 1048576)
    (hn : n ≤ 1048576)
    (hM : fo + nf ≤ M)
    (hnf : nf ≤ 1048576)
    (htl : to + nt ≤ tl.length)
    (hnt : nt ≤ 1048576)
    (htr : ∀ j, -9223372036854775808 ≤ List.getD tl j 0 ∧ List.getD tl j 0 < 9223372036854775808)
    (hw : w ≤ 30)
    (hm : 0 ≤ m ∧ m ≤ 4)
    (hpc : pp + cc ≤ hh.length)
    (hcc : cc ≤ 1073741824)
    (hhb : W.bytes hh)
    (h2 : (m > (0 : Int)))
    (c3 : (¬((2 : Nat) ≤ cc ∧ (2 : Nat) + W.be2 hh pp ≤ cc))) :
    CodeOk Try.prog 136 100000 (kAt (kOf Try.prog Try.f8) [true, true, true, true, false, true, false, false, true, false, false, true, true, true, true, true, false, false]) (LXiI o n N ln T fo nf M fr tl to nt w m hh pp cc) .normal (LXiI o n N ln T fo nf M fr tl to nt w (m - 1) hh pp cc) :=
  CodeOk.of_runs (fuel := 300) (v := ⟨[0, 1, 2, 7, 8, 9, 6, 15], [100001, 100000, 1, 2, 3, 4, 21, 69], [(100000, 100000), (100001, 100001)], 100016⟩) (hs := [(1, ⟨.auto, some (.c (.bool (true)))⟩), (4, ⟨.call [21, 100000] (.tup [(.c .nils), (.c (.bool (false)))]) [] [(21, (.one ⟨true, true, (.cells [(.sl 100000 0 pp cc 1), (.bool (false))])⟩)), (100000, (.one ⟨true, false, (.ints .u8 hh)⟩))], none⟩), (11, ⟨.call [69, 100001] (.tup [(.c .nils), (.c (.bool (false)))]) [] [(69, (.one ⟨true, true, (.cells [(.sl 100001 0 pp cc 1), (.bool (false))])⟩)), (100001, (.one ⟨true, false, (.ints .u8 hh)⟩))], none⟩), (29, ⟨.call [21, 100000] (.c (.int .i64 (↑cc))) [] [], none⟩), (35, ⟨.auto, some (.c (.bool (false)))⟩), (39, ⟨.auto, some (.c (.int .i64 (m - 1)))⟩)])
    (cs := [EI .i64 (IntKind.wrap IntKind.i64 (m - 1)) (m - 1),
      EB ((↑cc : Int) != (↑cc : Int)) false,
      Contract Try.prog 44 [(.c (.ptr 21 0 0))] [(21, (.one ⟨true, true, (.cells [(.sl 100000 0 pp cc 1), (.bool (false))])⟩)), (100000, (.one ⟨true, false, (.ints .u8 hh)⟩))] 100464 (.c (.int .i64 (↑cc))) [] [],
      Contract Try.prog 46 [(.c (.ptr 69 0 0))] [(69, (.one ⟨true, true, (.cells [(.sl 100001 0 pp cc 1), (.bool (false))])⟩)), (100001, (.one ⟨true, false, (.ints .u8 hh)⟩))] 100176 (.tup [(.c .nils), (.c (.bool (false)))]) [] [(69, (.one ⟨true, true, (.cells [(.sl 100001 0 pp cc 1), (.bool (false))])⟩)), (100001, (.one ⟨true, false, (.ints .u8 hh)⟩))],
      Contract Try.prog 45 [(.c (.ptr 21 0 0))] [(21, (.one ⟨true, true, (.cells [(.sl 100000 0 pp cc 1), (.bool (false))])⟩)), (100000, (.one ⟨true, false, (.ints .u8 hh)⟩))] 100064 (.tup [(.c .nils), (.c (.bool (false)))]) [] [(21, (.one ⟨true, true, (.cells [(.sl 100000 0 pp cc 1), (.bool (false))])⟩)), (100000, (.one ⟨true, false, (.ints .u8 hh)⟩))],
      EB (decide (m > 0)) true])
    mixed (by kernel_rfl) ⟨.mk (by simp only [addO_eq, mulE_eq, mulE_one, Int.toNat_natCast, IntKind.wrap_i64, mmin, mmax]; omega), .mk (bne_f (Decidable.of_not_not (by omega))), Contract0.inst (heldY hh pp cc) [.b 21 1 true [], .b 100000 2 true []] [none] [] [] (by kernel_rfl) (by kernel_rfl) (by kernel_rfl) (by kernel_rfl) (by kernel_rfl), Contract0.inst (rnexN true hh pp cc (by omega) (by omega) (by omega) (by omega)) [.b 69 1 false [], .b 100001 2 false []] [none] [] [] (by kernel_rfl) (by kernel_rfl) (by kernel_rfl) (by kernel_rfl) (by kernel_rfl), Contract0.inst (nexN true hh pp cc (by omega) (by omega) (by omega) c3) [.b 21 1 false [], .b 100000 2 false []] [none] [] [] (by kernel_rfl) (by kernel_rfl) (by kernel_rfl) (by kernel_rfl) (by kernel_rfl), .mk (decide_eq_true h2), trivial⟩
theorem LXi_rtc1 (o n N : Nat) (ln : Nat → Nat) (T : Nat → List Int) (fo nf M : Nat) (fr : Nat → Bool) (tl : List Int) (to nt w : Nat) (m : Int) (hh : List Int) (pp cc : Nat)
    (hN : o + n ≤ N)
    (hln : ∀ j, ln j ≤ (T j).length)
    (hTb : ∀ j, W.bytes (T j))
    (hTs : ∀ j, (T j).length ≤ 1048576)
    (hn : n ≤ 1048576)
    (hM : fo + nf ≤ M)
    (hnf : nf ≤ 1048576)
    (htl : to + nt ≤ tl.length)
    (hnt : nt ≤ 1048576)
    (htr : ∀ j, -9223372036854775808 ≤ List.getD tl j 0 ∧ List.getD tl j 0 < 9223372036854775808)
    (hw : w ≤ 30)
    (hm : 0 ≤ m ∧ m ≤ 4)
    (hpc : pp + cc ≤ hh.length)
    (hcc : cc ≤ 1073741824)
    (hhb : W.bytes hh)
    (h2 : (m > (0 : Int)))
    (c3 : ((2 : Nat) ≤ cc ∧ (2 : Nat) + W.be2 hh pp ≤ cc)) :
    CodeOk Try.prog 136 100000 (kAt (kOf Try.prog Try.f8) [true, true, true, true, false, true, false, false, true, false, false, true, true, true, true, true, false, false]) (LXiI o n N ln T fo nf M fr tl to nt w m hh pp cc) .normal (LXiI o n N ln T fo nf M fr tl to nt w (m - 1) hh (pp + (2 + W.be2 hh pp)) (cc - (2 + W.be2 hh pp))) :=
  CodeOk.of_runs (fuel := 300) (v := ⟨[0, 1, 2, 7, 8, 9, 6, 15], [100001, 100000, 1, 2, 3, 4, 21, 69], [(100000, 100000), (100001, 100001)], 100016⟩) (hs := [(1, ⟨.auto, some (.c (.bool (true)))⟩), (4, ⟨.call [21, 100000] (.tup [(.c (.sl 100064 0 0 (W.be2 hh pp) 1)), (.c (.bool (true)))]) [] [(21, (.one ⟨true, true, (.cells [(.sl 100000 0 (pp + (2 + W.be2 hh pp)) (cc - (2 + W.be2 hh pp)) 1), (.bool (false))])⟩)), (100000, (.one ⟨true, false, (.ints .u8 hh)⟩)), (100064, (.one ⟨true, false, (.ints .u8 (List.take (W.be2 hh pp) (List.drop (pp + 2) hh)))⟩))], none⟩), (11, ⟨.call [69, 100001] (.tup [(.c (.sl 100001 0 (pp + 2) (W.be2 hh pp) 1)), (.c (.bool (true)))]) [] [(69, (.one ⟨true, true, (.cells [(.sl 100001 0 (pp + (2 + W.be2 hh pp)) (cc - (2 + W.be2 hh pp)) 1), (.bool (false))])⟩)), (100001, (.one ⟨true, false, (.ints .u8 hh)⟩))], none⟩), (22, ⟨.ask, none⟩), (24, ⟨.ask, none⟩), (25, ⟨.ask, some (.c (.bool (false)))⟩), (29, ⟨.call [21, 100000] (.c (.int .i64 (↑(cc - (2 + W.be2 hh pp))))) [] [], none⟩), (35, ⟨.auto, some (.c (.bool (false)))⟩), (39, ⟨.auto, some (.c (.int .i64 (m - 1)))⟩)])
    (cs := [EI .i64 (IntKind.wrap IntKind.i64 (m - 1)) (m - 1),
      EB ((↑(cc - (2 + W.be2 hh pp)) : Int) != (↑(cc - (2 + W.be2 hh pp)) : Int)) false,
      Contract Try.prog 44 [(.c (.ptr 21 0 0))] [(21, (.one ⟨true, true, (.cells [(.sl 100000 0 (pp + (2 + W.be2 hh pp)) (cc - (2 + W.be2 hh pp)) 1), (.bool (false))])⟩)), (100000, (.one ⟨true, false, (.ints .u8 hh)⟩))] 100464 (.c (.int .i64 (↑(cc - (2 + W.be2 hh pp))))) [] [],
      EB (!ByteArray.toList { data := List.toArray (List.map (fun n => UInt8.ofNat (Int.toNat n)) (List.take (W.be2 hh pp) (List.drop 0 (List.take (W.be2 hh pp) (List.drop (pp + 2) hh))))) } == ByteArray.toList { data := List.toArray (List.map (fun n => UInt8.ofNat (Int.toNat n)) (List.take (W.be2 hh pp) (List.drop (pp + 2) hh))) }) false,
      (pp + (2 : Nat) + W.be2 hh pp ≤ List.length hh),
      ((0 : Nat) + W.be2 hh pp ≤ List.length (List.take (W.be2 hh pp) (List.drop (pp + (2 : Nat)) hh))),
      Contract Try.prog 46 [(.c (.ptr 69 0 0))] [(69, (.one ⟨true, true, (.cells [(.sl 100001 0 pp cc 1), (.bool (false))])⟩)), (100001, (.one ⟨true, false, (.ints .u8 hh)⟩))] 100176 (.tup [(.c (.sl 100001 0 (pp + 2) (W.be2 hh pp) 1)), (.c (.bool (true)))]) [] [(69, (.one ⟨true, true, (.cells [(.sl 100001 0 (pp + (2 + W.be2 hh pp)) (cc - (2 + W.be2 hh pp)) 1), (.bool (false))])⟩)), (100001, (.one ⟨true, false, (.ints .u8 hh)⟩))],
      Contract Try.prog 45 [(.c (.ptr 21 0 0))] [(21, (.one ⟨true, true, (.cells [(.sl 100000 0 pp cc 1), (.bool (false))])⟩)), (100000, (.one ⟨true, false, (.ints .u8 hh)⟩))] 100064 (.tup [(.c (.sl 100064 0 0 (W.be2 hh pp) 1)), (.c (.bool (true)))]) [] [(21, (.one ⟨true, true, (.cells [(.sl 100000 0 (pp + (2 + W.be2 hh pp)) (cc - (2 + W.be2 hh pp)) 1), (.bool (false))])⟩)), (100000, (.one ⟨true, false, (.ints .u8 hh)⟩)), (100064, (.one ⟨true, false, (.ints .u8 (List.take (W.be2 hh pp) (List.drop (pp + 2) hh)))⟩))],
      EB (decide (m > 0)) true])
    mixed (by kernel_rfl) ⟨.mk (by simp only [addO_eq, mulE_eq, mulE_one, Int.toNat_natCast, IntKind.wrap_i64, mmin, mmax]; omega), .mk (bne_f (Decidable.of_not_not (by omega))), Contract0.inst (heldY hh (pp + (2 + W.be2 hh pp)) (cc - (2 + W.be2 hh pp))) [.b 21 1 true [], .b 100000 2 true []] [none] [] [] (by kernel_rfl) (by kernel_rfl) (by kernel_rfl) (by kernel_rfl) (by kernel_rfl), .mk (not_f (strEq_t (by simp only [List.take_take, Nat.min_self, List.drop_zero]))), (by omega), (by simp only [and_true, List.length_set, List.length_append, List.length_replicate, List.length_take, List.length_drop, List.length_map, List.length_cons, List.length_nil, List.length_zipWith, splice_len1, W.le_len, W.bts_len, Int.toNat_natCast, addO_eq, mulE_eq, mulE_one, W.once_len, W.block_len, W.p8_len, W.apply_len, W.boxTag_len, W.box_len, W.nonce_len, W.hand_len, W.tag_len, W.padd_len, W.frm_len]; omega), Contract0.inst (rnexY true hh pp cc (by omega) (by omega) (by omega) (by omega)) [.b 69 1 false [], .b 100001 2 false []] [none] [] [] (by kernel_rfl) (by kernel_rfl) (by kernel_rfl) (by kernel_rfl) (by kernel_rfl), Contract0.inst (nexY true hh pp cc (by omega) (by omega) (by omega) c3) [.b 21 1 false [], .b 100000 2 false []] [none] [(3, 100064)] [] (by kernel_rfl) (by kernel_rfl) (by kernel_rfl) (by kernel_rfl) (by kernel_rfl), .mk (decide_eq_true h2), trivial⟩
theorem LXi_xf (o n N : Nat) (ln : Nat → Nat) (T : Nat → List Int) (fo nf M : Nat) (fr : Nat → Bool) (tl : List Int) (to nt w : Nat) (m : Int) (hh : List Int) (pp cc : Nat)
    (hN : o + n ≤ N)
    (hln : ∀ j, ln j ≤ (T j).length)
    (hTb : ∀ j, W.bytes (T j))
    (hTs : ∀ j, (T j).length ≤ 1048576)
    (hn : n ≤ 1048576)
    (hM : fo + nf ≤ M)
    (hnf : nf ≤ 1048576)
    (htl : to + nt ≤ tl.length)
    (hnt : nt ≤ 1048576)
    (htr : ∀ j, -9223372036854775808 ≤ List.getD tl j 0 ∧ List.getD tl j 0 < 9223372036854775808)
    (hw : w ≤ 30)
    (hm : 0 ≤ m ∧ m ≤ 4)
    (hpc : pp + cc ≤ hh.length)
    (hcc : cc ≤ 1073741824)
    (hhb : W.bytes hh)
    (h2 : (¬m > (0 : Int))) :
    CodeOk Try.prog 136 100000 (kAt (kOf Try.prog Try.f8) [true, true, true, true, false, true, false, false, true, false, false, true, true, true, true, true, false, false]) (LXiI o n N ln T fo nf M fr tl to nt w m hh pp cc) (.exit 2) (LXiI o n N ln T fo nf M fr tl to nt w m hh pp cc) :=
  CodeOk.of_runs (fuel := 300) (v := ⟨[0, 1, 2, 7, 8, 9, 6, 15], [100001, 100000, 1, 2, 3, 4, 21, 69], [(100000, 100000), (100001, 100001)], 100016⟩) (hs := [(1, ⟨.auto, some (.c (.bool (false)))⟩)])
    (cs := [EB (decide (m > 0)) false])
    mixed (by kernel_rfl) ⟨.mk (decide_eq_false h2), trivial⟩

end Go.Proofs.Ytmfnldkiaodkpaa.Vm

namespace Go.Proofs.Ytmfnldkiaodkpaa.W
/-- where a reader stands behind so many calls of Next -/
def nxt (h : List Int) : Nat → Nat × Nat → Nat × Nat
  | 0, s => s
  | k + 1, s => if 2 ≤ s.2 ∧ 2 + be2 h s.1 ≤ s.2 then nxt h k (s.1 + (2 + be2 h s.1), s.2 - (2 + be2 h s.1)) else nxt h k s
def nxP (h : List Int) (p c : Nat) (m : Int) : Nat := (nxt h m.toNat (p, c)).1
def nxC (h : List Int) (p c : Nat) (m : Int) : Nat := (nxt h m.toNat (p, c)).2
theorem nxt_le (h : List Int) : ∀ (k : Nat) (s : Nat × Nat), s.1 + s.2 ≤ h.length → (nxt h k s).1 + (nxt h k s).2 ≤ h.length ∧ (nxt h k s).2 ≤ s.2
  | 0, s, hs => ⟨hs, Nat.le_refl _⟩
  | k + 1, s, hs => by
    unfold nxt
    split
    · rename_i hc
      have e := nxt_le h k (s.1 + (2 + be2 h s.1), s.2 - (2 + be2 h s.1)) (by show s.1 + (2 + be2 h s.1) + (s.2 - (2 + be2 h s.1)) ≤ _; omega)
      refine ⟨e.1, ?_⟩
      have e2 := e.2
      have e3 : (s.1 + (2 + be2 h s.1), s.2 - (2 + be2 h s.1)).2 ≤ s.2 := by show s.2 - _ ≤ s.2; omega
      omega
    · exact nxt_le h k s hs
theorem nx_le {h : List Int} {p c : Nat} (m : Int) (hp : p + c ≤ h.length) : nxP h p c m + nxC h p c m ≤ h.length ∧ nxC h p c m ≤ c := nxt_le h m.toNat (p, c) hp
end Go.Proofs.Ytmfnldkiaodkpaa.W
namespace Go.Proofs.Ytmfnldkiaodkpaa.Vm
open Go Go.Proofs Go.Proofs.Ytmfnldkiaodkpaa
theorem lzi (o n N : Nat) (ln : Nat → Nat) (T : Nat → List Int) (fo nf M : Nat) (fr : Nat → Bool) (tl : List Int) (to nt w : Nat) (m : Int)
    (hN : o + n ≤ N) (hln : ∀ j, ln j ≤ (T j).length) (hTb : ∀ j, W.bytes (T j)) (hTs : ∀ j, (T j).length ≤ 1048576) (hn : n ≤ 1048576)
    (hM : fo + nf ≤ M) (hnf : nf ≤ 1048576) (htl : to + nt ≤ tl.length) (hnt : nt ≤ 1048576)
    (htr : ∀ j, -9223372036854775808 ≤ List.getD tl j 0 ∧ List.getD tl j 0 < 9223372036854775808) (hw : w ≤ 30) (hm : 0 ≤ m ∧ m ≤ 4) :
    CodeOk Try.prog 136 100000 (kAt (kOf Try.prog Try.f8) [true, true, true, true, false, true, false, false, true, false, false, true, true, true, true, true, false]) (LZiI o n N ln T fo nf M fr tl to nt w m) (.exit 2) (LZiI o n N ln T fo nf M fr tl to nt w 0) := by
  refine LZi_by (I := fun x : Int => LZiI o n N ln T fo nf M fr tl to nt w x) (Inv := fun x => 0 ≤ x ∧ x ≤ 4) (μ := fun x => x.toNat) (by simp) ?_ m hm
  intro x hx
  by_cases h : x > 0
  · exact .inl ⟨x - 1, ⟨by omega, by omega⟩, by show (x - 1).toNat < x.toNat; omega, LZi_rt o n N ln T fo nf M fr tl to nt w x hN hln hTb hTs hn hM hnf htl hnt htr hw hx h⟩
  · have e : x = 0 := by omega
    subst e
    exact .inr (LZi_xf o n N ln T fo nf M fr tl to nt w 0 hN hln hTb hTs hn hM hnf htl hnt htr hw hx h)
theorem lxi (o n N : Nat) (ln : Nat → Nat) (T : Nat → List Int) (fo nf M : Nat) (fr : Nat → Bool) (tl : List Int) (to nt w : Nat) (m : Int) (hh : List Int) (pp cc : Nat)
    (hN : o + n ≤ N) (hln : ∀ j, ln j ≤ (T j).length) (hTb : ∀ j, W.bytes (T j)) (hTs : ∀ j, (T j).length ≤ 1048576) (hn : n ≤ 1048576)
    (hM : fo + nf ≤ M) (hnf : nf ≤ 1048576) (htl : to + nt ≤ tl.length) (hnt : nt ≤ 1048576)
    (htr : ∀ j, -9223372036854775808 ≤ List.getD tl j 0 ∧ List.getD tl j 0 < 9223372036854775808) (hw : w ≤ 30) (hm : 0 ≤ m ∧ m ≤ 4)
    (hpc : pp + cc ≤ hh.length) (hcc : cc ≤ 1073741824) (hhb : W.bytes hh) :
    CodeOk Try.prog 136 100000 (kAt (kOf Try.prog Try.f8) [true, true, true, true, false, true, false, false, true, false, false, true, true, true, true, true, false]) (LXiI o n N ln T fo nf M fr tl to nt w m hh pp cc) (.exit 2) (LXiI o n N ln T fo nf M fr tl to nt w 0 hh (W.nxP hh pp cc m) (W.nxC hh pp cc m)) := by
  refine LXi_by (I := fun x : Int × Nat × Nat => LXiI o n N ln T fo nf M fr tl to nt w x.1 hh x.2.1 x.2.2)
    (Inv := fun x => (0 ≤ x.1 ∧ x.1 ≤ 4) ∧ x.2.1 + x.2.2 ≤ hh.length ∧ x.2.2 ≤ 1073741824 ∧ W.nxt hh x.1.toNat (x.2.1, x.2.2) = W.nxt hh m.toNat (pp, cc)) (μ := fun x => x.1.toNat) (by simp) ?_ (m, pp, cc) ⟨hm, hpc, hcc, rfl⟩
  rintro ⟨x, p, c⟩ ⟨hx, hp, hc, he⟩
  have hx : 0 ≤ x ∧ x ≤ 4 := hx
  have hp : p + c ≤ hh.length := hp
  have hc : c ≤ 1073741824 := hc
  have he : W.nxt hh x.toNat (p, c) = W.nxt hh m.toNat (pp, cc) := he
  by_cases h : x > 0
  · have en : x.toNat = (x - 1).toNat + 1 := by omega
    rw [en] at he
    by_cases hy : 2 ≤ c ∧ 2 + W.be2 hh p ≤ c
    · refine .inl ⟨(x - 1, p + (2 + W.be2 hh p), c - (2 + W.be2 hh p)), ⟨⟨by show 0 ≤ x - 1; omega, by show x - 1 ≤ 4; omega⟩, by show p + (2 + W.be2 hh p) + (c - (2 + W.be2 hh p)) ≤ _; omega, by show c - _ ≤ _; omega, ?_⟩, by show (x - 1).toNat < x.toNat; omega, LXi_rtc1 o n N ln T fo nf M fr tl to nt w x hh p c hN hln hTb hTs hn hM hnf htl hnt htr hw hx hp hc hhb h hy⟩
      rw [← he, W.nxt, if_pos hy]
    · refine .inl ⟨(x - 1, p, c), ⟨⟨by show 0 ≤ x - 1; omega, by show x - 1 ≤ 4; omega⟩, hp, hc, ?_⟩, by show (x - 1).toNat < x.toNat; omega, LXi_rtc0 o n N ln T fo nf M fr tl to nt w x hh p c hN hln hTb hTs hn hM hnf htl hnt htr hw hx hp hc hhb h hy⟩
      rw [← he, W.nxt, if_neg hy]
  · have e : x = 0 := by omega
    subst e
    have e1 : p = W.nxP hh pp cc m := by unfold W.nxP; rw [← he]; rfl
    have e2 : c = W.nxC hh pp cc m := by unfold W.nxC; rw [← he]; rfl
    have g := LXi_xf o n N ln T fo nf M fr tl to nt w 0 hh p c hN hln hTb hTs hn hM hnf htl hnt htr hw hx hp hc hhb h
    refine .inr ?_
    rw [← e1, ← e2]
    exact g
end Go.Proofs.Ytmfnldkiaodkpaa.Vm

namespace Go.Proofs.Ytmfnldkiaodkpaa.Vm
open Go Go.Proofs Go.Proofs.Ytmfnldkiaodkpaa
set_option maxRecDepth 100000
def LZI (o n N : Nat) (ln : Nat → Nat) (T : Nat → List Int) (fo nf M : Nat) (fr : Nat → Bool) (tl : List Int) (to nt w : Nat) : S0 :=
  ⟨[(0, (.c (.sl 1 0 o n 1))), (1, (.c (.sl 3 0 fo nf 1))), (2, (.c (.sl 4 0 to nt 1))), (7, (.c (.ptr 21 0 0))), (8, (.c (.ptr 69 0 0))), (6, (.c (.bool false))), (9, (.c (.int .i64 ((↑w : Int)))))], [(1, (.one ⟨false, false, (.gen N (fun j_ => (.sl 2 j_ 0 (ln j_) 1)))⟩)), (2, (.many (fun j_ => some ⟨false, false, (.ints .u8 (T j_))⟩))), (3, (.one ⟨false, false, (.gen M (fun j_ => (.bool (fr j_))))⟩)), (4, (.one ⟨false, false, (.ints .i64 tl)⟩)), (21, (.one ⟨true, true, .cells [.nils, .bool true]⟩)), (69, (.one ⟨true, true, .cells [.nils, .bool true]⟩))], 229⟩
theorem LZ_by {α : Type} (I : α → S0) (Inv : α → Prop) (μ : α → Nat) {ex : Ex} {s' : S0} (hex : ex ≠ .normal)
    (step : ∀ x, Inv x → (∃ y, Inv y ∧ μ y < μ x ∧ CodeOk Try.prog 136 213 (kAt (kOf Try.prog Try.f8) [true, true, true, true, false, true, false, false]) (I x) .normal (I y)) ∨ CodeOk Try.prog 136 213 (kAt (kOf Try.prog Try.f8) [true, true, true, true, false, true, false, false]) (I x) ex s') (x : α) (hx : Inv x) :
    CodeOk Try.prog 136 213 (kAt (kOf Try.prog Try.f8) [true, true, true, true, false, true, false]) (I x) ex s' := by
  have hk : (kAt (kOf Try.prog Try.f8) [true, true, true, true, false, true, false]) = .loop (kAt (kOf Try.prog Try.f8) [true, true, true, true, false, true, false, false]) := by kernel_rfl
  rw [hk]
  exact CodeOk.loop I Inv μ hex step x hx
theorem LZ_rttttc0t (o n N : Nat) (ln : Nat → Nat) (T : Nat → List Int) (fo nf M : Nat) (fr : Nat → Bool) (tl : List Int) (to nt w : Nat)
    (hN : o + n ≤ N)
    (hln : ∀ j, ln j ≤ (T j).length)
    (hTb : ∀ j, W.bytes (T j))
    (hTs : ∀ j, (T j).length ≤ 1048576)
    (hn : n ≤ 1048576)
    (hM : fo + nf ≤ M)
    (hnf : nf ≤ 1048576)
    (htl : to + nt ≤ tl.length)
    (hnt : nt ≤ 1048576)
    (htr : ∀ j, -9223372036854775808 ≤ List.getD tl j 0 ∧ List.getD tl j 0 < 9223372036854775808)
    (hw : w ≤ 30)
    (h2 : ((↑w : Int) < (↑n : Int)))
    (h3 : ((↑w : Int) < (30 : Int)))
    (h4 : ((↑w : Int) < (↑nf : Int)))
    (h5 : (fr (fo + w) = true))
    (c6 : (¬((1 : Nat) ≤ ln (o + w) ∧ ln (o + w) ≤ (4096 : Nat))))
    (h7 : ((↑w : Int) < (↑nt : Int))) :
    CodeOk Try.prog 136 213 (kAt (kOf Try.prog Try.f8) [true, true, true, true, false, true, false, false]) (LZI o n N ln T fo nf M fr tl to nt w) .normal (LZI o n N ln T fo nf M fr tl to nt (w + 1)) :=
  CodeOk.of_runs (fuel := 300) (v := ⟨[0, 1, 2, 7, 8, 6, 9], [1, 2, 3, 4, 21, 69], [], 229⟩) (hs := [(4, ⟨.auto, some (.c (.bool (true)))⟩), (7, ⟨.auto, some (.c (.bool (true)))⟩), (11, ⟨.ask, some (.c (.ptr 1 0 (o + w)))⟩), (12, ⟨.ask, none⟩), (18, ⟨.auto, some (.c (.bool (true)))⟩), (21, ⟨.ask, some (.c (.ptr 3 0 (fo + w)))⟩), (22, ⟨.ask, none⟩), (23, ⟨.auto, some (.c (.bool (true)))⟩), (26, ⟨.call [2] (.tup [(.c .nils), (.c (.int .i64 6))]) [] [], none⟩), (33, ⟨.call [2] (.tup [(.c .nils), (.c (.int .i64 6))]) [] [], none⟩), (55, ⟨.call [21, 2] (.c (.int .i64 6)) [] [(21, (.one ⟨true, true, (.cells [.nils, (.bool (true))])⟩))], none⟩), (58, ⟨.call [69, 2] (.c (.int .i64 6)) [] [(69, (.one ⟨true, true, (.cells [.nils, (.bool (true))])⟩))], none⟩), (62, ⟨.call [21] (.c (.int .i64 0)) [] [], none⟩), (75, ⟨.auto, some (.c (.bool (true)))⟩), (79, ⟨.ask, some (.c (.ptr 4 0 (to + w)))⟩), (80, ⟨.ask, none⟩), (81, ⟨.call [] (.c (.int .i64 (↑(W.pick (List.getD tl (to + w) 0) 4)))) [] [], none⟩), (83, ⟨.sum ⟨[0, 1, 2, 7, 8, 9, 6, 15], [1, 2, 3, 4, 21, 69], [], 100000⟩ (.exit 2) (LZiI o n N ln T fo nf M fr tl to nt w 0), none⟩), (85, ⟨.auto, some (.c (.int .i64 (↑(w + 1))))⟩)])
    (cs := [EI .i64 (IntKind.wrap IntKind.i64 ((↑w : Int) + 1)) ((↑(w + 1) : Int)),
      CodeOk Try.prog 136 1461 (kAt (kOf Try.prog Try.f8) [true, true, true, true, false, true, false, false, true, false, false, true, true, true, true, true, false]) (LZiI o n N ln T fo nf M fr tl to nt w (↑(W.pick (List.getD tl (to + w) 0) 4) : Int)) (.exit 2) (LZiI o n N ln T fo nf M fr tl to nt w 0),
      Contract Try.prog 15 [(.c (.int .i64 (List.getD tl (to + w) 0))), (.c (.int .i64 4))] [] 1429 (.c (.int .i64 (↑(W.pick (List.getD tl (to + w) 0) 4)))) [] [],
      (to + w + (1 : Nat) ≤ List.length tl),
      ((.c (.ptr 4 0 (addO to w))) : V) = (.c (.ptr 4 0 (to + w))),
      ((0 : Int) ≤ (↑w : Int) ∧ (↑w : Int) < (↑nt : Int)),
      EB (decide ((↑w : Int) < (↑nt : Int))) true,
      Contract Try.prog 44 [(.c (.ptr 21 0 0))] [(21, (.one ⟨true, true, (.cells [.nils, (.bool (true))])⟩))] 1157 (.c (.int .i64 0)) [] [],
      Contract Try.prog 43 [(.c (.ptr 69 0 0)), (.c (.sl 2 (o + w) 0 (ln (o + w)) 1))] [(69, (.one ⟨true, true, (.cells [.nils, (.bool (true))])⟩)), (2, (.many (fun j_ => some ⟨false, false, (.ints .u8 (T j_))⟩)))] 1093 (.c (.int .i64 6)) [] [(69, (.one ⟨true, true, (.cells [.nils, (.bool (true))])⟩))],
      Contract Try.prog 42 [(.c (.ptr 21 0 0)), (.c (.sl 2 (o + w) 0 (ln (o + w)) 1))] [(21, (.one ⟨true, true, (.cells [.nils, (.bool (true))])⟩)), (2, (.many (fun j_ => some ⟨false, false, (.ints .u8 (T j_))⟩)))] 1045 (.c (.int .i64 6)) [] [(21, (.one ⟨true, true, (.cells [.nils, (.bool (true))])⟩))],
      Contract Try.prog 41 [(.c (.sl 2 (o + w) 0 (ln (o + w)) 1))] [(2, (.many (fun j_ => some ⟨false, false, (.ints .u8 (T j_))⟩)))] 725 (.tup [(.c .nils), (.c (.int .i64 6))]) [] [],
      Contract Try.prog 40 [(.c (.sl 2 (o + w) 0 (ln (o + w)) 1))] [(2, (.many (fun j_ => some ⟨false, false, (.ints .u8 (T j_))⟩)))] 613 (.tup [(.c .nils), (.c (.int .i64 6))]) [] [],
      EB (fr (fo + w)) true,
      (fo + w + (1 : Nat) ≤ M),
      ((.c (.ptr 3 0 (addO fo w))) : V) = (.c (.ptr 3 0 (fo + w))),
      ((0 : Int) ≤ (↑w : Int) ∧ (↑w : Int) < (↑nf : Int)),
      EB (decide ((↑w : Int) < (↑nf : Int))) true,
      (o + w + (1 : Nat) ≤ N),
      ((.c (.ptr 1 0 (addO o w))) : V) = (.c (.ptr 1 0 (o + w))),
      ((0 : Int) ≤ (↑w : Int) ∧ (↑w : Int) < (↑n : Int)),
      EB (decide ((↑w : Int) < 30)) true,
      EB (decide ((↑w : Int) < (↑n : Int))) true])
    mixed (by kernel_rfl) ⟨.mk (by simp only [addO_eq, mulE_eq, mulE_one, Int.toNat_natCast, IntKind.wrap_i64, mmin, mmax]; omega), (CodeOk.mono (lzi o n N ln T fo nf M fr tl to nt w ((↑(W.pick (List.getD tl (to + w) 0) 4) : Int)) (by omega) (by omega) (by omega) (by omega) (by omega) (by omega) (by omega) (by omega) (by omega) (by omega) (by omega) (by exact ⟨by omega, by have := W.pick_lt (a := List.getD tl (to + w) 0) (b := 4) (by decide); omega⟩)) (by decide)), Contract0.inst (pick_ok (List.getD tl (to + w) 0) 4 (by exact htr _) (by omega)) [] [none, none] [] [] (by kernel_rfl) (by kernel_rfl) (by kernel_rfl) (by kernel_rfl) (by kernel_rfl), (by omega), EV.ptr (by simp only [addO_eq, mulE_eq, mulE_one, Int.toNat_natCast, IntKind.wrap_i64, mmin, mmax]), (by omega), .mk (decide_eq_true h7), Contract0.inst (heldB true) [.b 21 1 true []] [none] [] [] (by kernel_rfl) (by kernel_rfl) (by kernel_rfl) (by kernel_rfl) (by kernel_rfl), ContractN.fin (ContractN.fam (k := .u8) (l := (T (o + w))) (ex := false) (args1 := [(.c (.ptr 69 0 0)), (.c (.sl 1108 0 0 (ln (o + w)) 1))]) 1108 2 (o + w) (Contract0.instN (rfedB true (T (o + w)) 0 (ln (o + w))) [.b 69 1 false [], .b 1108 2 true []] [none, none] [] [] (by kernel_rfl) (by kernel_rfl) (by kernel_rfl) (by kernel_rfl) (by kernel_rfl)) (by kernel_rfl) (by kernel_rfl) (by kernel_rfl) (by kernel_rfl) (by kernel_rfl) (by kernel_rfl)) (by kernel_rfl), ContractN.fin (ContractN.fam (k := .u8) (l := (T (o + w))) (ex := false) (args1 := [(.c (.ptr 21 0 0)), (.c (.sl 1060 0 0 (ln (o + w)) 1))]) 1060 2 (o + w) (Contract0.instN (fedB true (T (o + w)) 0 (ln (o + w))) [.b 21 1 false [], .b 1060 2 true []] [none, none] [] [] (by kernel_rfl) (by kernel_rfl) (by kernel_rfl) (by kernel_rfl) (by kernel_rfl)) (by kernel_rfl) (by kernel_rfl) (by kernel_rfl) (by kernel_rfl) (by kernel_rfl) (by kernel_rfl)) (by kernel_rfl), ContractN.fin (ContractN.fam (k := .u8) (l := (T (o + w))) (ex := false) (args1 := [(.c (.sl 740 0 0 (ln (o + w)) 1))]) 740 2 (o + w) (Contract0.instN (rfraN (T (o + w)) 0 (ln (o + w)) (by rw [Nat.zero_add]; exact hln _) (by exact Nat.le_trans (hln _) (Nat.le_trans (hTs _) (by decide))) (by omega)) [.b 740 1 true []] [none] [] [] (by kernel_rfl) (by kernel_rfl) (by kernel_rfl) (by kernel_rfl) (by kernel_rfl)) (by kernel_rfl) (by kernel_rfl) (by kernel_rfl) (by kernel_rfl) (by kernel_rfl) (by kernel_rfl)) (by kernel_rfl), ContractN.fin (ContractN.fam (k := .u8) (l := (T (o + w))) (ex := false) (args1 := [(.c (.sl 628 0 0 (ln (o + w)) 1))]) 628 2 (o + w) (Contract0.instN (fraN (T (o + w)) 0 (ln (o + w)) (by rw [Nat.zero_add]; exact hln _) (by exact Nat.le_trans (hln _) (Nat.le_trans (hTs _) (by decide))) c6) [.b 628 1 true []] [none] [] [] (by kernel_rfl) (by kernel_rfl) (by kernel_rfl) (by kernel_rfl) (by kernel_rfl)) (by kernel_rfl) (by kernel_rfl) (by kernel_rfl) (by kernel_rfl) (by kernel_rfl) (by kernel_rfl)) (by kernel_rfl), .mk h5, (by omega), EV.ptr (by simp only [addO_eq, mulE_eq, mulE_one, Int.toNat_natCast, IntKind.wrap_i64, mmin, mmax]), (by omega), .mk (decide_eq_true h4), (by omega), EV.ptr (by simp only [addO_eq, mulE_eq, mulE_one, Int.toNat_natCast, IntKind.wrap_i64, mmin, mmax]), (by omega), .mk (decide_eq_true h3), .mk (decide_eq_true h2), trivial⟩
theorem LZ_rttttc0f (o n N : Nat) (ln : Nat → Nat) (T : Nat → List Int) (fo nf M : Nat) (fr : Nat → Bool) (tl : List Int) (to nt w : Nat)
    (hN : o + n ≤ N)
    (hln : ∀ j, ln j ≤ (T j).length)
    (hTb : ∀ j, W.bytes (T j))
    (hTs : ∀ j, (T j).length ≤ 1048576)
    (hn : n ≤ 1048576)
    (hM : fo + nf ≤ M)
    (hnf : nf ≤ 1048576)
    (htl : to + nt ≤ tl.length)
    (hnt : nt ≤ 1048576)
    (htr : ∀ j, -9223372036854775808 ≤ List.getD tl j 0 ∧ List.getD tl j 0 < 9223372036854775808)
    (hw : w ≤ 30)
    (h2 : ((↑w : Int) < (↑n : Int)))
    (h3 : ((↑w : Int) < (30 : Int)))
    (h4 : ((↑w : Int) < (↑nf : Int)))
    (h5 : (fr (fo + w) = true))
    (c6 : (¬((1 : Nat) ≤ ln (o + w) ∧ ln (o + w) ≤ (4096 : Nat))))
    (h7 : (¬(↑w : Int) < (↑nt : Int))) :
    CodeOk Try.prog 136 213 (kAt (kOf Try.prog Try.f8) [true, true, true, true, false, true, false, false]) (LZI o n N ln T fo nf M fr tl to nt w) .normal (LZI o n N ln T fo nf M fr tl to nt (w + 1)) :=
  CodeOk.of_runs (fuel := 300) (v := ⟨[0, 1, 2, 7, 8, 6, 9], [1, 2, 3, 4, 21, 69], [], 229⟩) (hs := [(4, ⟨.auto, some (.c (.bool (true)))⟩), (7, ⟨.auto, some (.c (.bool (true)))⟩), (11, ⟨.ask, some (.c (.ptr 1 0 (o + w)))⟩), (12, ⟨.ask, none⟩), (18, ⟨.auto, some (.c (.bool (true)))⟩), (21, ⟨.ask, some (.c (.ptr 3 0 (fo + w)))⟩), (22, ⟨.ask, none⟩), (23, ⟨.auto, some (.c (.bool (true)))⟩), (26, ⟨.call [2] (.tup [(.c .nils), (.c (.int .i64 6))]) [] [], none⟩), (33, ⟨.call [2] (.tup [(.c .nils), (.c (.int .i64 6))]) [] [], none⟩), (55, ⟨.call [21, 2] (.c (.int .i64 6)) [] [(21, (.one ⟨true, true, (.cells [.nils, (.bool (true))])⟩))], none⟩), (58, ⟨.call [69, 2] (.c (.int .i64 6)) [] [(69, (.one ⟨true, true, (.cells [.nils, (.bool (true))])⟩))], none⟩), (62, ⟨.call [21] (.c (.int .i64 0)) [] [], none⟩), (75, ⟨.auto, some (.c (.bool (false)))⟩), (77, ⟨.sum ⟨[0, 1, 2, 7, 8, 9, 6, 15], [1, 2, 3, 4, 21, 69], [], 100000⟩ (.exit 2) (LZiI o n N ln T fo nf M fr tl to nt w 0), none⟩), (79, ⟨.auto, some (.c (.int .i64 (↑(w + 1))))⟩)])
    (cs := [EI .i64 (IntKind.wrap IntKind.i64 ((↑w : Int) + 1)) ((↑(w + 1) : Int)),
      CodeOk Try.prog 136 1365 (kAt (kOf Try.prog Try.f8) [true, true, true, true, false, true, false, false, true, false, false, true, true, true, true, true, false]) (LZiI o n N ln T fo nf M fr tl to nt w 1) (.exit 2) (LZiI o n N ln T fo nf M fr tl to nt w 0),
      EB (decide ((↑w : Int) < (↑nt : Int))) false,
      Contract Try.prog 44 [(.c (.ptr 21 0 0))] [(21, (.one ⟨true, true, (.cells [.nils, (.bool (true))])⟩))] 1157 (.c (.int .i64 0)) [] [],
      Contract Try.prog 43 [(.c (.ptr 69 0 0)), (.c (.sl 2 (o + w) 0 (ln (o + w)) 1))] [(69, (.one ⟨true, true, (.cells [.nils, (.bool (true))])⟩)), (2, (.many (fun j_ => some ⟨false, false, (.ints .u8 (T j_))⟩)))] 1093 (.c (.int .i64 6)) [] [(69, (.one ⟨true, true, (.cells [.nils, (.bool (true))])⟩))],
      Contract Try.prog 42 [(.c (.ptr 21 0 0)), (.c (.sl 2 (o + w) 0 (ln (o + w)) 1))] [(21, (.one ⟨true, true, (.cells [.nils, (.bool (true))])⟩)), (2, (.many (fun j_ => some ⟨false, false, (.ints .u8 (T j_))⟩)))] 1045 (.c (.int .i64 6)) [] [(21, (.one ⟨true, true, (.cells [.nils, (.bool (true))])⟩))],
      Contract Try.prog 41 [(.c (.sl 2 (o + w) 0 (ln (o + w)) 1))] [(2, (.many (fun j_ => some ⟨false, false, (.ints .u8 (T j_))⟩)))] 725 (.tup [(.c .nils), (.c (.int .i64 6))]) [] [],
      Contract Try.prog 40 [(.c (.sl 2 (o + w) 0 (ln (o + w)) 1))] [(2, (.many (fun j_ => some ⟨false, false, (.ints .u8 (T j_))⟩)))] 613 (.tup [(.c .nils), (.c (.int .i64 6))]) [] [],
      EB (fr (fo + w)) true,
      (fo + w + (1 : Nat) ≤ M),
      ((.c (.ptr 3 0 (addO fo w))) : V) = (.c (.ptr 3 0 (fo + w))),
      ((0 : Int) ≤ (↑w : Int) ∧ (↑w : Int) < (↑nf : Int)),
      EB (decide ((↑w : Int) < (↑nf : Int))) true,
      (o + w + (1 : Nat) ≤ N),
      ((.c (.ptr 1 0 (addO o w))) : V) = (.c (.ptr 1 0 (o + w))),
      ((0 : Int) ≤ (↑w : Int) ∧ (↑w : Int) < (↑n : Int)),
      EB (decide ((↑w : Int) < 30)) true,
      EB (decide ((↑w : Int) < (↑n : Int))) true])
    mixed (by kernel_rfl) ⟨.mk (by simp only [addO_eq, mulE_eq, mulE_one, Int.toNat_natCast, IntKind.wrap_i64, mmin, mmax]; omega), (CodeOk.mono (lzi o n N ln T fo nf M fr tl to nt w 1 (by omega) (by omega) (by omega) (by omega) (by omega) (by omega) (by omega) (by omega) (by omega) (by omega) (by omega) (by omega)) (by decide)), .mk (decide_eq_false h7), Contract0.inst (heldB true) [.b 21 1 true []] [none] [] [] (by kernel_rfl) (by kernel_rfl) (by kernel_rfl) (by kernel_rfl) (by kernel_rfl), ContractN.fin (ContractN.fam (k := .u8) (l := (T (o + w))) (ex := false) (args1 := [(.c (.ptr 69 0 0)), (.c (.sl 1108 0 0 (ln (o + w)) 1))]) 1108 2 (o + w) (Contract0.instN (rfedB true (T (o + w)) 0 (ln (o + w))) [.b 69 1 false [], .b 1108 2 true []] [none, none] [] [] (by kernel_rfl) (by kernel_rfl) (by kernel_rfl) (by kernel_rfl) (by kernel_rfl)) (by kernel_rfl) (by kernel_rfl) (by kernel_rfl) (by kernel_rfl) (by kernel_rfl) (by kernel_rfl)) (by kernel_rfl), ContractN.fin (ContractN.fam (k := .u8) (l := (T (o + w))) (ex := false) (args1 := [(.c (.ptr 21 0 0)), (.c (.sl 1060 0 0 (ln (o + w)) 1))]) 1060 2 (o + w) (Contract0.instN (fedB true (T (o + w)) 0 (ln (o + w))) [.b 21 1 false [], .b 1060 2 true []] [none, none] [] [] (by kernel_rfl) (by kernel_rfl) (by kernel_rfl) (by kernel_rfl) (by kernel_rfl)) (by kernel_rfl) (by kernel_rfl) (by kernel_rfl) (by kernel_rfl) (by kernel_rfl) (by kernel_rfl)) (by kernel_rfl), ContractN.fin (ContractN.fam (k := .u8) (l := (T (o + w))) (ex := false) (args1 := [(.c (.sl 740 0 0 (ln (o + w)) 1))]) 740 2 (o + w) (Contract0.instN (rfraN (T (o + w)) 0 (ln (o + w)) (by rw [Nat.zero_add]; exact hln _) (by exact Nat.le_trans (hln _) (Nat.le_trans (hTs _) (by decide))) (by omega)) [.b 740 1 true []] [none] [] [] (by kernel_rfl) (by kernel_rfl) (by kernel_rfl) (by kernel_rfl) (by kernel_rfl)) (by kernel_rfl) (by kernel_rfl) (by kernel_rfl) (by kernel_rfl) (by kernel_rfl) (by kernel_rfl)) (by kernel_rfl), ContractN.fin (ContractN.fam (k := .u8) (l := (T (o + w))) (ex := false) (args1 := [(.c (.sl 628 0 0 (ln (o + w)) 1))]) 628 2 (o + w) (Contract0.instN (fraN (T (o + w)) 0 (ln (o + w)) (by rw [Nat.zero_add]; exact hln _) (by exact Nat.le_trans (hln _) (Nat.le_trans (hTs _) (by decide))) c6) [.b 628 1 true []] [none] [] [] (by kernel_rfl) (by kernel_rfl) (by kernel_rfl) (by kernel_rfl) (by kernel_rfl)) (by kernel_rfl) (by kernel_rfl) (by kernel_rfl) (by kernel_rfl) (by kernel_rfl) (by kernel_rfl)) (by kernel_rfl), .mk h5, (by omega), EV.ptr (by simp only [addO_eq, mulE_eq, mulE_one, Int.toNat_natCast, IntKind.wrap_i64, mmin, mmax]), (by omega), .mk (decide_eq_true h4), (by omega), EV.ptr (by simp only [addO_eq, mulE_eq, mulE_one, Int.toNat_natCast, IntKind.wrap_i64, mmin, mmax]), (by omega), .mk (decide_eq_true h3), .mk (decide_eq_true h2), trivial⟩
theorem LZ_rttttc1t (o n N : Nat) (ln : Nat → Nat) (T : Nat → List Int) (fo nf M : Nat) (fr : Nat → Bool) (tl : List Int) (to nt w : Nat)
    (hN : o + n ≤ N)
    (hln : ∀ j, ln j ≤ (T j).length)
    (hTb : ∀ j, W.bytes (T j))
    (hTs : ∀ j, (T j).length ≤ 1048576)
    (hn : n ≤ 1048576)
    (hM : fo + nf ≤ M)
    (hnf : nf ≤ 1048576)
    (htl : to + nt ≤ tl.length)
    (hnt : nt ≤ 1048576)
    (htr : ∀ j, -9223372036854775808 ≤ List.getD tl j 0 ∧ List.getD tl j 0 < 9223372036854775808)
    (hw : w ≤ 30)
    (h2 : ((↑w : Int) < (↑n : Int)))
    (h3 : ((↑w : Int) < (30 : Int)))
    (h4 : ((↑w : Int) < (↑nf : Int)))
    (h5 : (fr (fo + w) = true))
    (c6 : ((1 : Nat) ≤ ln (o + w) ∧ ln (o + w) ≤ (4096 : Nat)))
    (c7 : ((0 : Nat) + ((2 : Nat) + ln (o + w)) ≤ List.length (W.frm (ln (o + w)) (List.take (ln (o + w)) (T (o + w))))))
    (h8 : ((↑w : Int) < (↑nt : Int))) :
    CodeOk Try.prog 136 213 (kAt (kOf Try.prog Try.f8) [true, true, true, true, false, true, false, false]) (LZI o n N ln T fo nf M fr tl to nt w) .normal (LZI o n N ln T fo nf M fr tl to nt (w + 1)) :=
  CodeOk.of_runs (fuel := 300) (v := ⟨[0, 1, 2, 7, 8, 6, 9], [1, 2, 3, 4, 21, 69], [], 229⟩) (hs := [(4, ⟨.auto, some (.c (.bool (true)))⟩), (7, ⟨.auto, some (.c (.bool (true)))⟩), (11, ⟨.ask, some (.c (.ptr 1 0 (o + w)))⟩), (12, ⟨.ask, none⟩), (18, ⟨.auto, some (.c (.bool (true)))⟩), (21, ⟨.ask, some (.c (.ptr 3 0 (fo + w)))⟩), (22, ⟨.ask, none⟩), (23, ⟨.auto, some (.c (.bool (true)))⟩), (26, ⟨.call [2] (.tup [(.c (.sl 613 0 0 (2 + ln (o + w)) 1)), (.c (.int .i64 0))]) [] [(613, (.one ⟨true, false, (.ints .u8 (W.frm (ln (o + w)) (List.take (ln (o + w)) (T (o + w)))))⟩))], none⟩), (33, ⟨.call [2] (.tup [(.c (.sl 725 0 0 (2 + ln (o + w)) 1)), (.c (.int .i64 0))]) [] [(725, (.one ⟨true, false, (.ints .u8 (W.frm (ln (o + w)) (List.take (ln (o + w)) (T (o + w)))))⟩))], none⟩), (40, ⟨.ask, none⟩), (42, ⟨.ask, none⟩), (43, ⟨.ask, some (.c (.bool (false)))⟩), (57, ⟨.call [21, 613] (.c (.int .i64 6)) [] [(21, (.one ⟨true, true, (.cells [.nils, (.bool (true))])⟩))], none⟩), (60, ⟨.call [69, 613] (.c (.int .i64 6)) [] [(69, (.one ⟨true, true, (.cells [.nils, (.bool (true))])⟩))], none⟩), (64, ⟨.call [21] (.c (.int .i64 0)) [] [], none⟩), (77, ⟨.auto, some (.c (.bool (true)))⟩), (81, ⟨.ask, some (.c (.ptr 4 0 (to + w)))⟩), (82, ⟨.ask, none⟩), (83, ⟨.call [] (.c (.int .i64 (↑(W.pick (List.getD tl (to + w) 0) 4)))) [] [], none⟩), (85, ⟨.sum ⟨[0, 1, 2, 7, 8, 9, 6, 15], [1, 2, 3, 4, 21, 69], [], 100000⟩ (.exit 2) (LZiI o n N ln T fo nf M fr tl to nt w 0), none⟩), (87, ⟨.auto, some (.c (.int .i64 (↑(w + 1))))⟩)])
    (cs := [EI .i64 (IntKind.wrap IntKind.i64 ((↑w : Int) + 1)) ((↑(w + 1) : Int)),
      CodeOk Try.prog 136 1493 (kAt (kOf Try.prog Try.f8) [true, true, true, true, false, true, false, false, true, false, false, true, true, true, true, true, false]) (LZiI o n N ln T fo nf M fr tl to nt w (↑(W.pick (List.getD tl (to + w) 0) 4) : Int)) (.exit 2) (LZiI o n N ln T fo nf M fr tl to nt w 0),
      Contract Try.prog 15 [(.c (.int .i64 (List.getD tl (to + w) 0))), (.c (.int .i64 4))] [] 1461 (.c (.int .i64 (↑(W.pick (List.getD tl (to + w) 0) 4)))) [] [],
      (to + w + (1 : Nat) ≤ List.length tl),
      ((.c (.ptr 4 0 (addO to w))) : V) = (.c (.ptr 4 0 (to + w))),
      ((0 : Int) ≤ (↑w : Int) ∧ (↑w : Int) < (↑nt : Int)),
      EB (decide ((↑w : Int) < (↑nt : Int))) true,
      Contract Try.prog 44 [(.c (.ptr 21 0 0))] [(21, (.one ⟨true, true, (.cells [.nils, (.bool (true))])⟩))] 1189 (.c (.int .i64 0)) [] [],
      Contract Try.prog 43 [(.c (.ptr 69 0 0)), (.c (.sl 613 0 0 (2 + ln (o + w)) 1))] [(69, (.one ⟨true, true, (.cells [.nils, (.bool (true))])⟩)), (613, (.one ⟨true, false, (.ints .u8 (W.frm (ln (o + w)) (List.take (ln (o + w)) (T (o + w)))))⟩))] 1125 (.c (.int .i64 6)) [] [(69, (.one ⟨true, true, (.cells [.nils, (.bool (true))])⟩))],
      Contract Try.prog 42 [(.c (.ptr 21 0 0)), (.c (.sl 613 0 0 (2 + ln (o + w)) 1))] [(21, (.one ⟨true, true, (.cells [.nils, (.bool (true))])⟩)), (613, (.one ⟨true, false, (.ints .u8 (W.frm (ln (o + w)) (List.take (ln (o + w)) (T (o + w)))))⟩))] 1077 (.c (.int .i64 6)) [] [(21, (.one ⟨true, true, (.cells [.nils, (.bool (true))])⟩))],
      EB (!ByteArray.toList { data := List.toArray (List.map (fun n => UInt8.ofNat (Int.toNat n)) (List.take (2 + ln (o + w)) (List.drop 0 (W.frm (ln (o + w)) (List.take (ln (o + w)) (T (o + w))))))) } == ByteArray.toList { data := List.toArray (List.map (fun n => UInt8.ofNat (Int.toNat n)) (List.take (2 + ln (o + w)) (List.drop 0 (W.frm (ln (o + w)) (List.take (ln (o + w)) (T (o + w))))))) }) false,
      ((0 : Nat) + ((2 : Nat) + ln (o + w)) ≤ List.length (W.frm (ln (o + w)) (List.take (ln (o + w)) (T (o + w))))),
      ((0 : Nat) + ((2 : Nat) + ln (o + w)) ≤ List.length (W.frm (ln (o + w)) (List.take (ln (o + w)) (T (o + w))))),
      Contract Try.prog 41 [(.c (.sl 2 (o + w) 0 (ln (o + w)) 1))] [(2, (.many (fun j_ => some ⟨false, false, (.ints .u8 (T j_))⟩)))] 725 (.tup [(.c (.sl 725 0 0 (2 + ln (o + w)) 1)), (.c (.int .i64 0))]) [] [(725, (.one ⟨true, false, (.ints .u8 (W.frm (ln (o + w)) (List.take (ln (o + w)) (T (o + w)))))⟩))],
      Contract Try.prog 40 [(.c (.sl 2 (o + w) 0 (ln (o + w)) 1))] [(2, (.many (fun j_ => some ⟨false, false, (.ints .u8 (T j_))⟩)))] 613 (.tup [(.c (.sl 613 0 0 (2 + ln (o + w)) 1)), (.c (.int .i64 0))]) [] [(613, (.one ⟨true, false, (.ints .u8 (W.frm (ln (o + w)) (List.take (ln (o + w)) (T (o + w)))))⟩))],
      EB (fr (fo + w)) true,
      (fo + w + (1 : Nat) ≤ M),
      ((.c (.ptr 3 0 (addO fo w))) : V) = (.c (.ptr 3 0 (fo + w))),
      ((0 : Int) ≤ (↑w : Int) ∧ (↑w : Int) < (↑nf : Int)),
      EB (decide ((↑w : Int) < (↑nf : Int))) true,
      (o + w + (1 : Nat) ≤ N),
      ((.c (.ptr 1 0 (addO o w))) : V) = (.c (.ptr 1 0 (o + w))),
      ((0 : Int) ≤ (↑w : Int) ∧ (↑w : Int) < (↑n : Int)),
      EB (decide ((↑w : Int) < 30)) true,
      EB (decide ((↑w : Int) < (↑n : Int))) true])
    mixed (by kernel_rfl) ⟨.mk (by simp only [addO_eq, mulE_eq, mulE_one, Int.toNat_natCast, IntKind.wrap_i64, mmin, mmax]; omega), (CodeOk.mono (lzi o n N ln T fo nf M fr tl to nt w ((↑(W.pick (List.getD tl (to + w) 0) 4) : Int)) (by omega) (by omega) (by omega) (by omega) (by omega) (by omega) (by omega) (by omega) (by omega) (by omega) (by omega) (by exact ⟨by omega, by have := W.pick_lt (a := List.getD tl (to + w) 0) (b := 4) (by decide); omega⟩)) (by decide)), Contract0.inst (pick_ok (List.getD tl (to + w) 0) 4 (by exact htr _) (by omega)) [] [none, none] [] [] (by kernel_rfl) (by kernel_rfl) (by kernel_rfl) (by kernel_rfl) (by kernel_rfl), (by omega), EV.ptr (by simp only [addO_eq, mulE_eq, mulE_one, Int.toNat_natCast, IntKind.wrap_i64, mmin, mmax]), (by omega), .mk (decide_eq_true h8), Contract0.inst (heldB true) [.b 21 1 true []] [none] [] [] (by kernel_rfl) (by kernel_rfl) (by kernel_rfl) (by kernel_rfl) (by kernel_rfl), Contract0.inst (rfedB true (W.frm (ln (o + w)) (List.take (ln (o + w)) (T (o + w)))) 0 (2 + ln (o + w))) [.b 69 1 false [], .b 613 2 true []] [none, none] [] [] (by kernel_rfl) (by kernel_rfl) (by kernel_rfl) (by kernel_rfl) (by kernel_rfl), Contract0.inst (fedB true (W.frm (ln (o + w)) (List.take (ln (o + w)) (T (o + w)))) 0 (2 + ln (o + w))) [.b 21 1 false [], .b 613 2 true []] [none, none] [] [] (by kernel_rfl) (by kernel_rfl) (by kernel_rfl) (by kernel_rfl) (by kernel_rfl), .mk (not_f (strEq_t (by simp only [List.take_take, Nat.min_self, List.drop_zero]))), (by omega), c7, ContractN.fin (ContractN.fam (k := .u8) (l := (T (o + w))) (ex := false) (args1 := [(.c (.sl 740 0 0 (ln (o + w)) 1))]) 740 2 (o + w) (Contract0.instN (rfraY (T (o + w)) 0 (ln (o + w)) (by rw [Nat.zero_add]; exact hln _) (by omega) (by omega)) [.b 740 1 true []] [none] [(2, 725)] [] (by kernel_rfl) (by kernel_rfl) (by kernel_rfl) (by kernel_rfl) (by kernel_rfl)) (by kernel_rfl) (by kernel_rfl) (by kernel_rfl) (by kernel_rfl) (by kernel_rfl) (by kernel_rfl)) (by kernel_rfl), ContractN.fin (ContractN.fam (k := .u8) (l := (T (o + w))) (ex := false) (args1 := [(.c (.sl 628 0 0 (ln (o + w)) 1))]) 628 2 (o + w) (Contract0.instN (fraY (T (o + w)) 0 (ln (o + w)) (by rw [Nat.zero_add]; exact hln _) (by exact Nat.le_trans (hln _) (Nat.le_trans (hTs _) (by decide))) c6) [.b 628 1 true []] [none] [(2, 613)] [] (by kernel_rfl) (by kernel_rfl) (by kernel_rfl) (by kernel_rfl) (by kernel_rfl)) (by kernel_rfl) (by kernel_rfl) (by kernel_rfl) (by kernel_rfl) (by kernel_rfl) (by kernel_rfl)) (by kernel_rfl), .mk h5, (by omega), EV.ptr (by simp only [addO_eq, mulE_eq, mulE_one, Int.toNat_natCast, IntKind.wrap_i64, mmin, mmax]), (by omega), .mk (decide_eq_true h4), (by omega), EV.ptr (by simp only [addO_eq, mulE_eq, mulE_one, Int.toNat_natCast, IntKind.wrap_i64, mmin, mmax]), (by omega), .mk (decide_eq_true h3), .mk (decide_eq_true h2), trivial⟩
theorem LZ_rttttc1f (o n N : Nat) (ln : Nat → Nat) (T : Nat → List Int) (fo nf M : Nat) (fr : Nat → Bool) (tl : List Int) (to nt w : Nat)
    (hN : o + n ≤ N)
    (hln : ∀ j, ln j ≤ (T j).length)
    (hTb : ∀ j, W.bytes (T j))
    (hTs : ∀ j, (T j).length ≤ 1048576)
    (hn : n ≤ 1048576)
    (hM : fo + nf ≤ M)
    (hnf : nf ≤ 1048576)
    (htl : to + nt ≤ tl.length)
    (hnt : nt ≤ 1048576)
    (htr : ∀ j, -9223372036854775808 ≤ List.getD tl j 0 ∧ List.getD tl j 0 < 9223372036854775808)
    (hw : w ≤ 30)
    (h2 : ((↑w : Int) < (↑n : Int)))
    (h3 : ((↑w : Int) < (30 : Int)))
    (h4 : ((↑w : Int) < (↑nf : Int)))
    (h5 : (fr (fo + w) = true))
    (c6 : ((1 : Nat) ≤ ln (o + w) ∧ ln (o + w) ≤ (4096 : Nat)))
    (c7 : ((0 : Nat) + ((2 : Nat) + ln (o + w)) ≤ List.length (W.frm (ln (o + w)) (List.take (ln (o + w)) (T (o + w))))))
    (h8 : (¬(↑w : Int) < (↑nt : Int))) :
    CodeOk Try.prog 136 213 (kAt (kOf Try.prog Try.f8) [true, true, true, true, false, true, false, false]) (LZI o n N ln T fo nf M fr tl to nt w) .normal (LZI o n N ln T fo nf M fr tl to nt (w + 1)) :=
  CodeOk.of_runs (fuel := 300) (v := ⟨[0, 1, 2, 7, 8, 6, 9], [1, 2, 3, 4, 21, 69], [], 229⟩) (hs := [(4, ⟨.auto, some (.c (.bool (true)))⟩), (7, ⟨.auto, some (.c (.bool (true)))⟩), (11, ⟨.ask, some (.c (.ptr 1 0 (o + w)))⟩), (12, ⟨.ask, none⟩), (18, ⟨.auto, some (.c (.bool (true)))⟩), (21, ⟨.ask, some (.c (.ptr 3 0 (fo + w)))⟩), (22, ⟨.ask, none⟩), (23, ⟨.auto, some (.c (.bool (true)))⟩), (26, ⟨.call [2] (.tup [(.c (.sl 613 0 0 (2 + ln (o + w)) 1)), (.c (.int .i64 0))]) [] [(613, (.one ⟨true, false, (.ints .u8 (W.frm (ln (o + w)) (List.take (ln (o + w)) (T (o + w)))))⟩))], none⟩), (33, ⟨.call [2] (.tup [(.c (.sl 725 0 0 (2 + ln (o + w)) 1)), (.c (.int .i64 0))]) [] [(725, (.one ⟨true, false, (.ints .u8 (W.frm (ln (o + w)) (List.take (ln (o + w)) (T (o + w)))))⟩))], none⟩), (40, ⟨.ask, none⟩), (42, ⟨.ask, none⟩), (43, ⟨.ask, some (.c (.bool (false)))⟩), (57, ⟨.call [21, 613] (.c (.int .i64 6)) [] [(21, (.one ⟨true, true, (.cells [.nils, (.bool (true))])⟩))], none⟩), (60, ⟨.call [69, 613] (.c (.int .i64 6)) [] [(69, (.one ⟨true, true, (.cells [.nils, (.bool (true))])⟩))], none⟩), (64, ⟨.call [21] (.c (.int .i64 0)) [] [], none⟩), (77, ⟨.auto, some (.c (.bool (false)))⟩), (79, ⟨.sum ⟨[0, 1, 2, 7, 8, 9, 6, 15], [1, 2, 3, 4, 21, 69], [], 100000⟩ (.exit 2) (LZiI o n N ln T fo nf M fr tl to nt w 0), none⟩), (81, ⟨.auto, some (.c (.int .i64 (↑(w + 1))))⟩)])
    (cs := [EI .i64 (IntKind.wrap IntKind.i64 ((↑w : Int) + 1)) ((↑(w + 1) : Int)),
      CodeOk Try.prog 136 1397 (kAt (kOf Try.prog Try.f8) [true, true, true, true, false, true, false, false, true, false, false, true, true, true, true, true, false]) (LZiI o n N ln T fo nf M fr tl to nt w 1) (.exit 2) (LZiI o n N ln T fo nf M fr tl to nt w 0),
      EB (decide ((↑w : Int) < (↑nt : Int))) false,
      Contract Try.prog 44 [(.c (.ptr 21 0 0))] [(21, (.one ⟨true, true, (.cells [.nils, (.bool (true))])⟩))] 1189 (.c (.int .i64 0)) [] [],
      Contract Try.prog 43 [(.c (.ptr 69 0 0)), (.c (.sl 613 0 0 (2 + ln (o + w)) 1))] [(69, (.one ⟨true, true, (.cells [.nils, (.bool (true))])⟩)), (613, (.one ⟨true, false, (.ints .u8 (W.frm (ln (o + w)) (List.take (ln (o + w)) (T (o + w)))))⟩))] 1125 (.c (.int .i64 6)) [] [(69, (.one ⟨true, true, (.cells [.nils, (.bool (true))])⟩))],
      Contract Try.prog 42 [(.c (.ptr 21 0 0)), (.c (.sl 613 0 0 (2 + ln (o + w)) 1))] [(21, (.one ⟨true, true, (.cells [.nils, (.bool (true))])⟩)), (613, (.one ⟨true, false, (.ints .u8 (W.frm (ln (o + w)) (List.take (ln (o + w)) (T (o + w)))))⟩))] 1077 (.c (.int .i64 6)) [] [(21, (.one ⟨true, true, (.cells [.nils, (.bool (true))])⟩))],
      EB (!ByteArray.toList { data := List.toArray (List.map (fun n => UInt8.ofNat (Int.toNat n)) (List.take (2 + ln (o + w)) (List.drop 0 (W.frm (ln (o + w)) (List.take (ln (o + w)) (T (o + w))))))) } == ByteArray.toList { data := List.toArray (List.map (fun n => UInt8.ofNat (Int.toNat n)) (List.take (2 + ln (o + w)) (List.drop 0 (W.frm (ln (o + w)) (List.take (ln (o + w)) (T (o + w))))))) }) false,
      ((0 : Nat) + ((2 : Nat) + ln (o + w)) ≤ List.length (W.frm (ln (o + w)) (List.take (ln (o + w)) (T (o + w))))),
      ((0 : Nat) + ((2 : Nat) + ln (o + w)) ≤ List.length (W.frm (ln (o + w)) (List.take (ln (o + w)) (T (o + w))))),
      Contract Try.prog 41 [(.c (.sl 2 (o + w) 0 (ln (o + w)) 1))] [(2, (.many (fun j_ => some ⟨false, false, (.ints .u8 (T j_))⟩)))] 725 (.tup [(.c (.sl 725 0 0 (2 + ln (o + w)) 1)), (.c (.int .i64 0))]) [] [(725, (.one ⟨true, false, (.ints .u8 (W.frm (ln (o + w)) (List.take (ln (o + w)) (T (o + w)))))⟩))],
      Contract Try.prog 40 [(.c (.sl 2 (o + w) 0 (ln (o + w)) 1))] [(2, (.many (fun j_ => some ⟨false, false, (.ints .u8 (T j_))⟩)))] 613 (.tup [(.c (.sl 613 0 0 (2 + ln (o + w)) 1)), (.c (.int .i64 0))]) [] [(613, (.one ⟨true, false, (.ints .u8 (W.frm (ln (o + w)) (List.take (ln (o + w)) (T (o + w)))))⟩))],
      EB (fr (fo + w)) true,
      (fo + w + (1 : Nat) ≤ M),
      ((.c (.ptr 3 0 (addO fo w))) : V) = (.c (.ptr 3 0 (fo + w))),
      ((0 : Int) ≤ (↑w : Int) ∧ (↑w : Int) < (↑nf : Int)),
      EB (decide ((↑w : Int) < (↑nf : Int))) true,
      (o + w + (1 : Nat) ≤ N),
      ((.c (.ptr 1 0 (addO o w))) : V) = (.c (.ptr 1 0 (o + w))),
      ((0 : Int) ≤ (↑w : Int) ∧ (↑w : Int) < (↑n : Int)),
      EB (decide ((↑w : Int) < 30)) true,
      EB (decide ((↑w : Int) < (↑n : Int))) true])
    mixed (by kernel_rfl) ⟨.mk (by simp only [addO_eq, mulE_eq, mulE_one, Int.toNat_natCast, IntKind.wrap_i64, mmin, mmax]; omega), (CodeOk.mono (lzi o n N ln T fo nf M fr tl to nt w 1 (by omega) (by omega) (by omega) (by omega) (by omega) (by omega) (by omega) (by omega) (by omega) (by omega) (by omega) (by omega)) (by decide)), .mk (decide_eq_false h8), Contract0.inst (heldB true) [.b 21 1 true []] [none] [] [] (by kernel_rfl) (by kernel_rfl) (by kernel_rfl) (by kernel_rfl) (by kernel_rfl), Contract0.inst (rfedB true (W.frm (ln (o + w)) (List.take (ln (o + w)) (T (o + w)))) 0 (2 + ln (o + w))) [.b 69 1 false [], .b 613 2 true []] [none, none] [] [] (by kernel_rfl) (by kernel_rfl) (by kernel_rfl) (by kernel_rfl) (by kernel_rfl), Contract0.inst (fedB true (W.frm (ln (o + w)) (List.take (ln (o + w)) (T (o + w)))) 0 (2 + ln (o + w))) [.b 21 1 false [], .b 613 2 true []] [none, none] [] [] (by kernel_rfl) (by kernel_rfl) (by kernel_rfl) (by kernel_rfl) (by kernel_rfl), .mk (not_f (strEq_t (by simp only [List.take_take, Nat.min_self, List.drop_zero]))), (by omega), c7, ContractN.fin (ContractN.fam (k := .u8) (l := (T (o + w))) (ex := false) (args1 := [(.c (.sl 740 0 0 (ln (o + w)) 1))]) 740 2 (o + w) (Contract0.instN (rfraY (T (o + w)) 0 (ln (o + w)) (by rw [Nat.zero_add]; exact hln _) (by omega) (by omega)) [.b 740 1 true []] [none] [(2, 725)] [] (by kernel_rfl) (by kernel_rfl) (by kernel_rfl) (by kernel_rfl) (by kernel_rfl)) (by kernel_rfl) (by kernel_rfl) (by kernel_rfl) (by kernel_rfl) (by kernel_rfl) (by kernel_rfl)) (by kernel_rfl), ContractN.fin (ContractN.fam (k := .u8) (l := (T (o + w))) (ex := false) (args1 := [(.c (.sl 628 0 0 (ln (o + w)) 1))]) 628 2 (o + w) (Contract0.instN (fraY (T (o + w)) 0 (ln (o + w)) (by rw [Nat.zero_add]; exact hln _) (by exact Nat.le_trans (hln _) (Nat.le_trans (hTs _) (by decide))) c6) [.b 628 1 true []] [none] [(2, 613)] [] (by kernel_rfl) (by kernel_rfl) (by kernel_rfl) (by kernel_rfl) (by kernel_rfl)) (by kernel_rfl) (by kernel_rfl) (by kernel_rfl) (by kernel_rfl) (by kernel_rfl) (by kernel_rfl)) (by kernel_rfl), .mk h5, (by omega), EV.ptr (by simp only [addO_eq, mulE_eq, mulE_one, Int.toNat_natCast, IntKind.wrap_i64, mmin, mmax]), (by omega), .mk (decide_eq_true h4), (by omega), EV.ptr (by simp only [addO_eq, mulE_eq, mulE_one, Int.toNat_natCast, IntKind.wrap_i64, mmin, mmax]), (by omega), .mk (decide_eq_true h3), .mk (decide_eq_true h2), trivial⟩
theorem LZ_rtttft (o n N : Nat) (ln : Nat → Nat) (T : Nat → List Int) (fo nf M : Nat) (fr : Nat → Bool) (tl : List Int) (to nt w : Nat)
    (hN : o + n ≤ N)
    (hln : ∀ j, ln j ≤ (T j).length)
    (hTb : ∀ j, W.bytes (T j))
    (hTs : ∀ j, (T j).length ≤ 1048576)
    (hn : n ≤ 1048576)
    (hM : fo + nf ≤ M)
    (hnf : nf ≤ 1048576)
    (htl : to + nt ≤ tl.length)
    (hnt : nt ≤ 1048576)
    (htr : ∀ j, -9223372036854775808 ≤ List.getD tl j 0 ∧ List.getD tl j 0 < 9223372036854775808)
    (hw : w ≤ 30)
    (h2 : ((↑w : Int) < (↑n : Int)))
    (h3 : ((↑w : Int) < (30 : Int)))
    (h4 : ((↑w : Int) < (↑nf : Int)))
    (h5 : (¬fr (fo + w) = true))
    (h6 : ((↑w : Int) < (↑nt : Int))) :
    CodeOk Try.prog 136 213 (kAt (kOf Try.prog Try.f8) [true, true, true, true, false, true, false, false]) (LZI o n N ln T fo nf M fr tl to nt w) .normal (LZI o n N ln T fo nf M fr tl to nt (w + 1)) :=
  CodeOk.of_runs (fuel := 300) (v := ⟨[0, 1, 2, 7, 8, 6, 9], [1, 2, 3, 4, 21, 69], [], 229⟩) (hs := [(4, ⟨.auto, some (.c (.bool (true)))⟩), (7, ⟨.auto, some (.c (.bool (true)))⟩), (11, ⟨.ask, some (.c (.ptr 1 0 (o + w)))⟩), (12, ⟨.ask, none⟩), (18, ⟨.auto, some (.c (.bool (true)))⟩), (21, ⟨.ask, some (.c (.ptr 3 0 (fo + w)))⟩), (22, ⟨.ask, none⟩), (23, ⟨.auto, some (.c (.bool (false)))⟩), (27, ⟨.call [21, 2] (.c (.int .i64 6)) [] [(21, (.one ⟨true, true, (.cells [.nils, (.bool (true))])⟩))], none⟩), (30, ⟨.call [69, 2] (.c (.int .i64 6)) [] [(69, (.one ⟨true, true, (.cells [.nils, (.bool (true))])⟩))], none⟩), (34, ⟨.call [21] (.c (.int .i64 0)) [] [], none⟩), (47, ⟨.auto, some (.c (.bool (true)))⟩), (51, ⟨.ask, some (.c (.ptr 4 0 (to + w)))⟩), (52, ⟨.ask, none⟩), (53, ⟨.call [] (.c (.int .i64 (↑(W.pick (List.getD tl (to + w) 0) 4)))) [] [], none⟩), (55, ⟨.sum ⟨[0, 1, 2, 7, 8, 9, 6, 15], [1, 2, 3, 4, 21, 69], [], 100000⟩ (.exit 2) (LZiI o n N ln T fo nf M fr tl to nt w 0), none⟩), (57, ⟨.auto, some (.c (.int .i64 (↑(w + 1))))⟩)])
    (cs := [EI .i64 (IntKind.wrap IntKind.i64 ((↑w : Int) + 1)) ((↑(w + 1) : Int)),
      CodeOk Try.prog 136 1045 (kAt (kOf Try.prog Try.f8) [true, true, true, true, false, true, false, false, true, false, false, true, true, true, true, true, false]) (LZiI o n N ln T fo nf M fr tl to nt w (↑(W.pick (List.getD tl (to + w) 0) 4) : Int)) (.exit 2) (LZiI o n N ln T fo nf M fr tl to nt w 0),
      Contract Try.prog 15 [(.c (.int .i64 (List.getD tl (to + w) 0))), (.c (.int .i64 4))] [] 1013 (.c (.int .i64 (↑(W.pick (List.getD tl (to + w) 0) 4)))) [] [],
      (to + w + (1 : Nat) ≤ List.length tl),
      ((.c (.ptr 4 0 (addO to w))) : V) = (.c (.ptr 4 0 (to + w))),
      ((0 : Int) ≤ (↑w : Int) ∧ (↑w : Int) < (↑nt : Int)),
      EB (decide ((↑w : Int) < (↑nt : Int))) true,
      Contract Try.prog 44 [(.c (.ptr 21 0 0))] [(21, (.one ⟨true, true, (.cells [.nils, (.bool (true))])⟩))] 741 (.c (.int .i64 0)) [] [],
      Contract Try.prog 43 [(.c (.ptr 69 0 0)), (.c (.sl 2 (o + w) 0 (ln (o + w)) 1))] [(69, (.one ⟨true, true, (.cells [.nils, (.bool (true))])⟩)), (2, (.many (fun j_ => some ⟨false, false, (.ints .u8 (T j_))⟩)))] 677 (.c (.int .i64 6)) [] [(69, (.one ⟨true, true, (.cells [.nils, (.bool (true))])⟩))],
      Contract Try.prog 42 [(.c (.ptr 21 0 0)), (.c (.sl 2 (o + w) 0 (ln (o + w)) 1))] [(21, (.one ⟨true, true, (.cells [.nils, (.bool (true))])⟩)), (2, (.many (fun j_ => some ⟨false, false, (.ints .u8 (T j_))⟩)))] 629 (.c (.int .i64 6)) [] [(21, (.one ⟨true, true, (.cells [.nils, (.bool (true))])⟩))],
      EB (fr (fo + w)) false,
      (fo + w + (1 : Nat) ≤ M),
      ((.c (.ptr 3 0 (addO fo w))) : V) = (.c (.ptr 3 0 (fo + w))),
      ((0 : Int) ≤ (↑w : Int) ∧ (↑w : Int) < (↑nf : Int)),
      EB (decide ((↑w : Int) < (↑nf : Int))) true,
      (o + w + (1 : Nat) ≤ N),
      ((.c (.ptr 1 0 (addO o w))) : V) = (.c (.ptr 1 0 (o + w))),
      ((0 : Int) ≤ (↑w : Int) ∧ (↑w : Int) < (↑n : Int)),
      EB (decide ((↑w : Int) < 30)) true,
      EB (decide ((↑w : Int) < (↑n : Int))) true])
    mixed (by kernel_rfl) ⟨.mk (by simp only [addO_eq, mulE_eq, mulE_one, Int.toNat_natCast, IntKind.wrap_i64, mmin, mmax]; omega), (CodeOk.mono (lzi o n N ln T fo nf M fr tl to nt w ((↑(W.pick (List.getD tl (to + w) 0) 4) : Int)) (by omega) (by omega) (by omega) (by omega) (by omega) (by omega) (by omega) (by omega) (by omega) (by omega) (by omega) (by exact ⟨by omega, by have := W.pick_lt (a := List.getD tl (to + w) 0) (b := 4) (by decide); omega⟩)) (by decide)), Contract0.inst (pick_ok (List.getD tl (to + w) 0) 4 (by exact htr _) (by omega)) [] [none, none] [] [] (by kernel_rfl) (by kernel_rfl) (by kernel_rfl) (by kernel_rfl) (by kernel_rfl), (by omega), EV.ptr (by simp only [addO_eq, mulE_eq, mulE_one, Int.toNat_natCast, IntKind.wrap_i64, mmin, mmax]), (by omega), .mk (decide_eq_true h6), Contract0.inst (heldB true) [.b 21 1 true []] [none] [] [] (by kernel_rfl) (by kernel_rfl) (by kernel_rfl) (by kernel_rfl) (by kernel_rfl), ContractN.fin (ContractN.fam (k := .u8) (l := (T (o + w))) (ex := false) (args1 := [(.c (.ptr 69 0 0)), (.c (.sl 692 0 0 (ln (o + w)) 1))]) 692 2 (o + w) (Contract0.instN (rfedB true (T (o + w)) 0 (ln (o + w))) [.b 69 1 false [], .b 692 2 true []] [none, none] [] [] (by kernel_rfl) (by kernel_rfl) (by kernel_rfl) (by kernel_rfl) (by kernel_rfl)) (by kernel_rfl) (by kernel_rfl) (by kernel_rfl) (by kernel_rfl) (by kernel_rfl) (by kernel_rfl)) (by kernel_rfl), ContractN.fin (ContractN.fam (k := .u8) (l := (T (o + w))) (ex := false) (args1 := [(.c (.ptr 21 0 0)), (.c (.sl 644 0 0 (ln (o + w)) 1))]) 644 2 (o + w) (Contract0.instN (fedB true (T (o + w)) 0 (ln (o + w))) [.b 21 1 false [], .b 644 2 true []] [none, none] [] [] (by kernel_rfl) (by kernel_rfl) (by kernel_rfl) (by kernel_rfl) (by kernel_rfl)) (by kernel_rfl) (by kernel_rfl) (by kernel_rfl) (by kernel_rfl) (by kernel_rfl) (by kernel_rfl)) (by kernel_rfl), .mk (Bool.eq_false_iff.2 h5), (by omega), EV.ptr (by simp only [addO_eq, mulE_eq, mulE_one, Int.toNat_natCast, IntKind.wrap_i64, mmin, mmax]), (by omega), .mk (decide_eq_true h4), (by omega), EV.ptr (by simp only [addO_eq, mulE_eq, mulE_one, Int.toNat_natCast, IntKind.wrap_i64, mmin, mmax]), (by omega), .mk (decide_eq_true h3), .mk (decide_eq_true h2), trivial⟩
theorem LZ_rtttff (o n N : Nat) (ln : Nat → Nat) (T : Nat → List Int) (fo nf M : Nat) (fr : Nat → Bool) (tl : List Int) (to nt w : Nat)
    (hN : o + n ≤ N)
    (hln : ∀ j, ln j ≤ (T j).length)
    (hTb : ∀ j, W.bytes (T j))
    (hTs : ∀ j, (T j).length ≤ 1048576)
    (hn : n ≤ 1048576)
    (hM : fo + nf ≤ M)
    (hnf : nf ≤ 1048576)
    (htl : to + nt ≤ tl.length)
    (hnt : nt ≤ 1048576)
    (htr : ∀ j, -9223372036854775808 ≤ List.getD tl j 0 ∧ List.getD tl j 0 < 9223372036854775808)
    (hw : w ≤ 30)
    (h2 : ((↑w : Int) < (↑n : Int)))
    (h3 : ((↑w : Int) < (30 : Int)))
    (h4 : ((↑w : Int) < (↑nf : Int)))
    (h5 : (¬fr (fo + w) = true))
    (h6 : (¬(↑w : Int) < (↑nt : Int))) :
    CodeOk Try.prog 136 213 (kAt (kOf Try.prog Try.f8) [true, true, true, true, false, true, false, false]) (LZI o n N ln T fo nf M fr tl to nt w) .normal (LZI o n N ln T fo nf M fr tl to nt (w + 1)) :=
  CodeOk.of_runs (fuel := 300) (v := ⟨[0, 1, 2, 7, 8, 6, 9], [1, 2, 3, 4, 21, 69], [], 229⟩) (hs := [(4, ⟨.auto, some (.c (.bool (true)))⟩), (7, ⟨.auto, some (.c (.bool (true)))⟩), (11, ⟨.ask, some (.c (.ptr 1 0 (o + w)))⟩), (12, ⟨.ask, none⟩), (18, ⟨.auto, some (.c (.bool (true)))⟩), (21, ⟨.ask, some (.c (.ptr 3 0 (fo + w)))⟩), (22, ⟨.ask, none⟩), (23, ⟨.auto, some (.c (.bool (false)))⟩), (27, ⟨.call [21, 2] (.c (.int .i64 6)) [] [(21, (.one ⟨true, true, (.cells [.nils, (.bool (true))])⟩))], none⟩), (30, ⟨.call [69, 2] (.c (.int .i64 6)) [] [(69, (.one ⟨true, true, (.cells [.nils, (.bool (true))])⟩))], none⟩), (34, ⟨.call [21] (.c (.int .i64 0)) [] [], none⟩), (47, ⟨.auto, some (.c (.bool (false)))⟩), (49, ⟨.sum ⟨[0, 1, 2, 7, 8, 9, 6, 15], [1, 2, 3, 4, 21, 69], [], 100000⟩ (.exit 2) (LZiI o n N ln T fo nf M fr tl to nt w 0), none⟩), (51, ⟨.auto, some (.c (.int .i64 (↑(w + 1))))⟩)])
    (cs := [EI .i64 (IntKind.wrap IntKind.i64 ((↑w : Int) + 1)) ((↑(w + 1) : Int)),
      CodeOk Try.prog 136 949 (kAt (kOf Try.prog Try.f8) [true, true, true, true, false, true, false, false, true, false, false, true, true, true, true, true, false]) (LZiI o n N ln T fo nf M fr tl to nt w 1) (.exit 2) (LZiI o n N ln T fo nf M fr tl to nt w 0),
      EB (decide ((↑w : Int) < (↑nt : Int))) false,
      Contract Try.prog 44 [(.c (.ptr 21 0 0))] [(21, (.one ⟨true, true, (.cells [.nils, (.bool (true))])⟩))] 741 (.c (.int .i64 0)) [] [],
      Contract Try.prog 43 [(.c (.ptr 69 0 0)), (.c (.sl 2 (o + w) 0 (ln (o + w)) 1))] [(69, (.one ⟨true, true, (.cells [.nils, (.bool (true))])⟩)), (2, (.many (fun j_ => some ⟨false, false, (.ints .u8 (T j_))⟩)))] 677 (.c (.int .i64 6)) [] [(69, (.one ⟨true, true, (.cells [.nils, (.bool (true))])⟩))],
      Contract Try.prog 42 [(.c (.ptr 21 0 0)), (.c (.sl 2 (o + w) 0 (ln (o + w)) 1))] [(21, (.one ⟨true, true, (.cells [.nils, (.bool (true))])⟩)), (2, (.many (fun j_ => some ⟨false, false, (.ints .u8 (T j_))⟩)))] 629 (.c (.int .i64 6)) [] [(21, (.one ⟨true, true, (.cells [.nils, (.bool (true))])⟩))],
      EB (fr (fo + w)) false,
      (fo + w + (1 : Nat) ≤ M),
      ((.c (.ptr 3 0 (addO fo w))) : V) = (.c (.ptr 3 0 (fo + w))),
      ((0 : Int) ≤ (↑w : Int) ∧ (↑w : Int) < (↑nf : Int)),
      EB (decide ((↑w : Int) < (↑nf : Int))) true,
      (o + w + (1 : Nat) ≤ N),
      ((.c (.ptr 1 0 (addO o w))) : V) = (.c (.ptr 1 0 (o + w))),
      ((0 : Int) ≤ (↑w : Int) ∧ (↑w : Int) < (↑n : Int)),
      EB (decide ((↑w : Int) < 30)) true,
      EB (decide ((↑w : Int) < (↑n : Int))) true])
    mixed (by kernel_rfl) ⟨.mk (by simp only [addO_eq, mulE_eq, mulE_one, Int.toNat_natCast, IntKind.wrap_i64, mmin, mmax]; omega), (CodeOk.mono (lzi o n N ln T fo nf M fr tl to nt w 1 (by omega) (by omega) (by omega) (by omega) (by omega) (by omega) (by omega) (by omega) (by omega) (by omega) (by omega) (by omega)) (by decide)), .mk (decide_eq_false h6), Contract0.inst (heldB true) [.b 21 1 true []] [none] [] [] (by kernel_rfl) (by kernel_rfl) (by kernel_rfl) (by kernel_rfl) (by kernel_rfl), ContractN.fin (ContractN.fam (k := .u8) (l := (T (o + w))) (ex := false) (args1 := [(.c (.ptr 69 0 0)), (.c (.sl 692 0 0 (ln (o + w)) 1))]) 692 2 (o + w) (Contract0.instN (rfedB true (T (o + w)) 0 (ln (o + w))) [.b 69 1 false [], .b 692 2 true []] [none, none] [] [] (by kernel_rfl) (by kernel_rfl) (by kernel_rfl) (by kernel_rfl) (by kernel_rfl)) (by kernel_rfl) (by kernel_rfl) (by kernel_rfl) (by kernel_rfl) (by kernel_rfl) (by kernel_rfl)) (by kernel_rfl), ContractN.fin (ContractN.fam (k := .u8) (l := (T (o + w))) (ex := false) (args1 := [(.c (.ptr 21 0 0)), (.c (.sl 644 0 0 (ln (o + w)) 1))]) 644 2 (o + w) (Contract0.instN (fedB true (T (o + w)) 0 (ln (o + w))) [.b 21 1 false [], .b 644 2 true []] [none, none] [] [] (by kernel_rfl) (by kernel_rfl) (by kernel_rfl) (by kernel_rfl) (by kernel_rfl)) (by kernel_rfl) (by kernel_rfl) (by kernel_rfl) (by kernel_rfl) (by kernel_rfl) (by kernel_rfl)) (by kernel_rfl), .mk (Bool.eq_false_iff.2 h5), (by omega), EV.ptr (by simp only [addO_eq, mulE_eq, mulE_one, Int.toNat_natCast, IntKind.wrap_i64, mmin, mmax]), (by omega), .mk (decide_eq_true h4), (by omega), EV.ptr (by simp only [addO_eq, mulE_eq, mulE_one, Int.toNat_natCast, IntKind.wrap_i64, mmin, mmax]), (by omega), .mk (decide_eq_true h3), .mk (decide_eq_true h2), trivial⟩
theorem LZ_rttft (o n N : Nat) (ln : Nat → Nat) (T : Nat → List Int) (fo nf M : Nat) (fr : Nat → Bool) (tl : List Int) (to nt w : Nat)
    (hN : o + n ≤ N)
    (hln : ∀ j, ln j ≤ (T j).length)
    (hTb : ∀ j, W.bytes (T j))
    (hTs : ∀ j, (T j).length ≤ 1048576)
    (hn : n ≤ 1048576)
    (hM : fo + nf ≤ M)
    (hnf : nf ≤ 1048576)
    (htl : to + nt ≤ tl.length)
    (hnt : nt ≤ 1048576)
    (htr : ∀ j, -9223372036854775808 ≤ List.getD tl j 0 ∧ List.getD tl j 0 < 9223372036854775808)
    (hw : w ≤ 30)
    (h2 : ((↑w : Int) < (↑n : Int)))
    (h3 : ((↑w : Int) < (30 : Int)))
    (h4 : (¬(↑w : Int) < (↑nf : Int)))
    (h5 : ((↑w : Int) < (↑nt : Int))) :
    CodeOk Try.prog 136 213 (kAt (kOf Try.prog Try.f8) [true, true, true, true, false, true, false, false]) (LZI o n N ln T fo nf M fr tl to nt w) .normal (LZI o n N ln T fo nf M fr tl to nt (w + 1)) :=
  CodeOk.of_runs (fuel := 300) (v := ⟨[0, 1, 2, 7, 8, 6, 9], [1, 2, 3, 4, 21, 69], [], 229⟩) (hs := [(4, ⟨.auto, some (.c (.bool (true)))⟩), (7, ⟨.auto, some (.c (.bool (true)))⟩), (11, ⟨.ask, some (.c (.ptr 1 0 (o + w)))⟩), (12, ⟨.ask, none⟩), (18, ⟨.auto, some (.c (.bool (false)))⟩), (27, ⟨.call [21, 2] (.c (.int .i64 6)) [] [(21, (.one ⟨true, true, (.cells [.nils, (.bool (true))])⟩))], none⟩), (30, ⟨.call [69, 2] (.c (.int .i64 6)) [] [(69, (.one ⟨true, true, (.cells [.nils, (.bool (true))])⟩))], none⟩), (34, ⟨.call [21] (.c (.int .i64 0)) [] [], none⟩), (47, ⟨.auto, some (.c (.bool (true)))⟩), (51, ⟨.ask, some (.c (.ptr 4 0 (to + w)))⟩), (52, ⟨.ask, none⟩), (53, ⟨.call [] (.c (.int .i64 (↑(W.pick (List.getD tl (to + w) 0) 4)))) [] [], none⟩), (55, ⟨.sum ⟨[0, 1, 2, 7, 8, 9, 6, 15], [1, 2, 3, 4, 21, 69], [], 100000⟩ (.exit 2) (LZiI o n N ln T fo nf M fr tl to nt w 0), none⟩), (57, ⟨.auto, some (.c (.int .i64 (↑(w + 1))))⟩)])
    (cs := [EI .i64 (IntKind.wrap IntKind.i64 ((↑w : Int) + 1)) ((↑(w + 1) : Int)),
      CodeOk Try.prog 136 1045 (kAt (kOf Try.prog Try.f8) [true, true, true, true, false, true, false, false, true, false, false, true, true, true, true, true, false]) (LZiI o n N ln T fo nf M fr tl to nt w (↑(W.pick (List.getD tl (to + w) 0) 4) : Int)) (.exit 2) (LZiI o n N ln T fo nf M fr tl to nt w 0),
      Contract Try.prog 15 [(.c (.int .i64 (List.getD tl (to + w) 0))), (.c (.int .i64 4))] [] 1013 (.c (.int .i64 (↑(W.pick (List.getD tl (to + w) 0) 4)))) [] [],
      (to + w + (1 : Nat) ≤ List.length tl),
      ((.c (.ptr 4 0 (addO to w))) : V) = (.c (.ptr 4 0 (to + w))),
      ((0 : Int) ≤ (↑w : Int) ∧ (↑w : Int) < (↑nt : Int)),
      EB (decide ((↑w : Int) < (↑nt : Int))) true,
      Contract Try.prog 44 [(.c (.ptr 21 0 0))] [(21, (.one ⟨true, true, (.cells [.nils, (.bool (true))])⟩))] 741 (.c (.int .i64 0)) [] [],
      Contract Try.prog 43 [(.c (.ptr 69 0 0)), (.c (.sl 2 (o + w) 0 (ln (o + w)) 1))] [(69, (.one ⟨true, true, (.cells [.nils, (.bool (true))])⟩)), (2, (.many (fun j_ => some ⟨false, false, (.ints .u8 (T j_))⟩)))] 677 (.c (.int .i64 6)) [] [(69, (.one ⟨true, true, (.cells [.nils, (.bool (true))])⟩))],
      Contract Try.prog 42 [(.c (.ptr 21 0 0)), (.c (.sl 2 (o + w) 0 (ln (o + w)) 1))] [(21, (.one ⟨true, true, (.cells [.nils, (.bool (true))])⟩)), (2, (.many (fun j_ => some ⟨false, false, (.ints .u8 (T j_))⟩)))] 629 (.c (.int .i64 6)) [] [(21, (.one ⟨true, true, (.cells [.nils, (.bool (true))])⟩))],
      EB (decide ((↑w : Int) < (↑nf : Int))) false,
      (o + w + (1 : Nat) ≤ N),
      ((.c (.ptr 1 0 (addO o w))) : V) = (.c (.ptr 1 0 (o + w))),
      ((0 : Int) ≤ (↑w : Int) ∧ (↑w : Int) < (↑n : Int)),
      EB (decide ((↑w : Int) < 30)) true,
      EB (decide ((↑w : Int) < (↑n : Int))) true])
    mixed (by kernel_rfl) ⟨.mk (by simp only [addO_eq, mulE_eq, mulE_one, Int.toNat_natCast, IntKind.wrap_i64, mmin, mmax]; omega), (CodeOk.mono (lzi o n N ln T fo nf M fr tl to nt w ((↑(W.pick (List.getD tl (to + w) 0) 4) : Int)) (by omega) (by omega) (by omega) (by omega) (by omega) (by omega) (by omega) (by omega) (by omega) (by omega) (by omega) (by exact ⟨by omega, by have := W.pick_lt (a := List.getD tl (to + w) 0) (b := 4) (by decide); omega⟩)) (by decide)), Contract0.inst (pick_ok (List.getD tl (to + w) 0) 4 (by exact htr _) (by omega)) [] [none, none] [] [] (by kernel_rfl) (by kernel_rfl) (by kernel_rfl) (by kernel_rfl) (by kernel_rfl), (by omega), EV.ptr (by simp only [addO_eq, mulE_eq, mulE_one, Int.toNat_natCast, IntKind.wrap_i64, mmin, mmax]), (by omega), .mk (decide_eq_true h5), Contract0.inst (heldB true) [.b 21 1 true []] [none] [] [] (by kernel_rfl) (by kernel_rfl) (by kernel_rfl) (by kernel_rfl) (by kernel_rfl), ContractN.fin (ContractN.fam (k := .u8) (l := (T (o + w))) (ex := false) (args1 := [(.c (.ptr 69 0 0)), (.c (.sl 692 0 0 (ln (o + w)) 1))]) 692 2 (o + w) (Contract0.instN (rfedB true (T (o + w)) 0 (ln (o + w))) [.b 69 1 false [], .b 692 2 true []] [none, none] [] [] (by kernel_rfl) (by kernel_rfl) (by kernel_rfl) (by kernel_rfl) (by kernel_rfl)) (by kernel_rfl) (by kernel_rfl) (by kernel_rfl) (by kernel_rfl) (by kernel_rfl) (by kernel_rfl)) (by kernel_rfl), ContractN.fin (ContractN.fam (k := .u8) (l := (T (o + w))) (ex := false) (args1 := [(.c (.ptr 21 0 0)), (.c (.sl 644 0 0 (ln (o + w)) 1))]) 644 2 (o + w) (Contract0.instN (fedB true (T (o + w)) 0 (ln (o + w))) [.b 21 1 false [], .b 644 2 true []] [none, none] [] [] (by kernel_rfl) (by kernel_rfl) (by kernel_rfl) (by kernel_rfl) (by kernel_rfl)) (by kernel_rfl) (by kernel_rfl) (by kernel_rfl) (by kernel_rfl) (by kernel_rfl) (by kernel_rfl)) (by kernel_rfl), .mk (decide_eq_false h4), (by omega), EV.ptr (by simp only [addO_eq, mulE_eq, mulE_one, Int.toNat_natCast, IntKind.wrap_i64, mmin, mmax]), (by omega), .mk (decide_eq_true h3), .mk (decide_eq_true h2), trivial⟩
theorem LZ_rttff (o n N : Nat) (ln : Nat → Nat) (T : Nat → List Int) (fo nf M : Nat) (fr : Nat → Bool) (tl : List Int) (to nt w : Nat)
    (hN : o + n ≤ N)
    (hln : ∀ j, ln j ≤ (T j).length)
    (hTb : ∀ j, W.bytes (T j))
    (hTs : ∀ j, (T j).length ≤ 1048576)
    (hn : n ≤ 1048576)
    (hM : fo + nf ≤ M)
    (hnf : nf ≤ 1048576)
    (htl : to + nt ≤ tl.length)
    (hnt : nt ≤ 1048576)
    (htr : ∀ j, -9223372036854775808 ≤ List.getD tl j 0 ∧ List.getD tl j 0 < 9223372036854775808)
    (hw : w ≤ 30)
    (h2 : ((↑w : Int) < (↑n : Int)))
    (h3 : ((↑w : Int) < (30 : Int)))
    (h4 : (¬(↑w : Int) < (↑nf : Int)))
    (h5 : (¬(↑w : Int) < (↑nt : Int))) :
    CodeOk Try.prog 136 213 (kAt (kOf Try.prog Try.f8) [true, true, true, true, false, true, false, false]) (LZI o n N ln T fo nf M fr tl to nt w) .normal (LZI o n N ln T fo nf M fr tl to nt (w + 1)) :=
  CodeOk.of_runs (fuel := 300) (v := ⟨[0, 1, 2, 7, 8, 6, 9], [1, 2, 3, 4, 21, 69], [], 229⟩) (hs := [(4, ⟨.auto, some (.c (.bool (true)))⟩), (7, ⟨.auto, some (.c (.bool (true)))⟩), (11, ⟨.ask, some (.c (.ptr 1 0 (o + w)))⟩), (12, ⟨.ask, none⟩), (18, ⟨.auto, some (.c (.bool (false)))⟩), (27, ⟨.call [21, 2] (.c (.int .i64 6)) [] [(21, (.one ⟨true, true, (.cells [.nils, (.bool (true))])⟩))], none⟩), (30, ⟨.call [69, 2] (.c (.int .i64 6)) [] [(69, (.one ⟨true, true, (.cells [.nils, (.bool (true))])⟩))], none⟩), (34, ⟨.call [21] (.c (.int .i64 0)) [] [], none⟩), (47, ⟨.auto, some (.c (.bool (false)))⟩), (49, ⟨.sum ⟨[0, 1, 2, 7, 8, 9, 6, 15], [1, 2, 3, 4, 21, 69], [], 100000⟩ (.exit 2) (LZiI o n N ln T fo nf M fr tl to nt w 0), none⟩), (51, ⟨.auto, some (.c (.int .i64 (↑(w + 1))))⟩)])
    (cs := [EI .i64 (IntKind.wrap IntKind.i64 ((↑w : Int) + 1)) ((↑(w + 1) : Int)),
      CodeOk Try.prog 136 949 (kAt (kOf Try.prog Try.f8) [true, true, true, true, false, true, false, false, true, false, false, true, true, true, true, true, false]) (LZiI o n N ln T fo nf M fr tl to nt w 1) (.exit 2) (LZiI o n N ln T fo nf M fr tl to nt w 0),
      EB (decide ((↑w : Int) < (↑nt : Int))) false,
      Contract Try.prog 44 [(.c (.ptr 21 0 0))] [(21, (.one ⟨true, true, (.cells [.nils, (.bool (true))])⟩))] 741 (.c (.int .i64 0)) [] [],
      Contract Try.prog 43 [(.c (.ptr 69 0 0)), (.c (.sl 2 (o + w) 0 (ln (o + w)) 1))] [(69, (.one ⟨true, true, (.cells [.nils, (.bool (true))])⟩)), (2, (.many (fun j_ => some ⟨false, false, (.ints .u8 (T j_))⟩)))] 677 (.c (.int .i64 6)) [] [(69, (.one ⟨true, true, (.cells [.nils, (.bool (true))])⟩))],
      Contract Try.prog 42 [(.c (.ptr 21 0 0)), (.c (.sl 2 (o + w) 0 (ln (o + w)) 1))] [(21, (.one ⟨true, true, (.cells [.nils, (.bool (true))])⟩)), (2, (.many (fun j_ => some ⟨false, false, (.ints .u8 (T j_))⟩)))] 629 (.c (.int .i64 6)) [] [(21, (.one ⟨true, true, (.cells [.nils, (.bool (true))])⟩))],
      EB (decide ((↑w : Int) < (↑nf : Int))) false,
      (o + w + (1 : Nat) ≤ N),
      ((.c (.ptr 1 0 (addO o w))) : V) = (.c (.ptr 1 0 (o + w))),
      ((0 : Int) ≤ (↑w : Int) ∧ (↑w : Int) < (↑n : Int)),
      EB (decide ((↑w : Int) < 30)) true,
      EB (decide ((↑w : Int) < (↑n : Int))) true])
    mixed (by kernel_rfl) ⟨.mk (by simp only [addO_eq, mulE_eq, mulE_one, Int.toNat_natCast, IntKind.wrap_i64, mmin, mmax]; omega), (CodeOk.mono (lzi o n N ln T fo nf M fr tl to nt w 1 (by omega) (by omega) (by omega) (by omega) (by omega) (by omega) (by omega) (by omega) (by omega) (by omega) (by omega) (by omega)) (by decide)), .mk (decide_eq_false h5), Contract0.inst (heldB true) [.b 21 1 true []] [none] [] [] (by kernel_rfl) (by kernel_rfl) (by kernel_rfl) (by kernel_rfl) (by kernel_rfl), ContractN.fin (ContractN.fam (k := .u8) (l := (T (o + w))) (ex := false) (args1 := [(.c (.ptr 69 0 0)), (.c (.sl 692 0 0 (ln (o + w)) 1))]) 692 2 (o + w) (Contract0.instN (rfedB true (T (o + w)) 0 (ln (o + w))) [.b 69 1 false [], .b 692 2 true []] [none, none] [] [] (by kernel_rfl) (by kernel_rfl) (by kernel_rfl) (by kernel_rfl) (by kernel_rfl)) (by kernel_rfl) (by kernel_rfl) (by kernel_rfl) (by kernel_rfl) (by kernel_rfl) (by kernel_rfl)) (by kernel_rfl), ContractN.fin (ContractN.fam (k := .u8) (l := (T (o + w))) (ex := false) (args1 := [(.c (.ptr 21 0 0)), (.c (.sl 644 0 0 (ln (o + w)) 1))]) 644 2 (o + w) (Contract0.instN (fedB true (T (o + w)) 0 (ln (o + w))) [.b 21 1 false [], .b 644 2 true []] [none, none] [] [] (by kernel_rfl) (by kernel_rfl) (by kernel_rfl) (by kernel_rfl) (by kernel_rfl)) (by kernel_rfl) (by kernel_rfl) (by kernel_rfl) (by kernel_rfl) (by kernel_rfl) (by kernel_rfl)) (by kernel_rfl), .mk (decide_eq_false h4), (by omega), EV.ptr (by simp only [addO_eq, mulE_eq, mulE_one, Int.toNat_natCast, IntKind.wrap_i64, mmin, mmax]), (by omega), .mk (decide_eq_true h3), .mk (decide_eq_true h2), trivial⟩
theorem LZ_xtf (o n N : Nat) (ln : Nat → Nat) (T : Nat → List Int) (fo nf M : Nat) (fr : Nat → Bool) (tl : List Int) (to nt w : Nat)
    (hN : o + n ≤ N)
    (hln : ∀ j, ln j ≤ (T j).length)
    (hTb : ∀ j, W.bytes (T j))
    (hTs : ∀ j, (T j).length ≤ 1048576)
    (hn : n ≤ 1048576)
    (hM : fo + nf ≤ M)
    (hnf : nf ≤ 1048576)
    (htl : to + nt ≤ tl.length)
    (hnt : nt ≤ 1048576)
    (htr : ∀ j, -9223372036854775808 ≤ List.getD tl j 0 ∧ List.getD tl j 0 < 9223372036854775808)
    (hw : w ≤ 30)
    (h2 : ((↑w : Int) < (↑n : Int)))
    (h3 : (¬(↑w : Int) < (30 : Int))) :
    CodeOk Try.prog 136 213 (kAt (kOf Try.prog Try.f8) [true, true, true, true, false, true, false, false]) (LZI o n N ln T fo nf M fr tl to nt w) (.exit 0) (LZI o n N ln T fo nf M fr tl to nt w) :=
  CodeOk.of_runs (fuel := 300) (v := ⟨[0, 1, 2, 7, 8, 6, 9], [1, 2, 3, 4, 21, 69], [], 229⟩) (hs := [(4, ⟨.auto, some (.c (.bool (true)))⟩), (7, ⟨.auto, some (.c (.bool (false)))⟩)])
    (cs := [EB (decide ((↑w : Int) < 30)) false,
      EB (decide ((↑w : Int) < (↑n : Int))) true])
    mixed (by kernel_rfl) ⟨.mk (decide_eq_false h3), .mk (decide_eq_true h2), trivial⟩
theorem LZ_xf (o n N : Nat) (ln : Nat → Nat) (T : Nat → List Int) (fo nf M : Nat) (fr : Nat → Bool) (tl : List Int) (to nt w : Nat)
    (hN : o + n ≤ N)
    (hln : ∀ j, ln j ≤ (T j).length)
    (hTb : ∀ j, W.bytes (T j))
    (hTs : ∀ j, (T j).length ≤ 1048576)
    (hn : n ≤ 1048576)
    (hM : fo + nf ≤ M)
    (hnf : nf ≤ 1048576)
    (htl : to + nt ≤ tl.length)
    (hnt : nt ≤ 1048576)
    (htr : ∀ j, -9223372036854775808 ≤ List.getD tl j 0 ∧ List.getD tl j 0 < 9223372036854775808)
    (hw : w ≤ 30)
    (h2 : (¬(↑w : Int) < (↑n : Int))) :
    CodeOk Try.prog 136 213 (kAt (kOf Try.prog Try.f8) [true, true, true, true, false, true, false, false]) (LZI o n N ln T fo nf M fr tl to nt w) (.exit 0) (LZI o n N ln T fo nf M fr tl to nt w) :=
  CodeOk.of_runs (fuel := 300) (v := ⟨[0, 1, 2, 7, 8, 6, 9], [1, 2, 3, 4, 21, 69], [], 229⟩) (hs := [(4, ⟨.auto, some (.c (.bool (false)))⟩)])
    (cs := [EB (decide ((↑w : Int) < (↑n : Int))) false])
    mixed (by kernel_rfl) ⟨.mk (decide_eq_false h2), trivial⟩

end Go.Proofs.Ytmfnldkiaodkpaa.Vm
