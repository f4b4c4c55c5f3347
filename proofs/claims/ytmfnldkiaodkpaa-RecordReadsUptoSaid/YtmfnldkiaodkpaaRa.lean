/- What functions of the program come to: parts of the walk (Ra). -/
import Derived.Test.YtmfnldkiaodkpaaCc
import Derived.KernelRfl
import Derived.Test.YtmfnldkiaodkpaaProg
set_option linter.unusedSimpArgs false
set_option linter.unusedVariables false
namespace Go.Proofs.Ytmfnldkiaodkpaa.Vm
open Go Go.Proofs Go.Proofs.Ytmfnldkiaodkpaa
set_option maxRecDepth 100000
theorem sizes :
    Contract0 Try.prog 103 [] [] 1 (.c (.sl 1 0 0 4 1)) [] [(1, (.one ⟨true, true, (.ints .i64 [64, 256, 1024, 3968])⟩))] :=
  Contract0.renum (Contract0.of_frun (res := (.c (.sl 17 0 0 4 1))) (up := [(17, (.one ⟨true, true, (.cells [(.int .i64 64), (.int .i64 256), (.int .i64 1024), (.int .i64 3968)])⟩))]) (kill := []) (n0 := 1) (m := []) (args := []) (fn := Try.f103) (c := bodyOf Try.f103) (fuel := 300) (k := kOf Try.prog Try.f103) (outs := [17]) (hs := [])
    (cs := [])
    mixed Try.func103 (by kernel_rfl) (by kernel_rfl) (by kernel_rfl) (by kernel_rfl) (by kernel_rfl) trivial) [] [] [(17, 1)] [] (by kernel_rfl) (by kernel_rfl) (by kernel_rfl) (by kernel_rfl) (by kernel_rfl)


theorem bucket_t (n : Int)
    (hn : 0 ≤ n ∧ n < 9223372036854775808)
    (h0 : (n ≤ (62 : Int))) :
    PureF Try.prog 94 [(.c (.int .i64 n))] (.tup [(.c (.int .i64 64)), (.c (.bool (true)))]) :=
  Contract0.of_frun (res := (.tup [(.c (.int .i64 64)), (.c (.bool (true)))])) (up := []) (kill := []) (n0 := 1) (m := []) (args := [(.c (.int .i64 n))]) (fn := Try.f94) (c := bodyOf Try.f94) (fuel := 300) (k := kOf Try.prog Try.f94) (outs := []) (hs := [(2, ⟨.call [] (.c (.sl 33 0 0 4 1)) [] [(33, (.one ⟨true, true, (.ints .i64 [64, 256, 1024, 3968])⟩))], none⟩), (11, ⟨.auto, some (.c (.bool (true)))⟩), (17, ⟨.auto, some (.c (.bool (true)))⟩)])
    (cs := [EB (decide (n ≤ 62)) true,
      EB (decide (n ≥ 0)) true,
      Contract Try.prog 103 [] [] 33 (.c (.sl 33 0 0 4 1)) [] [(33, (.one ⟨true, true, (.ints .i64 [64, 256, 1024, 3968])⟩))]])
    mixed Try.func94 (by kernel_rfl) (by kernel_rfl) (by kernel_rfl) (by kernel_rfl) (by kernel_rfl) ⟨.mk (decide_eq_true h0), .mk (decide_eq_true (by omega)), Contract0.inst sizes [] [] [(1, 33)] [] (by kernel_rfl) (by kernel_rfl) (by kernel_rfl) (by kernel_rfl) (by kernel_rfl), trivial⟩

theorem bucket_ft (n : Int)
    (hn : 0 ≤ n ∧ n < 9223372036854775808)
    (h0 : (¬n ≤ (62 : Int)))
    (h1 : (n ≤ (254 : Int))) :
    PureF Try.prog 94 [(.c (.int .i64 n))] (.tup [(.c (.int .i64 256)), (.c (.bool (true)))]) :=
  Contract0.of_frun (res := (.tup [(.c (.int .i64 256)), (.c (.bool (true)))])) (up := []) (kill := []) (n0 := 1) (m := []) (args := [(.c (.int .i64 n))]) (fn := Try.f94) (c := bodyOf Try.f94) (fuel := 300) (k := kOf Try.prog Try.f94) (outs := []) (hs := [(2, ⟨.call [] (.c (.sl 33 0 0 4 1)) [] [(33, (.one ⟨true, true, (.ints .i64 [64, 256, 1024, 3968])⟩))], none⟩), (11, ⟨.auto, some (.c (.bool (true)))⟩), (17, ⟨.auto, some (.c (.bool (false)))⟩), (27, ⟨.auto, some (.c (.bool (true)))⟩), (33, ⟨.auto, some (.c (.bool (true)))⟩)])
    (cs := [EB (decide (n ≤ 254)) true,
      EB (decide (n ≥ 0)) true,
      EB (decide (n ≤ 62)) false,
      EB (decide (n ≥ 0)) true,
      Contract Try.prog 103 [] [] 33 (.c (.sl 33 0 0 4 1)) [] [(33, (.one ⟨true, true, (.ints .i64 [64, 256, 1024, 3968])⟩))]])
    mixed Try.func94 (by kernel_rfl) (by kernel_rfl) (by kernel_rfl) (by kernel_rfl) (by kernel_rfl) ⟨.mk (decide_eq_true h1), .mk (decide_eq_true (by omega)), .mk (decide_eq_false h0), .mk (decide_eq_true (by omega)), Contract0.inst sizes [] [] [(1, 33)] [] (by kernel_rfl) (by kernel_rfl) (by kernel_rfl) (by kernel_rfl) (by kernel_rfl), trivial⟩

theorem bucket_fft (n : Int)
    (hn : 0 ≤ n ∧ n < 9223372036854775808)
    (h0 : (¬n ≤ (62 : Int)))
    (h1 : (¬n ≤ (254 : Int)))
    (h2 : (n ≤ (1022 : Int))) :
    PureF Try.prog 94 [(.c (.int .i64 n))] (.tup [(.c (.int .i64 1024)), (.c (.bool (true)))]) :=
  Contract0.of_frun (res := (.tup [(.c (.int .i64 1024)), (.c (.bool (true)))])) (up := []) (kill := []) (n0 := 1) (m := []) (args := [(.c (.int .i64 n))]) (fn := Try.f94) (c := bodyOf Try.f94) (fuel := 300) (k := kOf Try.prog Try.f94) (outs := []) (hs := [(2, ⟨.call [] (.c (.sl 33 0 0 4 1)) [] [(33, (.one ⟨true, true, (.ints .i64 [64, 256, 1024, 3968])⟩))], none⟩), (11, ⟨.auto, some (.c (.bool (true)))⟩), (17, ⟨.auto, some (.c (.bool (false)))⟩), (27, ⟨.auto, some (.c (.bool (true)))⟩), (33, ⟨.auto, some (.c (.bool (false)))⟩), (43, ⟨.auto, some (.c (.bool (true)))⟩), (49, ⟨.auto, some (.c (.bool (true)))⟩)])
    (cs := [EB (decide (n ≤ 1022)) true,
      EB (decide (n ≥ 0)) true,
      EB (decide (n ≤ 254)) false,
      EB (decide (n ≥ 0)) true,
      EB (decide (n ≤ 62)) false,
      EB (decide (n ≥ 0)) true,
      Contract Try.prog 103 [] [] 33 (.c (.sl 33 0 0 4 1)) [] [(33, (.one ⟨true, true, (.ints .i64 [64, 256, 1024, 3968])⟩))]])
    mixed Try.func94 (by kernel_rfl) (by kernel_rfl) (by kernel_rfl) (by kernel_rfl) (by kernel_rfl) ⟨.mk (decide_eq_true h2), .mk (decide_eq_true (by omega)), .mk (decide_eq_false h1), .mk (decide_eq_true (by omega)), .mk (decide_eq_false h0), .mk (decide_eq_true (by omega)), Contract0.inst sizes [] [] [(1, 33)] [] (by kernel_rfl) (by kernel_rfl) (by kernel_rfl) (by kernel_rfl) (by kernel_rfl), trivial⟩

theorem bucket_ffft (n : Int)
    (hn : 0 ≤ n ∧ n < 9223372036854775808)
    (h0 : (¬n ≤ (62 : Int)))
    (h1 : (¬n ≤ (254 : Int)))
    (h2 : (¬n ≤ (1022 : Int)))
    (h3 : (n ≤ (3966 : Int))) :
    PureF Try.prog 94 [(.c (.int .i64 n))] (.tup [(.c (.int .i64 3968)), (.c (.bool (true)))]) :=
  Contract0.of_frun (res := (.tup [(.c (.int .i64 3968)), (.c (.bool (true)))])) (up := []) (kill := []) (n0 := 1) (m := []) (args := [(.c (.int .i64 n))]) (fn := Try.f94) (c := bodyOf Try.f94) (fuel := 300) (k := kOf Try.prog Try.f94) (outs := []) (hs := [(2, ⟨.call [] (.c (.sl 33 0 0 4 1)) [] [(33, (.one ⟨true, true, (.ints .i64 [64, 256, 1024, 3968])⟩))], none⟩), (11, ⟨.auto, some (.c (.bool (true)))⟩), (17, ⟨.auto, some (.c (.bool (false)))⟩), (27, ⟨.auto, some (.c (.bool (true)))⟩), (33, ⟨.auto, some (.c (.bool (false)))⟩), (43, ⟨.auto, some (.c (.bool (true)))⟩), (49, ⟨.auto, some (.c (.bool (false)))⟩), (59, ⟨.auto, some (.c (.bool (true)))⟩), (65, ⟨.auto, some (.c (.bool (true)))⟩)])
    (cs := [EB (decide (n ≤ 3966)) true,
      EB (decide (n ≥ 0)) true,
      EB (decide (n ≤ 1022)) false,
      EB (decide (n ≥ 0)) true,
      EB (decide (n ≤ 254)) false,
      EB (decide (n ≥ 0)) true,
      EB (decide (n ≤ 62)) false,
      EB (decide (n ≥ 0)) true,
      Contract Try.prog 103 [] [] 33 (.c (.sl 33 0 0 4 1)) [] [(33, (.one ⟨true, true, (.ints .i64 [64, 256, 1024, 3968])⟩))]])
    mixed Try.func94 (by kernel_rfl) (by kernel_rfl) (by kernel_rfl) (by kernel_rfl) (by kernel_rfl) ⟨.mk (decide_eq_true h3), .mk (decide_eq_true (by omega)), .mk (decide_eq_false h2), .mk (decide_eq_true (by omega)), .mk (decide_eq_false h1), .mk (decide_eq_true (by omega)), .mk (decide_eq_false h0), .mk (decide_eq_true (by omega)), Contract0.inst sizes [] [] [(1, 33)] [] (by kernel_rfl) (by kernel_rfl) (by kernel_rfl) (by kernel_rfl) (by kernel_rfl), trivial⟩

end Go.Proofs.Ytmfnldkiaodkpaa.Vm

namespace Go.Proofs.Ytmfnldkiaodkpaa
/-- The size of the bucket for so many bytes. -/
def W.bkt (n : Nat) : Nat := if n ≤ 62 then 64 else if n ≤ 254 then 256 else if n ≤ 1022 then 1024 else 3968
theorem W.bkt_ge {n : Nat} (h : n ≤ 3966) : n + 2 ≤ W.bkt n := by unfold W.bkt; split <;> (try split) <;> (try split) <;> omega
theorem W.bkt_le {n : Nat} : W.bkt n ≤ 3968 := by unfold W.bkt; split <;> (try split) <;> (try split) <;> omega
end Go.Proofs.Ytmfnldkiaodkpaa
namespace Go.Proofs.Ytmfnldkiaodkpaa.Vm
open Go Go.Proofs Go.Proofs.Ytmfnldkiaodkpaa
theorem bucket_y (n : Nat) (h : n ≤ 3966) : PureF Try.prog 94 [(.c (.int .i64 (n : Int)))] (.tup [(.c (.int .i64 (W.bkt n : Int))), (.c (.bool true))]) := by
  unfold W.bkt
  by_cases h1 : n ≤ 62
  · rw [if_pos h1]; exact bucket_t n (by omega) (by omega)
  · rw [if_neg h1]
    by_cases h2 : n ≤ 254
    · rw [if_pos h2]; exact bucket_ft n (by omega) (by omega) (by omega)
    · rw [if_neg h2]
      by_cases h3 : n ≤ 1022
      · rw [if_pos h3]; exact bucket_fft n (by omega) (by omega) (by omega) (by omega)
      · rw [if_neg h3]; exact bucket_ffft n (by omega) (by omega) (by omega) (by omega) (by omega)
end Go.Proofs.Ytmfnldkiaodkpaa.Vm

namespace Go.Proofs.Ytmfnldkiaodkpaa.Vm
open Go Go.Proofs Go.Proofs.Ytmfnldkiaodkpaa
set_option maxRecDepth 100000
theorem pad_raw (l : List Int) (o n : Nat)
    (hl : o + n ≤ l.length)
    (hn : n ≤ 3966)
    (hb : n + 2 ≤ W.bkt n)
    (hc : W.bkt n ≤ 3968) :
    Contract0 Try.prog 77 [(.c (.sl 1 0 o n 1))] [(1, (.one ⟨false, false, (.ints .u8 l)⟩))] 2 (.tup [(.c (.sl 2 0 0 (2 + n + (W.bkt n - 2 - n)) 1)), (.c (.int .i64 0))]) [] [(2, (.one ⟨true, false, (.ints .u8 (List.take 2 [(↑(n / 256) : Int), (↑(n % 256) : Int)] ++ List.take n (List.drop o l) ++ List.take (W.bkt n - 2 - n) (List.replicate (W.bkt n - 2 - n) 0)))⟩))] :=
  Contract0.renum (Contract0.of_frun (res := (.tup [(.c (.sl 450 0 0 (2 + n + (W.bkt n - 2 - n)) 1)), (.c (.int .i64 0))])) (up := [(450, (.one ⟨true, false, (.ints .u8 (List.take 2 [(↑(n / 256) : Int), (↑(n % 256) : Int)] ++ List.take n (List.drop o l) ++ List.take (W.bkt n - 2 - n) (List.replicate (W.bkt n - 2 - n) 0)))⟩))]) (kill := []) (n0 := 2) (m := [(1, (.one ⟨false, false, (.ints .u8 l)⟩))]) (args := [(.c (.sl 1 0 o n 1))]) (fn := Try.f77) (c := bodyOf Try.f77) (fuel := 300) (k := kOf Try.prog Try.f77) (outs := [450]) (hs := [(4, ⟨.call [] (.tup [(.c (.int .i64 (↑(W.bkt n)))), (.c (.bool (true)))]) [] [], none⟩), (18, ⟨.auto, some (.c (.int .u8 (↑(n / 256))))⟩), (24, ⟨.auto, some (.c (.int .i64 (↑(W.bkt n - 2))))⟩), (26, ⟨.auto, some (.c (.int .i64 (↑(W.bkt n - 2 - n))))⟩), (27, ⟨.ask, none⟩), (29, ⟨.call [434, 322, 1, 418] (.c (.sl 450 0 0 (2 + n + (W.bkt n - 2 - n)) 1)) [] [(450, (.one ⟨true, false, (.ints .u8 (List.take 2 [(↑(n / 256) : Int), (↑(n % 256) : Int)] ++ List.take n (List.drop o l) ++ List.take (W.bkt n - 2 - n) (List.replicate (W.bkt n - 2 - n) 0)))⟩))], none⟩)])
    (cs := [Contract Try.prog 57 [(.c (.sl 434 0 0 3 1))] [(434, (.one ⟨true, true, (.cells [(.sl 322 0 0 2 1), (.sl 1 0 o n 1), (.sl 418 0 0 (W.bkt n - 2 - n) 1)])⟩)), (322, (.one ⟨true, true, (.cells [(.int .u8 (↑(n / 256))), (.int .u8 (↑(n % 256)))])⟩)), (1, (.one ⟨false, false, (.ints .u8 l)⟩)), (418, (.one ⟨true, true, (.ints .u8 (List.replicate (W.bkt n - 2 - n) 0))⟩))] 450 (.c (.sl 450 0 0 (2 + n + (W.bkt n - 2 - n)) 1)) [] [(450, (.one ⟨true, false, (.ints .u8 (List.take 2 [(↑(n / 256) : Int), (↑(n % 256) : Int)] ++ List.take n (List.drop o l) ++ List.take (W.bkt n - 2 - n) (List.replicate (W.bkt n - 2 - n) 0)))⟩))],
      ((0 : Int) ≤ (↑(W.bkt n - (2 : Nat) - n) : Int) ∧ (↑(W.bkt n - (2 : Nat) - n) : Int) ≤ (↑(W.bkt n - (2 : Nat) - n) : Int) ∧ (↑(W.bkt n - (2 : Nat) - n) : Int) ≤ (4294967296 : Int) ∧ (1 : Nat) * (W.bkt n - (2 : Nat) - n) ≤ (4398046511104 : Nat)),
      EI .i64 (IntKind.wrap IntKind.i64 ((↑(W.bkt n - 2) : Int) - (↑n : Int))) ((↑(W.bkt n - 2 - n) : Int)),
      EI .i64 (IntKind.wrap IntKind.i64 ((↑(W.bkt n) : Int) - 2)) ((↑(W.bkt n - 2) : Int)),
      EI .u8 ((↑(n / 256) : Int) % 256) ((↑(n / 256) : Int)),
      Contract Try.prog 94 [(.c (.int .i64 (↑n)))] [] 66 (.tup [(.c (.int .i64 (↑(W.bkt n)))), (.c (.bool (true)))]) [] []])
    mixed Try.func77 (by kernel_rfl) (by kernel_rfl) (by kernel_rfl) (by kernel_rfl) (by kernel_rfl) ⟨Contract0.inst (join3 ([(↑(n / 256) : Int), (↑(n % 256) : Int)]) l (List.replicate (W.bkt n - 2 - n) 0) 0 2 o n 0 (W.bkt n - 2 - n) (by simp only [and_true, List.length_set, List.length_append, List.length_replicate, List.length_take, List.length_drop, List.length_map, List.length_cons, List.length_nil, List.length_zipWith, splice_len1, W.le_len, W.bts_len, Int.toNat_natCast, addO_eq, mulE_eq, mulE_one]; omega) (by omega) (by simp only [and_true, List.length_set, List.length_append, List.length_replicate, List.length_take, List.length_drop, List.length_map, List.length_cons, List.length_nil, List.length_zipWith, splice_len1, W.le_len, W.bts_len, Int.toNat_natCast, addO_eq, mulE_eq, mulE_one]; omega) (by omega)) [.b 434 1 true [], .b 322 2 true [], .b 1 3 true [], .b 418 4 true []] [none] [(5, 450)] [] (by kernel_rfl) (by kernel_rfl) (by kernel_rfl) (by kernel_rfl) (by kernel_rfl), (by omega), .mk (by simp only [addO_eq, mulE_eq, mulE_one, Int.toNat_natCast, IntKind.wrap_i64, mmin, mmax]; omega), .mk (by simp only [addO_eq, mulE_eq, mulE_one, Int.toNat_natCast, IntKind.wrap_i64, mmin, mmax]; omega), .mk (by omega), Contract0.inst (bucket_y n (by omega)) [] [none] [] [] (by kernel_rfl) (by kernel_rfl) (by kernel_rfl) (by kernel_rfl) (by kernel_rfl), trivial⟩) [.b 1 1 true] [] [(450, 2)] [] (by kernel_rfl) (by kernel_rfl) (by kernel_rfl) (by kernel_rfl) (by kernel_rfl)


theorem frame_t (l : List Int) (o n : Nat)
    (hl : o + n ≤ l.length)
    (hs : n ≤ 1073741824)
    (h0 : ((↑n : Int) = (0 : Int))) :
    Contract0 Try.prog 40 [(.c (.sl 1 0 o n 1))] [(1, (.one ⟨false, false, (.ints .u8 l)⟩))] 2 (.tup [(.c .nils), (.c (.int .i64 6))]) [] [] :=
  Contract0.of_frun (res := (.tup [(.c .nils), (.c (.int .i64 6))])) (up := []) (kill := []) (n0 := 2) (m := [(1, (.one ⟨false, false, (.ints .u8 l)⟩))]) (args := [(.c (.sl 1 0 o n 1))]) (fn := Try.f40) (c := bodyOf Try.f40) (fuel := 300) (k := kOf Try.prog Try.f40) (outs := []) (hs := [(5, ⟨.auto, some (.c (.bool (true)))⟩)])
    (cs := [EB ((↑n : Int) == 0) true])
    mixed Try.func40 (by kernel_rfl) (by kernel_rfl) (by kernel_rfl) (by kernel_rfl) (by kernel_rfl) ⟨.mk (beq_t h0), trivial⟩

theorem frame_ft (l : List Int) (o n : Nat)
    (hl : o + n ≤ l.length)
    (hs : n ≤ 1073741824)
    (h0 : (¬(↑n : Int) = (0 : Int)))
    (h1 : ((↑n : Int) > (4096 : Int))) :
    Contract0 Try.prog 40 [(.c (.sl 1 0 o n 1))] [(1, (.one ⟨false, false, (.ints .u8 l)⟩))] 2 (.tup [(.c .nils), (.c (.int .i64 6))]) [] [] :=
  Contract0.of_frun (res := (.tup [(.c .nils), (.c (.int .i64 6))])) (up := []) (kill := []) (n0 := 2) (m := [(1, (.one ⟨false, false, (.ints .u8 l)⟩))]) (args := [(.c (.sl 1 0 o n 1))]) (fn := Try.f40) (c := bodyOf Try.f40) (fuel := 300) (k := kOf Try.prog Try.f40) (outs := []) (hs := [(5, ⟨.auto, some (.c (.bool (false)))⟩), (9, ⟨.auto, some (.c (.bool (true)))⟩)])
    (cs := [EB (decide ((↑n : Int) > 4096)) true,
      EB ((↑n : Int) == 0) false])
    mixed Try.func40 (by kernel_rfl) (by kernel_rfl) (by kernel_rfl) (by kernel_rfl) (by kernel_rfl) ⟨.mk (decide_eq_true h1), .mk (beq_f h0), trivial⟩

theorem frame_ff (l : List Int) (o n : Nat)
    (hl : o + n ≤ l.length)
    (hs : n ≤ 1073741824)
    (h0 : (¬(↑n : Int) = (0 : Int)))
    (h1 : (¬(↑n : Int) > (4096 : Int))) :
    Contract0 Try.prog 40 [(.c (.sl 1 0 o n 1))] [(1, (.one ⟨false, false, (.ints .u8 l)⟩))] 2 (.tup [(.c (.sl 2 0 0 (2 + n) 1)), (.c (.int .i64 0))]) [] [(2, (.one ⟨true, false, (.ints .u8 (List.take 2 [(↑(n / 256) : Int), (↑(n % 256) : Int)] ++ List.take n (List.drop o l)))⟩))] :=
  Contract0.renum (Contract0.of_frun (res := (.tup [(.c (.sl 322 0 0 (2 + n) 1)), (.c (.int .i64 0))])) (up := [(322, (.one ⟨true, false, (.ints .u8 (List.take 2 [(↑(n / 256) : Int), (↑(n % 256) : Int)] ++ List.take n (List.drop o l)))⟩))]) (kill := []) (n0 := 2) (m := [(1, (.one ⟨false, false, (.ints .u8 l)⟩))]) (args := [(.c (.sl 1 0 o n 1))]) (fn := Try.f40) (c := bodyOf Try.f40) (fuel := 300) (k := kOf Try.prog Try.f40) (outs := [322]) (hs := [(5, ⟨.auto, some (.c (.bool (false)))⟩), (9, ⟨.auto, some (.c (.bool (false)))⟩), (14, ⟨.auto, some (.c (.int .u8 (↑(n / 256))))⟩), (21, ⟨.call [306, 274, 1] (.c (.sl 322 0 0 (2 + n) 1)) [] [(322, (.one ⟨true, false, (.ints .u8 (List.take 2 [(↑(n / 256) : Int), (↑(n % 256) : Int)] ++ List.take n (List.drop o l)))⟩))], none⟩)])
    (cs := [Contract Try.prog 57 [(.c (.sl 306 0 0 2 1))] [(306, (.one ⟨true, true, (.cells [(.sl 274 0 0 2 1), (.sl 1 0 o n 1)])⟩)), (274, (.one ⟨true, true, (.cells [(.int .u8 (↑(n / 256))), (.int .u8 (↑(n % 256)))])⟩)), (1, (.one ⟨false, false, (.ints .u8 l)⟩))] 322 (.c (.sl 322 0 0 (2 + n) 1)) [] [(322, (.one ⟨true, false, (.ints .u8 (List.take 2 [(↑(n / 256) : Int), (↑(n % 256) : Int)] ++ List.take n (List.drop o l)))⟩))],
      EI .u8 ((↑(n / 256) : Int) % 256) ((↑(n / 256) : Int)),
      EB (decide ((↑n : Int) > 4096)) false,
      EB ((↑n : Int) == 0) false])
    mixed Try.func40 (by kernel_rfl) (by kernel_rfl) (by kernel_rfl) (by kernel_rfl) (by kernel_rfl) ⟨Contract0.inst (join2 ([(↑(n / 256) : Int), (↑(n % 256) : Int)]) l 0 2 o n (by simp only [and_true, List.length_set, List.length_append, List.length_replicate, List.length_take, List.length_drop, List.length_map, List.length_cons, List.length_nil, List.length_zipWith, splice_len1, W.le_len, W.bts_len, Int.toNat_natCast, addO_eq, mulE_eq, mulE_one]; omega) (by omega) (by omega)) [.b 306 1 true [], .b 274 2 true [], .b 1 3 true []] [none] [(4, 322)] [] (by kernel_rfl) (by kernel_rfl) (by kernel_rfl) (by kernel_rfl) (by kernel_rfl), .mk (by omega), .mk (decide_eq_false h1), .mk (beq_f h0), trivial⟩) [.b 1 1 true] [] [(322, 2)] [] (by kernel_rfl) (by kernel_rfl) (by kernel_rfl) (by kernel_rfl) (by kernel_rfl)


theorem rlen_t (l : List Int) (o n : Nat)
    (hl : o + n ≤ l.length)
    (hs : n ≤ 1073741824)
    (h0 : ((↑n : Int) < (2 : Int))) :
    Contract0 Try.prog 80 [(.c (.sl 1 0 o n 1))] [(1, (.one ⟨false, false, (.ints .u8 l)⟩))] 2 (.tup [(.c (.int .i64 0)), (.c (.bool (false)))]) [] [] :=
  Contract0.of_frun (res := (.tup [(.c (.int .i64 0)), (.c (.bool (false)))])) (up := []) (kill := []) (n0 := 2) (m := [(1, (.one ⟨false, false, (.ints .u8 l)⟩))]) (args := [(.c (.sl 1 0 o n 1))]) (fn := Try.f80) (c := bodyOf Try.f80) (fuel := 300) (k := kOf Try.prog Try.f80) (outs := []) (hs := [(4, ⟨.auto, some (.c (.bool (true)))⟩)])
    (cs := [EB (decide ((↑n : Int) < 2)) true])
    mixed Try.func80 (by kernel_rfl) (by kernel_rfl) (by kernel_rfl) (by kernel_rfl) (by kernel_rfl) ⟨.mk (decide_eq_true h0), trivial⟩

theorem rlen_f (l : List Int) (o n : Nat)
    (hl : o + n ≤ l.length)
    (hs : n ≤ 1073741824)
    (h0 : (¬(↑n : Int) < (2 : Int))) :
    Contract0 Try.prog 80 [(.c (.sl 1 0 o n 1))] [(1, (.one ⟨false, false, (.ints .u8 l)⟩))] 2 (.tup [(.c (.int .i64 (bOr IntKind.i64 (IntKind.wrap IntKind.i64 (IntKind.wrap IntKind.i64 (List.getD l o 0) * 256)) (IntKind.wrap IntKind.i64 (List.getD l (o + 1) 0))))), (.c (.bool (true)))]) [] [] :=
  Contract0.of_frun (res := (.tup [(.c (.int .i64 (bOr IntKind.i64 (IntKind.wrap IntKind.i64 (IntKind.wrap IntKind.i64 (List.getD l o 0) * 256)) (IntKind.wrap IntKind.i64 (List.getD l (o + 1) 0))))), (.c (.bool (true)))])) (up := []) (kill := []) (n0 := 2) (m := [(1, (.one ⟨false, false, (.ints .u8 l)⟩))]) (args := [(.c (.sl 1 0 o n 1))]) (fn := Try.f80) (c := bodyOf Try.f80) (fuel := 300) (k := kOf Try.prog Try.f80) (outs := []) (hs := [(4, ⟨.auto, some (.c (.bool (false)))⟩), (7, ⟨.ask, some (.c (.ptr 1 0 o))⟩), (8, ⟨.ask, none⟩), (12, ⟨.ask, some (.c (.ptr 1 0 (o + 1)))⟩), (13, ⟨.ask, none⟩)])
    (cs := [(o + (1 : Nat) + (1 : Nat) ≤ List.length l),
      ((.c (.ptr 1 0 (addO o 1))) : V) = (.c (.ptr 1 0 (o + 1))),
      ((0 : Int) ≤ (1 : Int) ∧ (1 : Int) < (↑n : Int)),
      (o + (1 : Nat) ≤ List.length l),
      ((.c (.ptr 1 0 (addO o 0))) : V) = (.c (.ptr 1 0 o)),
      ((0 : Int) ≤ (0 : Int) ∧ (0 : Int) < (↑n : Int)),
      EB (decide ((↑n : Int) < 2)) false])
    mixed Try.func80 (by kernel_rfl) (by kernel_rfl) (by kernel_rfl) (by kernel_rfl) (by kernel_rfl) ⟨(by omega), EV.ptr (by simp only [addO_eq, mulE_eq, mulE_one, Int.toNat_natCast, IntKind.wrap_i64, mmin, mmax]), (by omega), (by omega), EV.ptr (by simp only [addO_eq, mulE_eq, mulE_one, Int.toNat_natCast, IntKind.wrap_i64, mmin, mmax]; omega), (by omega), .mk (decide_eq_false h0), trivial⟩


theorem newHalf (ex h : Bool) (n K : Int) :
    Contract0 Try.prog 36 [(.c (.ptr 1 0 0))] [(1, (.one ⟨true, ex, (.cells ((W.bts K).map (C.int .u8) ++ [(.bool h), (.int .u64 n)]))⟩))] 2 (.c (.ptr 2 0 0)) [] [(1, (.one ⟨true, ex, (.cells ((W.bts K).map (C.int .u8) ++ [(.bool h), (.int .u64 n)]))⟩)), (2, (.one ⟨true, true, (.cells [(.ptr 1 0 0), (.int .i64 0), (.bool (false))])⟩))] :=
  Contract0.renum (Contract0.of_frun (res := (.c (.ptr 82 0 0))) (up := [(1, (.one ⟨true, ex, (.cells ((W.bts K).map (C.int .u8) ++ [(.bool h), (.int .u64 n)]))⟩)), (82, (.one ⟨true, true, (.cells [(.ptr 1 0 0), (.int .i64 0), (.bool (false))])⟩))]) (kill := []) (n0 := 2) (m := [(1, (.one ⟨true, ex, (.cells ((W.bts K).map (C.int .u8) ++ [(.bool h), (.int .u64 n)]))⟩))]) (args := [(.c (.ptr 1 0 0))]) (fn := Try.f36) (c := bodyOf Try.f36) (fuel := 300) (k := kOf Try.prog Try.f36) (outs := [1, 82]) (hs := [])
    (cs := [])
    mixed Try.func36 (by kernel_rfl) (by kernel_rfl) (by kernel_rfl) (by kernel_rfl) (by kernel_rfl) trivial) [.b 1 1 false] [] [(82, 2)] [] (by kernel_rfl) (by kernel_rfl) (by kernel_rfl) (by kernel_rfl) (by kernel_rfl)


theorem newReader :
    Contract0 Try.prog 39 [] [] 1 (.c (.ptr 1 0 0)) [] [(1, (.one ⟨true, true, (.cells [.nils, (.bool (false))])⟩))] :=
  Contract0.renum (Contract0.of_frun (res := (.c (.ptr 33 0 0))) (up := [(33, (.one ⟨true, true, (.cells [.nils, (.bool (false))])⟩))]) (kill := []) (n0 := 1) (m := []) (args := []) (fn := Try.f39) (c := bodyOf Try.f39) (fuel := 300) (k := kOf Try.prog Try.f39) (outs := [33]) (hs := [])
    (cs := [])
    mixed Try.func39 (by kernel_rfl) (by kernel_rfl) (by kernel_rfl) (by kernel_rfl) (by kernel_rfl) trivial) [] [] [(33, 1)] [] (by kernel_rfl) (by kernel_rfl) (by kernel_rfl) (by kernel_rfl) (by kernel_rfl)


theorem hcount (cnt : Int) (bad h : Bool) (n K : Int) :
    Contract0 Try.prog 38 [(.c (.ptr 1 0 0))] [(1, (.one ⟨false, false, (.cells [(.ptr 2 0 0), (.int .i64 cnt), (.bool bad)])⟩)), (2, (.one ⟨false, false, (.cells ((W.bts K).map (C.int .u8) ++ [(.bool h), (.int .u64 n)]))⟩))] 3 (.c (.int .i64 cnt)) [] [] :=
  Contract0.of_frun (res := (.c (.int .i64 cnt))) (up := []) (kill := []) (n0 := 3) (m := [(1, (.one ⟨false, false, (.cells [(.ptr 2 0 0), (.int .i64 cnt), (.bool bad)])⟩)), (2, (.one ⟨false, false, (.cells ((W.bts K).map (C.int .u8) ++ [(.bool h), (.int .u64 n)]))⟩))]) (args := [(.c (.ptr 1 0 0))]) (fn := Try.f38) (c := bodyOf Try.f38) (fuel := 300) (k := kOf Try.prog Try.f38) (outs := []) (hs := [])
    (cs := [])
    mixed Try.func38 (by kernel_rfl) (by kernel_rfl) (by kernel_rfl) (by kernel_rfl) (by kernel_rfl) trivial


theorem hcounts_f (ex : Bool) (cnt n K : Int) (bad : Bool)
    (hc : 0 ≤ cnt ∧ cnt < 1000000)
    (h0 : (¬Int.tmod (cnt + (1 : Int)) (16 : Int) = (0 : Int))) :
    Contract0 Try.prog 79 [(.c (.ptr 1 0 0))] [(1, (.one ⟨true, ex, (.cells [(.ptr 2 0 0), (.int .i64 cnt), (.bool bad)])⟩)), (2, (.one ⟨true, ex, (.cells ((W.bts K).map (C.int .u8) ++ [(.bool (true)), (.int .u64 n)]))⟩))] 3 (.tup []) [] [(1, (.one ⟨true, ex, (.cells [(.ptr 2 0 0), (.int .i64 (cnt + 1)), (.bool bad)])⟩)), (2, (.one ⟨true, ex, (.cells ((W.bts K).map (C.int .u8) ++ [(.bool (true)), (.int .u64 n)]))⟩))] :=
  Contract0.renum (Contract0.of_frun (res := (.tup [])) (up := [(1, (.one ⟨true, ex, (.cells [(.ptr 2 0 0), (.int .i64 (cnt + 1)), (.bool bad)])⟩)), (2, (.one ⟨true, ex, (.cells ((W.bts K).map (C.int .u8) ++ [(.bool (true)), (.int .u64 n)]))⟩))]) (kill := []) (n0 := 3) (m := [(1, (.one ⟨true, ex, (.cells [(.ptr 2 0 0), (.int .i64 cnt), (.bool bad)])⟩)), (2, (.one ⟨true, ex, (.cells ((W.bts K).map (C.int .u8) ++ [(.bool (true)), (.int .u64 n)]))⟩))]) (args := [(.c (.ptr 1 0 0))]) (fn := Try.f79) (c := bodyOf Try.f79) (fuel := 300) (k := kOf Try.prog Try.f79) (outs := [1, 2]) (hs := [(4, ⟨.auto, some (.c (.int .i64 (cnt + 1)))⟩), (13, ⟨.auto, some (.c (.bool (false)))⟩)])
    (cs := [EB (Int.tmod (cnt + 1) 16 == 0) false,
      EI .i64 (IntKind.wrap IntKind.i64 (cnt + 1)) (cnt + 1)])
    mixed Try.func79 (by kernel_rfl) (by kernel_rfl) (by kernel_rfl) (by kernel_rfl) (by kernel_rfl) ⟨.mk (beq_f h0), .mk (by simp only [addO_eq, mulE_eq, mulE_one, Int.toNat_natCast, IntKind.wrap_i64, mmin, mmax]; omega), trivial⟩) [.b 1 1 false, .b 2 2 false] [] [] [] (by kernel_rfl) (by kernel_rfl) (by kernel_rfl) (by kernel_rfl) (by kernel_rfl)


end Go.Proofs.Ytmfnldkiaodkpaa.Vm

namespace Go.Proofs.Ytmfnldkiaodkpaa
/-- A text of n bytes in its bucket. -/
def W.padd (n : Nat) (t : List Int) : List Int := [((n / 256 : Nat) : Int), ((n % 256 : Nat) : Int)] ++ t ++ List.replicate (W.bkt n - 2 - n) 0
/-- A frame around n bytes. -/
def W.frm (n : Nat) (t : List Int) : List Int := [((n / 256 : Nat) : Int), ((n % 256 : Nat) : Int)] ++ t
theorem W.padd_len {n : Nat} {t : List Int} : (W.padd n t).length = 2 + t.length + (W.bkt n - 2 - n) := by simp [W.padd]; omega
theorem W.frm_len {n : Nat} {t : List Int} : (W.frm n t).length = 2 + t.length := by simp [W.frm]; omega
theorem W.frm_bytes {n : Nat} {t : List Int} (h : n < 65536) (ht : W.bytes t) : W.bytes (W.frm n t) := by
  intro x hx
  simp only [W.frm, List.cons_append, List.nil_append, List.mem_cons] at hx
  rcases hx with rfl | rfl | hx
  · omega
  · omega
  · exact ht x hx
theorem W.padd_bytes {n : Nat} {t : List Int} (h : n < 65536) (ht : W.bytes t) : W.bytes (W.padd n t) := by
  intro x hx
  simp only [W.padd, List.cons_append, List.nil_append, List.mem_cons, List.mem_append, List.mem_replicate] at hx
  rcases hx with rfl | rfl | hx | hx
  · omega
  · omega
  · exact ht x hx
  · omega
end Go.Proofs.Ytmfnldkiaodkpaa
namespace Go.Proofs.Ytmfnldkiaodkpaa.Vm
open Go Go.Proofs Go.Proofs.Ytmfnldkiaodkpaa
theorem pad_ok (l : List Int) (o n : Nat) (hl : o + n ≤ l.length) (hn : n ≤ 3966) :
    Contract0 Try.prog 77 [(.c (.sl 1 0 o n 1))] [(1, (.one ⟨false, false, (.ints .u8 l)⟩))] 2 (.tup [(.c (.sl 2 0 0 (W.bkt n) 1)), (.c (.int .i64 0))]) [] [(2, (.one ⟨true, false, (.ints .u8 (W.padd n (List.take n (List.drop o l))))⟩))] := by
  have h := pad_raw l o n hl hn (W.bkt_ge hn) W.bkt_le
  have e : 2 + n + (W.bkt n - 2 - n) = W.bkt n := by have := W.bkt_ge hn; omega
  have e2 : List.take 2 [((n / 256 : Nat) : Int), ((n % 256 : Nat) : Int)] ++ List.take n (List.drop o l) ++ List.take (W.bkt n - 2 - n) (List.replicate (W.bkt n - 2 - n) 0) = W.padd n (List.take n (List.drop o l)) := by
    simp [W.padd, List.take_replicate]
  rw [e, e2] at h
  exact h
theorem frame_ok (l : List Int) (o n : Nat) (hl : o + n ≤ l.length) (h0 : 0 < n) (h1 : n ≤ 4096) :
    Contract0 Try.prog 40 [(.c (.sl 1 0 o n 1))] [(1, (.one ⟨false, false, (.ints .u8 l)⟩))] 2 (.tup [(.c (.sl 2 0 0 (2 + n) 1)), (.c (.int .i64 0))]) [] [(2, (.one ⟨true, false, (.ints .u8 (W.frm n (List.take n (List.drop o l))))⟩))] :=
  frame_ff l o n hl (by omega) (by omega) (by omega)
end Go.Proofs.Ytmfnldkiaodkpaa.Vm

namespace Go.Proofs.Ytmfnldkiaodkpaa.Vm
open Go Go.Proofs Go.Proofs.Ytmfnldkiaodkpaa
set_option maxRecDepth 100000
theorem hsealr_c1 (ex : Bool) (cnt n K : Int) (l : List Int) (o q : Nat)
    (hl : o + q ≤ l.length)
    (hlb : W.bytes l)
    (hq : q ≤ 3966)
    (hn : 0 ≤ n ∧ n < 18446744073709551616)
    (hL : ¬ n = 18446744073709551615)
    (hc : 0 ≤ cnt ∧ cnt < 1000000)
    (hb : q + 2 ≤ W.bkt q)
    (hd : W.bkt q ≤ 3968)
    (c0 : (W.bytes (W.padd q (List.take q (List.drop o l)))))
    (c1 : (¬Int.tmod (cnt + (1 : Int)) (16 : Int) = (0 : Int))) :
    Contract0 Try.prog 37 [(.c (.ptr 1 0 0)), (.c (.sl 3 0 o q 1))] [(1, (.one ⟨true, ex, (.cells [(.ptr 2 0 0), (.int .i64 cnt), (.bool (false))])⟩)), (2, (.one ⟨true, ex, (.cells ((W.bts K).map (C.int .u8) ++ [(.bool (true)), (.int .u64 n)]))⟩)), (3, (.one ⟨false, false, (.ints .u8 l)⟩))] 4 (.tup [(.c (.sl 4 0 0 (2 + (W.bkt q + 16)) 1)), (.c (.int .i64 0))]) [] [(1, (.one ⟨true, ex, (.cells [(.ptr 2 0 0), (.int .i64 (cnt + 1)), (.bool (false))])⟩)), (2, (.one ⟨true, ex, (.cells ((W.bts K).map (C.int .u8) ++ [(.bool (true)), (.int .u64 (n + 1))]))⟩)), (4, (.one ⟨true, false, (.ints .u8 (W.frm (W.bkt q + 16) (List.take (W.bkt q + 16) (W.box (W.bts K) (W.nonce n) (List.take 0 []) (List.take (W.bkt q) (W.padd q (List.take q (List.drop o l))))))))⟩))] :=
  Contract0.renum (Contract0.of_frun (res := (.tup [(.c (.sl 500 0 0 (2 + (W.bkt q + 16)) 1)), (.c (.int .i64 0))])) (up := [(1, (.one ⟨true, ex, (.cells [(.ptr 2 0 0), (.int .i64 (cnt + 1)), (.bool (false))])⟩)), (2, (.one ⟨true, ex, (.cells ((W.bts K).map (C.int .u8) ++ [(.bool (true)), (.int .u64 (n + 1))]))⟩)), (500, (.one ⟨true, false, (.ints .u8 (W.frm (W.bkt q + 16) (List.take (W.bkt q + 16) (W.box (W.bts K) (W.nonce n) (List.take 0 []) (List.take (W.bkt q) (W.padd q (List.take q (List.drop o l))))))))⟩))]) (kill := []) (n0 := 4) (m := [(1, (.one ⟨true, ex, (.cells [(.ptr 2 0 0), (.int .i64 cnt), (.bool (false))])⟩)), (2, (.one ⟨true, ex, (.cells ((W.bts K).map (C.int .u8) ++ [(.bool (true)), (.int .u64 n)]))⟩)), (3, (.one ⟨false, false, (.ints .u8 l)⟩))]) (args := [(.c (.ptr 1 0 0)), (.c (.sl 3 0 o q 1))]) (fn := Try.f37) (c := bodyOf Try.f37) (fuel := 300) (k := kOf Try.prog Try.f37) (outs := [1, 2, 500]) (hs := [(8, ⟨.call [3] (.tup [(.c (.sl 116 0 0 (W.bkt q) 1)), (.c (.int .i64 0))]) [] [(116, (.one ⟨true, false, (.ints .u8 (W.padd q (List.take q (List.drop o l))))⟩))], none⟩), (22, ⟨.call [2, 116] (.tup [(.c (.sl 324 0 0 (W.bkt q + 16) 1)), (.c (.int .i64 0))]) [] [(2, (.one ⟨true, ex, (.cells ((W.bts K).map (C.int .u8) ++ [(.bool (true)), (.int .u64 (n + 1))]))⟩)), (324, (.one ⟨true, false, (.ints .u8 (W.box (W.bts K) (W.nonce n) (List.take 0 []) (List.take (W.bkt q) (W.padd q (List.take q (List.drop o l))))))⟩))], none⟩), (32, ⟨.call [1, 2] (.tup []) [] [(1, (.one ⟨true, ex, (.cells [(.ptr 2 0 0), (.int .i64 (cnt + 1)), (.bool (false))])⟩)), (2, (.one ⟨true, ex, (.cells ((W.bts K).map (C.int .u8) ++ [(.bool (true)), (.int .u64 (n + 1))]))⟩))], none⟩), (34, ⟨.call [324] (.tup [(.c (.sl 500 0 0 (2 + (W.bkt q + 16)) 1)), (.c (.int .i64 0))]) [] [(500, (.one ⟨true, false, (.ints .u8 (W.frm (W.bkt q + 16) (List.take (W.bkt q + 16) (W.box (W.bts K) (W.nonce n) (List.take 0 []) (List.take (W.bkt q) (W.padd q (List.take q (List.drop o l))))))))⟩))], none⟩)])
    (cs := [Contract Try.prog 40 [(.c (.sl 324 0 0 (W.bkt q + 16) 1))] [(324, (.one ⟨true, false, (.ints .u8 (W.box (W.bts K) (W.nonce n) (List.take 0 []) (List.take (W.bkt q) (W.padd q (List.take q (List.drop o l))))))⟩))] 500 (.tup [(.c (.sl 500 0 0 (2 + (W.bkt q + 16)) 1)), (.c (.int .i64 0))]) [] [(500, (.one ⟨true, false, (.ints .u8 (W.frm (W.bkt q + 16) (List.take (W.bkt q + 16) (W.box (W.bts K) (W.nonce n) (List.take 0 []) (List.take (W.bkt q) (W.padd q (List.take q (List.drop o l))))))))⟩))],
      Contract Try.prog 79 [(.c (.ptr 1 0 0))] [(1, (.one ⟨true, ex, (.cells [(.ptr 2 0 0), (.int .i64 cnt), (.bool (false))])⟩)), (2, (.one ⟨true, ex, (.cells ((W.bts K).map (C.int .u8) ++ [(.bool (true)), (.int .u64 (n + 1))]))⟩))] 468 (.tup []) [] [(1, (.one ⟨true, ex, (.cells [(.ptr 2 0 0), (.int .i64 (cnt + 1)), (.bool (false))])⟩)), (2, (.one ⟨true, ex, (.cells ((W.bts K).map (C.int .u8) ++ [(.bool (true)), (.int .u64 (n + 1))]))⟩))],
      Contract Try.prog 31 [(.c (.ptr 2 0 0)), (.c .nils), (.c (.sl 116 0 0 (W.bkt q) 1))] [(2, (.one ⟨true, ex, (.cells ((W.bts K).map (C.int .u8) ++ [(.bool (true)), (.int .u64 n)]))⟩)), (116, (.one ⟨true, false, (.ints .u8 (W.padd q (List.take q (List.drop o l))))⟩))] 324 (.tup [(.c (.sl 324 0 0 (W.bkt q + 16) 1)), (.c (.int .i64 0))]) [] [(2, (.one ⟨true, ex, (.cells ((W.bts K).map (C.int .u8) ++ [(.bool (true)), (.int .u64 (n + 1))]))⟩)), (324, (.one ⟨true, false, (.ints .u8 (W.box (W.bts K) (W.nonce n) (List.take 0 []) (List.take (W.bkt q) (W.padd q (List.take q (List.drop o l))))))⟩))],
      Contract Try.prog 77 [(.c (.sl 3 0 o q 1))] [(3, (.one ⟨false, false, (.ints .u8 l)⟩))] 116 (.tup [(.c (.sl 116 0 0 (W.bkt q) 1)), (.c (.int .i64 0))]) [] [(116, (.one ⟨true, false, (.ints .u8 (W.padd q (List.take q (List.drop o l))))⟩))]])
    mixed Try.func37 (by kernel_rfl) (by kernel_rfl) (by kernel_rfl) (by kernel_rfl) (by kernel_rfl) ⟨Contract0.inst (frame_ok (W.box (W.bts K) (W.nonce n) (List.take 0 []) (List.take (W.bkt q) (W.padd q (List.take q (List.drop o l))))) 0 (W.bkt q + 16) (by simp only [and_true, List.length_set, List.length_append, List.length_replicate, List.length_take, List.length_drop, List.length_map, List.length_cons, List.length_nil, List.length_zipWith, splice_len1, W.le_len, W.bts_len, Int.toNat_natCast, addO_eq, mulE_eq, mulE_one, W.once_len, W.block_len, W.p8_len, W.apply_len, W.boxTag_len, W.box_len, W.nonce_len, W.hand_len, W.tag_len, W.padd_len, W.frm_len]; omega) (by omega) (by omega)) [.b 324 1 true []] [none] [(2, 500)] [] (by kernel_rfl) (by kernel_rfl) (by kernel_rfl) (by kernel_rfl) (by kernel_rfl), Contract0.inst (hcounts_f ex cnt (n + 1) K false (by omega) c1) [.b 1 1 false [], .b 2 2 false []] [none] [] [] (by kernel_rfl) (by kernel_rfl) (by kernel_rfl) (by kernel_rfl) (by kernel_rfl), Contract0.inst (csealK ex n K [] (W.padd q (List.take q (List.drop o l))) 0 0 0 (W.bkt q) (by omega) (by omega) (by simp only [and_true, List.length_set, List.length_append, List.length_replicate, List.length_take, List.length_drop, List.length_map, List.length_cons, List.length_nil, List.length_zipWith, splice_len1, W.le_len, W.bts_len, Int.toNat_natCast, addO_eq, mulE_eq, mulE_one, W.once_len, W.block_len, W.p8_len, W.apply_len, W.boxTag_len, W.box_len, W.nonce_len, W.hand_len, W.tag_len, W.padd_len, W.frm_len]; omega) (by omega) (by omega) (by repeat' with_reducible first | assumption | exact W.p8_bytes | exact W.bytes_zero | exact W.apply_bytes | exact W.once_bytes | exact W.tag_bytes | exact W.boxTag_bytes | exact W.box_bytes | exact W.bytes_nil | exact W.bts_bytes | exact W.le_bytes | exact W.hand_bytes | exact W.padd_bytes | exact W.frm_bytes | apply W.bytes_app | apply W.bytes_take | apply W.bytes_drop) c0 (by omega)) [.b 2 1 false [], .z 2 (.ints .u8 []), .b 116 3 true []] [none, some (2, 1), none] [(4, 324)] [] (by kernel_rfl) (by kernel_rfl) (by kernel_rfl) (by kernel_rfl) (by kernel_rfl), Contract0.inst (pad_ok l o q (by omega) (by omega)) [.b 3 1 true []] [none] [(2, 116)] [] (by kernel_rfl) (by kernel_rfl) (by kernel_rfl) (by kernel_rfl) (by kernel_rfl), trivial⟩) [.b 1 1 false, .b 2 2 false, .b 3 3 true] [] [(500, 4)] [] (by kernel_rfl) (by kernel_rfl) (by kernel_rfl) (by kernel_rfl) (by kernel_rfl)


end Go.Proofs.Ytmfnldkiaodkpaa.Vm

namespace Go.Proofs.Ytmfnldkiaodkpaa
/-- A record: a text of q bytes in its bucket, sealed, in a frame. -/
def W.rcd (K n : Int) (q : Nat) (t : List Int) : List Int := W.frm (W.bkt q + 16) (W.box (W.bts K) (W.nonce n) [] (W.padd q t))
theorem W.padd_len' {q : Nat} {t : List Int} (h : q ≤ 3966) (ht : t.length = q) : (W.padd q t).length = W.bkt q := by
  have := W.bkt_ge h
  rw [W.padd_len, ht]; omega
end Go.Proofs.Ytmfnldkiaodkpaa
namespace Go.Proofs.Ytmfnldkiaodkpaa.Vm
open Go Go.Proofs Go.Proofs.Ytmfnldkiaodkpaa
theorem rcd_eq {K n : Int} {l : List Int} {o q : Nat} (hl : o + q ≤ l.length) (h : q ≤ 3966) :
    W.frm (W.bkt q + 16) (List.take (W.bkt q + 16) (W.box (W.bts K) (W.nonce n) (List.take 0 []) (List.take (W.bkt q) (W.padd q (List.take q (List.drop o l)))))) = W.rcd K n q (List.take q (List.drop o l)) := by
  have e := W.padd_len' h (seg_len hl)
  have e2 : List.take (W.bkt q) (W.padd q (List.take q (List.drop o l))) = W.padd q (List.take q (List.drop o l)) := List.take_of_length_le (by omega)
  rw [e2, List.take_of_length_le (by rw [W.box_len, e]; exact Nat.le_refl _)]
  rfl
theorem hseal_f (ex : Bool) (cnt n K : Int) (l : List Int) (o q : Nat) (h0_ : o + q ≤ l.length) (h1_ : W.bytes l) (h2_ : q ≤ 3966) (h3_ : 0 ≤ n ∧ n < 18446744073709551616) (h4_ : ¬ n = 18446744073709551615) (h5_ : 0 ≤ cnt ∧ cnt < 1000000) (h6_ : ¬ (cnt + 1) % 16 = 0) : Contract0 Try.prog 37 [(.c (.ptr 1 0 0)), (.c (.sl 3 0 o q 1))] [(1, (.one ⟨true, ex, .cells [.ptr 2 0 0, .int .i64 cnt, .bool false]⟩)), (2, (.one ⟨true, ex, .cells ((W.bts K).map (C.int .u8) ++ [.bool true, .int .u64 n])⟩)), (3, (.one ⟨false, false, (.ints .u8 l)⟩))] 4 (.tup [(.c (.sl 4 0 0 (W.bkt q + 18) 1)), (.c (.int .i64 0))]) [] [(1, (.one ⟨true, ex, .cells [.ptr 2 0 0, .int .i64 (cnt + 1), .bool false]⟩)), (2, (.one ⟨true, ex, .cells ((W.bts K).map (C.int .u8) ++ [.bool true, .int .u64 (n + 1)])⟩)), (4, (.one ⟨true, false, (.ints .u8 (W.rcd K n q (List.take q (List.drop o l))))⟩))] := by
  have h := hsealr_c1 ex cnt n K l o q h0_ h1_ h2_ h3_ h4_ h5_ (W.bkt_ge h2_) W.bkt_le (W.padd_bytes (by omega) fun x hx => h1_ x (List.mem_of_mem_drop (List.mem_of_mem_take hx))) (by rw [Int.tmod_eq_emod_of_nonneg (by omega)]; exact h6_)
  have e : 2 + (W.bkt q + 16) = W.bkt q + 18 := by omega
  rw [rcd_eq h0_ h2_, e] at h
  exact h
end Go.Proofs.Ytmfnldkiaodkpaa.Vm
