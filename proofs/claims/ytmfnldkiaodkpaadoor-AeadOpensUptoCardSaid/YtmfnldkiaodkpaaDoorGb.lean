/- What functions of the program come to: parts of the walk (Gb). -/
import Derived.Test.YtmfnldkiaodkpaaDoorDg
import Derived.Test.YtmfnldkiaodkpaaDoorPw
import Derived.KernelRfl
import Derived.Test.YtmfnldkiaodkpaaDoorProg
set_option linter.unusedSimpArgs false
set_option linter.unusedVariables false
namespace Go.Proofs.YtmfnldkiaodkpaaDoor.Vm
open Go Go.Proofs Go.Proofs.YtmfnldkiaodkpaaDoor
set_option maxRecDepth 100000
noncomputable def LGaI (l : List Int) (o n n0 : Nat) (l1 : List Int) (i2 : Nat) : S0 :=
  ⟨[(0, (.c (.sl 1 0 o n 1))), (2, (.c .nils)), (3, (.c (.sl 50 0 0 n0 1))), (4, (.c (.int .i64 ((↑i2 : Int)))))], [(1, (.one ⟨false, false, (.ints .u8 l)⟩)), (50, (.one ⟨true, false, (.ints .u32 l1)⟩))], 66⟩
theorem LGa_by {α : Type} (I : α → S0) (Inv : α → Prop) (μ : α → Nat) {ex : Ex} {s' : S0} (hex : ex ≠ .normal)
    (step : ∀ x, Inv x → (∃ y, Inv y ∧ μ y < μ x ∧ CodeOk Tryd.prog 20 50 (kAt (kOf Tryd.prog Tryd.f121) [true, true, false, true, false, false]) (I x) .normal (I y)) ∨ CodeOk Tryd.prog 20 50 (kAt (kOf Tryd.prog Tryd.f121) [true, true, false, true, false, false]) (I x) ex s') (x : α) (hx : Inv x) :
    CodeOk Tryd.prog 20 50 (kAt (kOf Tryd.prog Tryd.f121) [true, true, false, true, false]) (I x) ex s' := by
  have hk : (kAt (kOf Tryd.prog Tryd.f121) [true, true, false, true, false]) = .loop (kAt (kOf Tryd.prog Tryd.f121) [true, true, false, true, false, false]) := by kernel_rfl
  rw [hk]
  exact CodeOk.loop I Inv μ hex step x hx
noncomputable def LGa0 (l : List Int) (o n : Nat) : S0 :=
  ⟨[(0, (.c (.sl 1 0 o n 1))), (2, (.c .nils)), (3, (.c .nils)), (4, (.c (.int .i64 0)))], [(1, (.one ⟨false, false, (.ints .u8 l)⟩))], 50⟩
theorem LGa_enter (l : List Int) (o n : Nat) {ex : Ex} {s' : S0} (h : CodeOk Tryd.prog 20 50 (kAt (kOf Tryd.prog Tryd.f121) [true, true, false, true, false]) (LGaI l o n 0 [] 0) ex s') :
    CodeOk Tryd.prog 20 50 (kAt (kOf Tryd.prog Tryd.f121) [true, true, false, true, false]) (LGa0 l o n) ex s' :=
  CodeOk.wnil (nx := 50) (nx' := 66) [(3, 1)] 50 (.ints .u32 []) rfl (by decide) (by decide) (CodeOk.pre (v := ⟨[0, 2, 3, 4], [1, 50], [(50, 50)], 66⟩) (by kernel_rfl) (by kernel_rfl) h)
theorem LGa_rt (l : List Int) (o n n0 : Nat) (l1 : List Int) (i2 : Nat)
    (hl : o + n ≤ l.length)
    (hn : n ≤ 1073741824)
    (h2 : ((↑i2 : Int) < (↑n : Int)))
    (c3 : ((1 : Nat) ≤ (1 : Nat) ∧ (5 : Nat) * (n0 + (1 : Nat)) ≤ (4398046511104 : Nat) ∧ (0 : Nat) + n0 * (1 : Nat) ≤ List.length l1)) :
    CodeOk Tryd.prog 20 50 (kAt (kOf Tryd.prog Tryd.f121) [true, true, false, true, false, false]) (LGaI l o n n0 l1 i2) .normal (LGaI l o n (n0 + 1) (List.take n0 l1 ++ [List.getD l (o + i2) 0 % 4294967296]) (i2 + 1)) :=
  CodeOk.of_runs (fuel := 300) (v := ⟨[0, 2, 3, 4], [1, 242], [(242, 50)], 66⟩) (hs := [(3, ⟨.auto, some (.c (.bool (true)))⟩), (8, ⟨.ask, some (.c (.ptr 1 0 (o + i2)))⟩), (9, ⟨.ask, none⟩), (12, ⟨.ask, some (.c (.sl 242 0 0 (n0 + 1) 1))⟩), (15, ⟨.auto, some (.c (.int .i64 (↑(i2 + 1))))⟩)])
    (cs := [EI .i64 (IntKind.wrap IntKind.i64 ((↑i2 : Int) + 1)) ((↑(i2 + 1) : Int)),
      ((.c (.sl 242 0 0 (addO n0 1) 1)) : V) = (.c (.sl 242 0 0 (n0 + 1) 1)),
      ((1 : Nat) ≤ (1 : Nat) ∧ (5 : Nat) * (n0 + (1 : Nat)) ≤ (4398046511104 : Nat) ∧ (0 : Nat) + n0 * (1 : Nat) ≤ List.length l1),
      (o + i2 + (1 : Nat) ≤ List.length l),
      ((.c (.ptr 1 0 (addO o i2))) : V) = (.c (.ptr 1 0 (o + i2))),
      ((0 : Int) ≤ (↑i2 : Int) ∧ (↑i2 : Int) < (↑n : Int)),
      EB (decide ((↑i2 : Int) < (↑n : Int))) true])
    mixed (by kernel_rfl) ⟨.mk (by simp only [addO_eq, mulE_eq, mulE_one, Int.toNat_natCast, IntKind.wrap_i64, mmin, mmax]; omega), EV.sl (by rfl) (by simp only [addO_eq, mulE_eq, mulE_one, Int.toNat_natCast, IntKind.wrap_i64, mmin, mmax]), c3, (by omega), EV.ptr (by simp only [addO_eq, mulE_eq, mulE_one, Int.toNat_natCast, IntKind.wrap_i64, mmin, mmax]), (by omega), .mk (decide_eq_true h2), trivial⟩
theorem LGa_xf (l : List Int) (o n n0 : Nat) (l1 : List Int) (i2 : Nat)
    (hl : o + n ≤ l.length)
    (hn : n ≤ 1073741824)
    (h2 : (¬(↑i2 : Int) < (↑n : Int))) :
    CodeOk Tryd.prog 20 50 (kAt (kOf Tryd.prog Tryd.f121) [true, true, false, true, false, false]) (LGaI l o n n0 l1 i2) (.exit 0) (LGaI l o n n0 l1 i2) :=
  CodeOk.of_runs (fuel := 300) (v := ⟨[0, 2, 3, 4], [1, 50], [(50, 50)], 66⟩) (hs := [(3, ⟨.auto, some (.c (.bool (false)))⟩)])
    (cs := [EB (decide ((↑i2 : Int) < (↑n : Int))) false])
    mixed (by kernel_rfl) ⟨.mk (decide_eq_false h2), trivial⟩

noncomputable def LPaI (a b : List Int) (n m : Nat) (c : Int) (i n2 : Nat) (l3 : List Int) : S0 :=
  ⟨[(0, (.c (.sl 1 0 0 n 1))), (1, (.c (.sl 2 0 0 m 1))), (4, (.c .nils)), (5, (.c (.sl 67 0 0 n2 1))), (6, (.c (.int .u32 c))), (7, (.c (.int .i64 ((↑i : Int)))))], [(1, (.one ⟨false, false, (.ints .u32 a)⟩)), (2, (.one ⟨false, false, (.ints .u32 b)⟩)), (67, (.one ⟨true, false, (.ints .u32 l3)⟩))], 83⟩
theorem LPa_by {α : Type} (I : α → S0) (Inv : α → Prop) (μ : α → Nat) {ex : Ex} {s' : S0} (hex : ex ≠ .normal)
    (step : ∀ x, Inv x → (∃ y, Inv y ∧ μ y < μ x ∧ CodeOk Tryd.prog 52 67 (kAt (kOf Tryd.prog Tryd.f124) [true, true, true, false, true, false, false]) (I x) .normal (I y)) ∨ CodeOk Tryd.prog 52 67 (kAt (kOf Tryd.prog Tryd.f124) [true, true, true, false, true, false, false]) (I x) ex s') (x : α) (hx : Inv x) :
    CodeOk Tryd.prog 52 67 (kAt (kOf Tryd.prog Tryd.f124) [true, true, true, false, true, false]) (I x) ex s' := by
  have hk : (kAt (kOf Tryd.prog Tryd.f124) [true, true, true, false, true, false]) = .loop (kAt (kOf Tryd.prog Tryd.f124) [true, true, true, false, true, false, false]) := by kernel_rfl
  rw [hk]
  exact CodeOk.loop I Inv μ hex step x hx
noncomputable def LPa0 (a b : List Int) (n m : Nat) : S0 :=
  ⟨[(0, (.c (.sl 1 0 0 n 1))), (1, (.c (.sl 2 0 0 m 1))), (4, (.c .nils)), (5, (.c .nils)), (6, (.c (.int .u32 0))), (7, (.c (.int .i64 0)))], [(1, (.one ⟨false, false, (.ints .u32 a)⟩)), (2, (.one ⟨false, false, (.ints .u32 b)⟩))], 67⟩
theorem LPa_enter (a b : List Int) (n m : Nat) {ex : Ex} {s' : S0} (h : CodeOk Tryd.prog 52 67 (kAt (kOf Tryd.prog Tryd.f124) [true, true, true, false, true, false]) (LPaI a b n m 0 0 0 []) ex s') :
    CodeOk Tryd.prog 52 67 (kAt (kOf Tryd.prog Tryd.f124) [true, true, true, false, true, false]) (LPa0 a b n m) ex s' :=
  CodeOk.wnil (nx := 67) (nx' := 83) [(5, 1)] 67 (.ints .u32 []) rfl (by decide) (by decide) (CodeOk.pre (v := ⟨[0, 1, 4, 5, 6, 7], [1, 2, 67], [(67, 67)], 83⟩) (by kernel_rfl) (by kernel_rfl) h)
theorem LPa_rtt (a b : List Int) (n m : Nat) (c : Int) (i n2 : Nat) (l3 : List Int)
    (hn : n = a.length)
    (hm : m = b.length)
    (hs : n ≤ 67108864 ∧ m ≤ 67108864)
    (hi : i ≤ 67108865)
    (hc : 0 ≤ c ∧ c < 2)
    (hx : 0 ≤ (List.getD a i 0) ∧ (List.getD a i 0) < 256)
    (hy : 0 ≤ (List.getD b i 0) ∧ (List.getD b i 0) < 256)
    (h6 : ((↑i : Int) < (↑n : Int)))
    (h7 : ((↑i : Int) < (↑m : Int)))
    (c8 : ((1 : Nat) ≤ (1 : Nat) ∧ (5 : Nat) * (n2 + (1 : Nat)) ≤ (4398046511104 : Nat) ∧ (0 : Nat) + n2 * (1 : Nat) ≤ List.length l3)) :
    CodeOk Tryd.prog 52 67 (kAt (kOf Tryd.prog Tryd.f124) [true, true, true, false, true, false, false]) (LPaI a b n m c i n2 l3) .normal (LPaI a b n m (Int.tdiv (c + List.getD a i 0 + List.getD b i 0) 256 % 4294967296) (i + 1) (n2 + 1) (List.take n2 l3 ++ [Int.tmod (c + List.getD a i 0 + List.getD b i 0) 256])) :=
  CodeOk.of_runs (fuel := 300) (v := ⟨[0, 1, 4, 5, 6, 7], [1, 2, 723], [(723, 67)], 83⟩) (hs := [(4, ⟨.auto, some (.c (.bool (true)))⟩), (18, ⟨.auto, some (.c (.bool (true)))⟩), (23, ⟨.ask, none⟩), (24, ⟨.ask, none⟩), (25, ⟨.auto, some (.c (.int .u32 (c + List.getD a i 0)))⟩), (30, ⟨.auto, some (.c (.bool (true)))⟩), (35, ⟨.ask, none⟩), (36, ⟨.ask, none⟩), (37, ⟨.auto, some (.c (.int .u32 (c + List.getD a i 0 + List.getD b i 0)))⟩), (43, ⟨.ask, some (.c (.sl 723 0 0 (n2 + 1) 1))⟩), (49, ⟨.auto, some (.c (.int .i64 (↑(i + 1))))⟩)])
    (cs := [EI .i64 (IntKind.wrap IntKind.i64 ((↑i : Int) + 1)) ((↑(i + 1) : Int)),
      ((.c (.sl 723 0 0 (addO n2 1) 1)) : V) = (.c (.sl 723 0 0 (n2 + 1) 1)),
      ((1 : Nat) ≤ (1 : Nat) ∧ (5 : Nat) * (n2 + (1 : Nat)) ≤ (4398046511104 : Nat) ∧ (0 : Nat) + n2 * (1 : Nat) ≤ List.length l3),
      EI .u32 ((c + List.getD a i 0 + List.getD b i 0) % 4294967296) (c + List.getD a i 0 + List.getD b i 0),
      (i + (1 : Nat) ≤ List.length b),
      ((0 : Int) ≤ (↑i : Int) ∧ (↑i : Int) < (↑m : Int)),
      EB (decide ((↑i : Int) < (↑m : Int))) true,
      EI .u32 ((c + List.getD a i 0) % 4294967296) (c + List.getD a i 0),
      (i + (1 : Nat) ≤ List.length a),
      ((0 : Int) ≤ (↑i : Int) ∧ (↑i : Int) < (↑n : Int)),
      EB (decide ((↑i : Int) < (↑n : Int))) true,
      EB (decide ((↑i : Int) < (↑n : Int))) true])
    mixed (by kernel_rfl) ⟨.mk (by simp only [addO_eq, mulE_eq, mulE_one, Int.toNat_natCast, IntKind.wrap_i64, mmin, mmax]; omega), EV.sl (by rfl) (by simp only [addO_eq, mulE_eq, mulE_one, Int.toNat_natCast, IntKind.wrap_i64, mmin, mmax]), c8, .mk (by omega), (by omega), (by omega), .mk (decide_eq_true h7), .mk (by omega), (by omega), (by omega), .mk (decide_eq_true (by omega)), .mk (decide_eq_true h6), trivial⟩
theorem LPa_rtf (a b : List Int) (n m : Nat) (c : Int) (i n2 : Nat) (l3 : List Int)
    (hn : n = a.length)
    (hm : m = b.length)
    (hs : n ≤ 67108864 ∧ m ≤ 67108864)
    (hi : i ≤ 67108865)
    (hc : 0 ≤ c ∧ c < 2)
    (hx : 0 ≤ (List.getD a i 0) ∧ (List.getD a i 0) < 256)
    (hy : 0 ≤ (List.getD b i 0) ∧ (List.getD b i 0) < 256)
    (h6 : ((↑i : Int) < (↑n : Int)))
    (h7 : (¬(↑i : Int) < (↑m : Int)))
    (c8 : ((1 : Nat) ≤ (1 : Nat) ∧ (5 : Nat) * (n2 + (1 : Nat)) ≤ (4398046511104 : Nat) ∧ (0 : Nat) + n2 * (1 : Nat) ≤ List.length l3)) :
    CodeOk Tryd.prog 52 67 (kAt (kOf Tryd.prog Tryd.f124) [true, true, true, false, true, false, false]) (LPaI a b n m c i n2 l3) .normal (LPaI a b n m (Int.tdiv (c + List.getD a i 0) 256 % 4294967296) (i + 1) (n2 + 1) (List.take n2 l3 ++ [Int.tmod (c + List.getD a i 0) 256])) :=
  CodeOk.of_runs (fuel := 300) (v := ⟨[0, 1, 4, 5, 6, 7], [1, 2, 611], [(611, 67)], 83⟩) (hs := [(4, ⟨.auto, some (.c (.bool (true)))⟩), (18, ⟨.auto, some (.c (.bool (true)))⟩), (23, ⟨.ask, none⟩), (24, ⟨.ask, none⟩), (25, ⟨.auto, some (.c (.int .u32 (c + List.getD a i 0)))⟩), (30, ⟨.auto, some (.c (.bool (false)))⟩), (36, ⟨.ask, some (.c (.sl 611 0 0 (n2 + 1) 1))⟩), (42, ⟨.auto, some (.c (.int .i64 (↑(i + 1))))⟩)])
    (cs := [EI .i64 (IntKind.wrap IntKind.i64 ((↑i : Int) + 1)) ((↑(i + 1) : Int)),
      ((.c (.sl 611 0 0 (addO n2 1) 1)) : V) = (.c (.sl 611 0 0 (n2 + 1) 1)),
      ((1 : Nat) ≤ (1 : Nat) ∧ (5 : Nat) * (n2 + (1 : Nat)) ≤ (4398046511104 : Nat) ∧ (0 : Nat) + n2 * (1 : Nat) ≤ List.length l3),
      EB (decide ((↑i : Int) < (↑m : Int))) false,
      EI .u32 ((c + List.getD a i 0) % 4294967296) (c + List.getD a i 0),
      (i + (1 : Nat) ≤ List.length a),
      ((0 : Int) ≤ (↑i : Int) ∧ (↑i : Int) < (↑n : Int)),
      EB (decide ((↑i : Int) < (↑n : Int))) true,
      EB (decide ((↑i : Int) < (↑n : Int))) true])
    mixed (by kernel_rfl) ⟨.mk (by simp only [addO_eq, mulE_eq, mulE_one, Int.toNat_natCast, IntKind.wrap_i64, mmin, mmax]; omega), EV.sl (by rfl) (by simp only [addO_eq, mulE_eq, mulE_one, Int.toNat_natCast, IntKind.wrap_i64, mmin, mmax]), c8, .mk (decide_eq_false h7), .mk (by omega), (by omega), (by omega), .mk (decide_eq_true (by omega)), .mk (decide_eq_true h6), trivial⟩
theorem LPa_rft (a b : List Int) (n m : Nat) (c : Int) (i n2 : Nat) (l3 : List Int)
    (hn : n = a.length)
    (hm : m = b.length)
    (hs : n ≤ 67108864 ∧ m ≤ 67108864)
    (hi : i ≤ 67108865)
    (hc : 0 ≤ c ∧ c < 2)
    (hx : 0 ≤ (List.getD a i 0) ∧ (List.getD a i 0) < 256)
    (hy : 0 ≤ (List.getD b i 0) ∧ (List.getD b i 0) < 256)
    (h6 : (¬(↑i : Int) < (↑n : Int)))
    (h7 : ((↑i : Int) < (↑m : Int)))
    (c8 : ((1 : Nat) ≤ (1 : Nat) ∧ (5 : Nat) * (n2 + (1 : Nat)) ≤ (4398046511104 : Nat) ∧ (0 : Nat) + n2 * (1 : Nat) ≤ List.length l3)) :
    CodeOk Tryd.prog 52 67 (kAt (kOf Tryd.prog Tryd.f124) [true, true, true, false, true, false, false]) (LPaI a b n m c i n2 l3) .normal (LPaI a b n m (Int.tdiv (c + List.getD b i 0) 256 % 4294967296) (i + 1) (n2 + 1) (List.take n2 l3 ++ [Int.tmod (c + List.getD b i 0) 256])) :=
  CodeOk.of_runs (fuel := 300) (v := ⟨[0, 1, 4, 5, 6, 7], [1, 2, 611], [(611, 67)], 83⟩) (hs := [(4, ⟨.auto, some (.c (.bool (false)))⟩), (10, ⟨.auto, some (.c (.bool (true)))⟩), (18, ⟨.auto, some (.c (.bool (false)))⟩), (23, ⟨.auto, some (.c (.bool (true)))⟩), (28, ⟨.ask, none⟩), (29, ⟨.ask, none⟩), (30, ⟨.auto, some (.c (.int .u32 (c + List.getD b i 0)))⟩), (36, ⟨.ask, some (.c (.sl 611 0 0 (n2 + 1) 1))⟩), (42, ⟨.auto, some (.c (.int .i64 (↑(i + 1))))⟩)])
    (cs := [EI .i64 (IntKind.wrap IntKind.i64 ((↑i : Int) + 1)) ((↑(i + 1) : Int)),
      ((.c (.sl 611 0 0 (addO n2 1) 1)) : V) = (.c (.sl 611 0 0 (n2 + 1) 1)),
      ((1 : Nat) ≤ (1 : Nat) ∧ (5 : Nat) * (n2 + (1 : Nat)) ≤ (4398046511104 : Nat) ∧ (0 : Nat) + n2 * (1 : Nat) ≤ List.length l3),
      EI .u32 ((c + List.getD b i 0) % 4294967296) (c + List.getD b i 0),
      (i + (1 : Nat) ≤ List.length b),
      ((0 : Int) ≤ (↑i : Int) ∧ (↑i : Int) < (↑m : Int)),
      EB (decide ((↑i : Int) < (↑m : Int))) true,
      EB (decide ((↑i : Int) < (↑n : Int))) false,
      EB (decide ((↑i : Int) < (↑m : Int))) true,
      EB (decide ((↑i : Int) < (↑n : Int))) false])
    mixed (by kernel_rfl) ⟨.mk (by simp only [addO_eq, mulE_eq, mulE_one, Int.toNat_natCast, IntKind.wrap_i64, mmin, mmax]; omega), EV.sl (by rfl) (by simp only [addO_eq, mulE_eq, mulE_one, Int.toNat_natCast, IntKind.wrap_i64, mmin, mmax]), c8, .mk (by omega), (by omega), (by omega), .mk (decide_eq_true (by omega)), .mk (decide_eq_false (by omega)), .mk (decide_eq_true h7), .mk (decide_eq_false h6), trivial⟩
theorem LPa_rfft (a b : List Int) (n m : Nat) (c : Int) (i n2 : Nat) (l3 : List Int)
    (hn : n = a.length)
    (hm : m = b.length)
    (hs : n ≤ 67108864 ∧ m ≤ 67108864)
    (hi : i ≤ 67108865)
    (hc : 0 ≤ c ∧ c < 2)
    (hx : 0 ≤ (List.getD a i 0) ∧ (List.getD a i 0) < 256)
    (hy : 0 ≤ (List.getD b i 0) ∧ (List.getD b i 0) < 256)
    (h6 : (¬(↑i : Int) < (↑n : Int)))
    (h7 : (¬(↑i : Int) < (↑m : Int)))
    (h8 : (c > (0 : Int)))
    (c9 : ((1 : Nat) ≤ (1 : Nat) ∧ (5 : Nat) * (n2 + (1 : Nat)) ≤ (4398046511104 : Nat) ∧ (0 : Nat) + n2 * (1 : Nat) ≤ List.length l3)) :
    CodeOk Tryd.prog 52 67 (kAt (kOf Tryd.prog Tryd.f124) [true, true, true, false, true, false, false]) (LPaI a b n m c i n2 l3) .normal (LPaI a b n m (Int.tdiv c 256 % 4294967296) (i + 1) (n2 + 1) (List.take n2 l3 ++ [Int.tmod c 256])) :=
  CodeOk.of_runs (fuel := 300) (v := ⟨[0, 1, 4, 5, 6, 7], [1, 2, 499], [(499, 67)], 83⟩) (hs := [(4, ⟨.auto, some (.c (.bool (false)))⟩), (10, ⟨.auto, some (.c (.bool (false)))⟩), (13, ⟨.auto, some (.c (.bool (true)))⟩), (18, ⟨.auto, some (.c (.bool (false)))⟩), (23, ⟨.auto, some (.c (.bool (false)))⟩), (29, ⟨.ask, some (.c (.sl 499 0 0 (n2 + 1) 1))⟩), (35, ⟨.auto, some (.c (.int .i64 (↑(i + 1))))⟩)])
    (cs := [EI .i64 (IntKind.wrap IntKind.i64 ((↑i : Int) + 1)) ((↑(i + 1) : Int)),
      ((.c (.sl 499 0 0 (addO n2 1) 1)) : V) = (.c (.sl 499 0 0 (n2 + 1) 1)),
      ((1 : Nat) ≤ (1 : Nat) ∧ (5 : Nat) * (n2 + (1 : Nat)) ≤ (4398046511104 : Nat) ∧ (0 : Nat) + n2 * (1 : Nat) ≤ List.length l3),
      EB (decide ((↑i : Int) < (↑m : Int))) false,
      EB (decide ((↑i : Int) < (↑n : Int))) false,
      EB (decide (c > 0)) true,
      EB (decide ((↑i : Int) < (↑m : Int))) false,
      EB (decide ((↑i : Int) < (↑n : Int))) false])
    mixed (by kernel_rfl) ⟨.mk (by simp only [addO_eq, mulE_eq, mulE_one, Int.toNat_natCast, IntKind.wrap_i64, mmin, mmax]; omega), EV.sl (by rfl) (by simp only [addO_eq, mulE_eq, mulE_one, Int.toNat_natCast, IntKind.wrap_i64, mmin, mmax]), c9, .mk (decide_eq_false (by omega)), .mk (decide_eq_false (by omega)), .mk (decide_eq_true h8), .mk (decide_eq_false h7), .mk (decide_eq_false h6), trivial⟩
theorem LPa_xfff (a b : List Int) (n m : Nat) (c : Int) (i n2 : Nat) (l3 : List Int)
    (hn : n = a.length)
    (hm : m = b.length)
    (hs : n ≤ 67108864 ∧ m ≤ 67108864)
    (hi : i ≤ 67108865)
    (hc : 0 ≤ c ∧ c < 2)
    (hx : 0 ≤ (List.getD a i 0) ∧ (List.getD a i 0) < 256)
    (hy : 0 ≤ (List.getD b i 0) ∧ (List.getD b i 0) < 256)
    (h6 : (¬(↑i : Int) < (↑n : Int)))
    (h7 : (¬(↑i : Int) < (↑m : Int)))
    (h8 : (¬c > (0 : Int))) :
    CodeOk Tryd.prog 52 67 (kAt (kOf Tryd.prog Tryd.f124) [true, true, true, false, true, false, false]) (LPaI a b n m c i n2 l3) (.exit 0) (LPaI a b n m c i n2 l3) :=
  CodeOk.of_runs (fuel := 300) (v := ⟨[0, 1, 4, 5, 6, 7], [1, 2, 67], [(67, 67)], 83⟩) (hs := [(4, ⟨.auto, some (.c (.bool (false)))⟩), (10, ⟨.auto, some (.c (.bool (false)))⟩), (13, ⟨.auto, some (.c (.bool (false)))⟩)])
    (cs := [EB (decide (c > 0)) false,
      EB (decide ((↑i : Int) < (↑m : Int))) false,
      EB (decide ((↑i : Int) < (↑n : Int))) false])
    mixed (by kernel_rfl) ⟨.mk (decide_eq_false h8), .mk (decide_eq_false h7), .mk (decide_eq_false h6), trivial⟩

noncomputable def LHaI (a : List Int) (n n0 : Nat) (l1 : List Int) (i2 : Nat) : S0 :=
  ⟨[(0, (.c (.sl 1 0 0 n 1))), (2, (.c .nils)), (3, (.c (.sl 50 0 0 n0 1))), (4, (.c (.int .i64 ((↑i2 : Int)))))], [(1, (.one ⟨false, false, (.ints .u32 a)⟩)), (50, (.one ⟨true, false, (.ints .u32 l1)⟩))], 66⟩
theorem LHa_by {α : Type} (I : α → S0) (Inv : α → Prop) (μ : α → Nat) {ex : Ex} {s' : S0} (hex : ex ≠ .normal)
    (step : ∀ x, Inv x → (∃ y, Inv y ∧ μ y < μ x ∧ CodeOk Tryd.prog 36 50 (kAt (kOf Tryd.prog Tryd.f132) [true, true, false, true, false, false]) (I x) .normal (I y)) ∨ CodeOk Tryd.prog 36 50 (kAt (kOf Tryd.prog Tryd.f132) [true, true, false, true, false, false]) (I x) ex s') (x : α) (hx : Inv x) :
    CodeOk Tryd.prog 36 50 (kAt (kOf Tryd.prog Tryd.f132) [true, true, false, true, false]) (I x) ex s' := by
  have hk : (kAt (kOf Tryd.prog Tryd.f132) [true, true, false, true, false]) = .loop (kAt (kOf Tryd.prog Tryd.f132) [true, true, false, true, false, false]) := by kernel_rfl
  rw [hk]
  exact CodeOk.loop I Inv μ hex step x hx
noncomputable def LHa0 (a : List Int) (n : Nat) : S0 :=
  ⟨[(0, (.c (.sl 1 0 0 n 1))), (2, (.c .nils)), (3, (.c .nils)), (4, (.c (.int .i64 16)))], [(1, (.one ⟨false, false, (.ints .u32 a)⟩))], 50⟩
theorem LHa_enter (a : List Int) (n : Nat) {ex : Ex} {s' : S0} (h : CodeOk Tryd.prog 36 50 (kAt (kOf Tryd.prog Tryd.f132) [true, true, false, true, false]) (LHaI a n 0 [] 16) ex s') :
    CodeOk Tryd.prog 36 50 (kAt (kOf Tryd.prog Tryd.f132) [true, true, false, true, false]) (LHa0 a n) ex s' :=
  CodeOk.wnil (nx := 50) (nx' := 66) [(3, 1)] 50 (.ints .u32 []) rfl (by decide) (by decide) (CodeOk.pre (v := ⟨[0, 2, 3, 4], [1, 50], [(50, 50)], 66⟩) (by kernel_rfl) (by kernel_rfl) h)
theorem LHa_rtt (a : List Int) (n n0 : Nat) (l1 : List Int) (i2 : Nat)
    (hn : n = a.length)
    (hs : n ≤ 67108864)
    (h3 : ((↑i2 : Int) < (↑n : Int)))
    (h4 : ((↑(i2 + (1 : Nat)) : Int) < (↑n : Int)))
    (c5 : ((1 : Nat) ≤ (1 : Nat) ∧ (5 : Nat) * (n0 + (1 : Nat)) ≤ (4398046511104 : Nat) ∧ (0 : Nat) + n0 * (1 : Nat) ≤ List.length l1)) :
    CodeOk Tryd.prog 36 50 (kAt (kOf Tryd.prog Tryd.f132) [true, true, false, true, false, false]) (LHaI a n n0 l1 i2) .normal (LHaI a n (n0 + 1) (List.take n0 l1 ++ [(Int.tdiv (List.getD a i2 0) 4 % 4294967296 + Int.tmod (List.getD a (i2 + 1) 0) 4 * 64 % 4294967296) % 4294967296]) (i2 + 1)) :=
  CodeOk.of_runs (fuel := 300) (v := ⟨[0, 2, 3, 4], [1, 514], [(514, 50)], 66⟩) (hs := [(3, ⟨.auto, some (.c (.bool (true)))⟩), (7, ⟨.ask, none⟩), (8, ⟨.ask, none⟩), (12, ⟨.auto, some (.c (.int .i64 (↑(i2 + 1))))⟩), (15, ⟨.auto, some (.c (.bool (true)))⟩), (20, ⟨.auto, some (.c (.int .i64 (↑(i2 + 1))))⟩), (21, ⟨.ask, none⟩), (22, ⟨.ask, none⟩), (30, ⟨.ask, some (.c (.sl 514 0 0 (n0 + 1) 1))⟩), (33, ⟨.auto, some (.c (.int .i64 (↑(i2 + 1))))⟩)])
    (cs := [EI .i64 (IntKind.wrap IntKind.i64 ((↑i2 : Int) + 1)) ((↑(i2 + 1) : Int)),
      ((.c (.sl 514 0 0 (addO n0 1) 1)) : V) = (.c (.sl 514 0 0 (n0 + 1) 1)),
      ((1 : Nat) ≤ (1 : Nat) ∧ (5 : Nat) * (n0 + (1 : Nat)) ≤ (4398046511104 : Nat) ∧ (0 : Nat) + n0 * (1 : Nat) ≤ List.length l1),
      (i2 + (1 : Nat) + (1 : Nat) ≤ List.length a),
      ((0 : Int) ≤ (↑(i2 + (1 : Nat)) : Int) ∧ (↑(i2 + (1 : Nat)) : Int) < (↑n : Int)),
      EI .i64 (IntKind.wrap IntKind.i64 ((↑i2 : Int) + 1)) ((↑(i2 + 1) : Int)),
      EB (decide ((↑(i2 + 1) : Int) < (↑n : Int))) true,
      EI .i64 (IntKind.wrap IntKind.i64 ((↑i2 : Int) + 1)) ((↑(i2 + 1) : Int)),
      (i2 + (1 : Nat) ≤ List.length a),
      ((0 : Int) ≤ (↑i2 : Int) ∧ (↑i2 : Int) < (↑n : Int)),
      EB (decide ((↑i2 : Int) < (↑n : Int))) true])
    mixed (by kernel_rfl) ⟨.mk (by simp only [addO_eq, mulE_eq, mulE_one, Int.toNat_natCast, IntKind.wrap_i64, mmin, mmax]; omega), EV.sl (by rfl) (by simp only [addO_eq, mulE_eq, mulE_one, Int.toNat_natCast, IntKind.wrap_i64, mmin, mmax]), c5, (by omega), (by omega), .mk (by simp only [addO_eq, mulE_eq, mulE_one, Int.toNat_natCast, IntKind.wrap_i64, mmin, mmax]; omega), .mk (decide_eq_true h4), .mk (by simp only [addO_eq, mulE_eq, mulE_one, Int.toNat_natCast, IntKind.wrap_i64, mmin, mmax]; omega), (by omega), (by omega), .mk (decide_eq_true h3), trivial⟩
theorem LHa_rtf (a : List Int) (n n0 : Nat) (l1 : List Int) (i2 : Nat)
    (hn : n = a.length)
    (hs : n ≤ 67108864)
    (h3 : ((↑i2 : Int) < (↑n : Int)))
    (h4 : (¬(↑(i2 + (1 : Nat)) : Int) < (↑n : Int)))
    (c5 : ((1 : Nat) ≤ (1 : Nat) ∧ (5 : Nat) * (n0 + (1 : Nat)) ≤ (4398046511104 : Nat) ∧ (0 : Nat) + n0 * (1 : Nat) ≤ List.length l1)) :
    CodeOk Tryd.prog 36 50 (kAt (kOf Tryd.prog Tryd.f132) [true, true, false, true, false, false]) (LHaI a n n0 l1 i2) .normal (LHaI a n (n0 + 1) (List.take n0 l1 ++ [Int.tdiv (List.getD a i2 0) 4 % 4294967296]) (i2 + 1)) :=
  CodeOk.of_runs (fuel := 300) (v := ⟨[0, 2, 3, 4], [1, 354], [(354, 50)], 66⟩) (hs := [(3, ⟨.auto, some (.c (.bool (true)))⟩), (7, ⟨.ask, none⟩), (8, ⟨.ask, none⟩), (12, ⟨.auto, some (.c (.int .i64 (↑(i2 + 1))))⟩), (15, ⟨.auto, some (.c (.bool (false)))⟩), (20, ⟨.ask, some (.c (.sl 354 0 0 (n0 + 1) 1))⟩), (23, ⟨.auto, some (.c (.int .i64 (↑(i2 + 1))))⟩)])
    (cs := [EI .i64 (IntKind.wrap IntKind.i64 ((↑i2 : Int) + 1)) ((↑(i2 + 1) : Int)),
      ((.c (.sl 354 0 0 (addO n0 1) 1)) : V) = (.c (.sl 354 0 0 (n0 + 1) 1)),
      ((1 : Nat) ≤ (1 : Nat) ∧ (5 : Nat) * (n0 + (1 : Nat)) ≤ (4398046511104 : Nat) ∧ (0 : Nat) + n0 * (1 : Nat) ≤ List.length l1),
      EB (decide ((↑(i2 + 1) : Int) < (↑n : Int))) false,
      EI .i64 (IntKind.wrap IntKind.i64 ((↑i2 : Int) + 1)) ((↑(i2 + 1) : Int)),
      (i2 + (1 : Nat) ≤ List.length a),
      ((0 : Int) ≤ (↑i2 : Int) ∧ (↑i2 : Int) < (↑n : Int)),
      EB (decide ((↑i2 : Int) < (↑n : Int))) true])
    mixed (by kernel_rfl) ⟨.mk (by simp only [addO_eq, mulE_eq, mulE_one, Int.toNat_natCast, IntKind.wrap_i64, mmin, mmax]; omega), EV.sl (by rfl) (by simp only [addO_eq, mulE_eq, mulE_one, Int.toNat_natCast, IntKind.wrap_i64, mmin, mmax]), c5, .mk (decide_eq_false h4), .mk (by simp only [addO_eq, mulE_eq, mulE_one, Int.toNat_natCast, IntKind.wrap_i64, mmin, mmax]; omega), (by omega), (by omega), .mk (decide_eq_true h3), trivial⟩
theorem LHa_xf (a : List Int) (n n0 : Nat) (l1 : List Int) (i2 : Nat)
    (hn : n = a.length)
    (hs : n ≤ 67108864)
    (h3 : (¬(↑i2 : Int) < (↑n : Int))) :
    CodeOk Tryd.prog 36 50 (kAt (kOf Tryd.prog Tryd.f132) [true, true, false, true, false, false]) (LHaI a n n0 l1 i2) (.exit 0) (LHaI a n n0 l1 i2) :=
  CodeOk.of_runs (fuel := 300) (v := ⟨[0, 2, 3, 4], [1, 50], [(50, 50)], 66⟩) (hs := [(3, ⟨.auto, some (.c (.bool (false)))⟩)])
    (cs := [EB (decide ((↑i2 : Int) < (↑n : Int))) false])
    mixed (by kernel_rfl) ⟨.mk (decide_eq_false h3), trivial⟩

noncomputable def LZaI (a : List Int) (n i0 : Nat) : S0 :=
  ⟨[(0, (.c (.sl 1 0 0 n 1))), (2, (.c (.bool false))), (3, (.c (.int .i64 ((↑i0 : Int)))))], [(1, (.one ⟨false, false, (.ints .u32 a)⟩))], 34⟩
theorem LZa_by {α : Type} (I : α → S0) (Inv : α → Prop) (μ : α → Nat) {ex : Ex} {s' : S0} (hex : ex ≠ .normal)
    (step : ∀ x, Inv x → (∃ y, Inv y ∧ μ y < μ x ∧ CodeOk Tryd.prog 15 34 (kAt (kOf Tryd.prog Tryd.f131) [true, false, true, false, false]) (I x) .normal (I y)) ∨ CodeOk Tryd.prog 15 34 (kAt (kOf Tryd.prog Tryd.f131) [true, false, true, false, false]) (I x) ex s') (x : α) (hx : Inv x) :
    CodeOk Tryd.prog 15 34 (kAt (kOf Tryd.prog Tryd.f131) [true, false, true, false]) (I x) ex s' := by
  have hk : (kAt (kOf Tryd.prog Tryd.f131) [true, false, true, false]) = .loop (kAt (kOf Tryd.prog Tryd.f131) [true, false, true, false, false]) := by kernel_rfl
  rw [hk]
  exact CodeOk.loop I Inv μ hex step x hx
noncomputable def LZa0 (a : List Int) (n : Nat) : S0 :=
  ⟨[(0, (.c (.sl 1 0 0 n 1))), (2, (.c (.bool (false)))), (3, (.c (.int .i64 0)))], [(1, (.one ⟨false, false, (.ints .u32 a)⟩))], 34⟩
theorem LZa_xtt (a : List Int) (n i0 : Nat)
    (hn : n = a.length)
    (hs : n ≤ 67108864)
    (h2 : ((↑i0 : Int) < (↑n : Int)))
    (h3 : (¬List.getD a i0 (0 : Int) = (0 : Int))) :
    CodeOk Tryd.prog 15 34 (kAt (kOf Tryd.prog Tryd.f131) [true, false, true, false, false]) (LZaI a n i0) .ret ⟨[(0, (.c (.sl 1 0 0 n 1))), (2, (.c (.bool (false)))), (3, (.c (.int .i64 (↑i0))))], [(1, (.one ⟨false, false, (.ints .u32 a)⟩))], 34⟩ :=
  CodeOk.of_runs (fuel := 300) (v := ⟨[0, 2, 3], [1], [], 34⟩) (hs := [(3, ⟨.auto, some (.c (.bool (true)))⟩), (7, ⟨.ask, none⟩), (8, ⟨.ask, none⟩), (9, ⟨.auto, some (.c (.bool (true)))⟩)])
    (cs := [EB (List.getD a i0 0 != 0) true,
      (i0 + (1 : Nat) ≤ List.length a),
      ((0 : Int) ≤ (↑i0 : Int) ∧ (↑i0 : Int) < (↑n : Int)),
      EB (decide ((↑i0 : Int) < (↑n : Int))) true])
    mixed (by kernel_rfl) ⟨.mk (bne_t h3), (by omega), (by omega), .mk (decide_eq_true h2), trivial⟩
theorem LZa_rtf (a : List Int) (n i0 : Nat)
    (hn : n = a.length)
    (hs : n ≤ 67108864)
    (h2 : ((↑i0 : Int) < (↑n : Int)))
    (h3 : (¬¬List.getD a i0 (0 : Int) = (0 : Int))) :
    CodeOk Tryd.prog 15 34 (kAt (kOf Tryd.prog Tryd.f131) [true, false, true, false, false]) (LZaI a n i0) .normal (LZaI a n (i0 + 1)) :=
  CodeOk.of_runs (fuel := 300) (v := ⟨[0, 2, 3], [1], [], 34⟩) (hs := [(3, ⟨.auto, some (.c (.bool (true)))⟩), (7, ⟨.ask, none⟩), (8, ⟨.ask, none⟩), (9, ⟨.auto, some (.c (.bool (false)))⟩), (12, ⟨.auto, some (.c (.int .i64 (↑(i0 + 1))))⟩)])
    (cs := [EI .i64 (IntKind.wrap IntKind.i64 ((↑i0 : Int) + 1)) ((↑(i0 + 1) : Int)),
      EB (List.getD a i0 0 != 0) false,
      (i0 + (1 : Nat) ≤ List.length a),
      ((0 : Int) ≤ (↑i0 : Int) ∧ (↑i0 : Int) < (↑n : Int)),
      EB (decide ((↑i0 : Int) < (↑n : Int))) true])
    mixed (by kernel_rfl) ⟨.mk (by simp only [addO_eq, mulE_eq, mulE_one, Int.toNat_natCast, IntKind.wrap_i64, mmin, mmax]; omega), .mk (bne_f (Decidable.of_not_not h3)), (by omega), (by omega), .mk (decide_eq_true h2), trivial⟩
theorem LZa_xf (a : List Int) (n i0 : Nat)
    (hn : n = a.length)
    (hs : n ≤ 67108864)
    (h2 : (¬(↑i0 : Int) < (↑n : Int))) :
    CodeOk Tryd.prog 15 34 (kAt (kOf Tryd.prog Tryd.f131) [true, false, true, false, false]) (LZaI a n i0) (.exit 0) (LZaI a n i0) :=
  CodeOk.of_runs (fuel := 300) (v := ⟨[0, 2, 3], [1], [], 34⟩) (hs := [(3, ⟨.auto, some (.c (.bool (false)))⟩)])
    (cs := [EB (decide ((↑i0 : Int) < (↑n : Int))) false])
    mixed (by kernel_rfl) ⟨.mk (decide_eq_false h2), trivial⟩

noncomputable def LTaI (a b : List Int) (n m x : Nat) (c : Int) (k : Nat) (v : List Int) : S0 :=
  ⟨[(0, (.c (.sl 1 0 0 n 1))), (1, (.c (.sl 2 0 0 m 1))), (4, (.c .nils)), (5, (.c (.sl 115 0 0 (n + m + 1) 1))), (6, (.c (.int .i64 (x : Int)))), (7, (.c (.int .u32 c))), (8, (.c (.int .i64 ((↑k : Int)))))], [(1, (.one ⟨false, false, (.ints .u32 a)⟩)), (2, (.one ⟨false, false, (.ints .u32 b)⟩)), (115, (.one ⟨true, true, (.ints .u32 v)⟩))], 259⟩
theorem LTa_by {α : Type} (I : α → S0) (Inv : α → Prop) (μ : α → Nat) {ex : Ex} {s' : S0} (hex : ex ≠ .normal)
    (step : ∀ x, Inv x → (∃ y, Inv y ∧ μ y < μ x ∧ CodeOk Tryd.prog 65 259 (kAt (kOf Tryd.prog Tryd.f123) [true, true, false, true, false, false, true, false, false, true, true, false, false]) (I x) .normal (I y)) ∨ CodeOk Tryd.prog 65 259 (kAt (kOf Tryd.prog Tryd.f123) [true, true, false, true, false, false, true, false, false, true, true, false, false]) (I x) ex s') (x : α) (hx : Inv x) :
    CodeOk Tryd.prog 65 259 (kAt (kOf Tryd.prog Tryd.f123) [true, true, false, true, false, false, true, false, false, true, true, false]) (I x) ex s' := by
  have hk : (kAt (kOf Tryd.prog Tryd.f123) [true, true, false, true, false, false, true, false, false, true, true, false]) = .loop (kAt (kOf Tryd.prog Tryd.f123) [true, true, false, true, false, false, true, false, false, true, true, false, false]) := by kernel_rfl
  rw [hk]
  exact CodeOk.loop I Inv μ hex step x hx
theorem LTa_rt (a b : List Int) (n m x : Nat) (c : Int) (k : Nat) (v : List Int)
    (hn : n = a.length)
    (hm : m = b.length)
    (hs : n ≤ 67108864 ∧ m ≤ 67108864)
    (h0 : ((0 : Int) < (↑n : Int)))
    (hx : x < n)
    (hk : k ≤ m + 1)
    (hv : v.length = n + m + 1)
    (hc : 0 ≤ c ∧ c < 256)
    (hc0 : k = m + 1 → c = 0)
    (ha : 0 ≤ (List.getD a x 0) ∧ (List.getD a x 0) < 256)
    (hb : 0 ≤ (List.getD b k 0) ∧ (List.getD b k 0) < 256)
    (hy : 0 ≤ (List.getD v (x + k) 0) ∧ (List.getD v (x + k) 0) < 256)
    (h5 : ((↑k : Int) < (↑m : Int))) :
    CodeOk Tryd.prog 65 259 (kAt (kOf Tryd.prog Tryd.f123) [true, true, false, true, false, false, true, false, false, true, true, false, false]) (LTaI a b n m x c k v) .normal (LTaI a b n m x (Int.tdiv ((c + List.getD v (x + k) 0 + List.getD a x 0 * List.getD b k 0 % 4294967296) % 4294967296) 256 % 4294967296) (k + 1) (splice v (x + k) [Int.tmod ((c + List.getD v (x + k) 0 + List.getD a x 0 * List.getD b k 0 % 4294967296) % 4294967296) 256])) :=
  CodeOk.of_runs (fuel := 300) (v := ⟨[0, 1, 4, 5, 6, 7, 8], [1, 2, 115], [], 259⟩) (hs := [(4, ⟨.auto, some (.c (.bool (true)))⟩), (13, ⟨.auto, some (.c (.int .i64 (↑(x + k))))⟩), (14, ⟨.ask, none⟩), (15, ⟨.ask, none⟩), (16, ⟨.auto, some (.c (.int .u32 (c + List.getD v (x + k) 0)))⟩), (21, ⟨.auto, some (.c (.bool (true)))⟩), (26, ⟨.ask, none⟩), (27, ⟨.ask, none⟩), (30, ⟨.ask, none⟩), (31, ⟨.ask, none⟩), (38, ⟨.auto, some (.c (.int .i64 (↑(x + k))))⟩), (41, ⟨.ask, none⟩), (42, ⟨.ask, none⟩), (47, ⟨.auto, some (.c (.int .i64 (↑(k + 1))))⟩)])
    (cs := [EI .i64 (IntKind.wrap IntKind.i64 ((↑k : Int) + 1)) ((↑(k + 1) : Int)),
      (x + k + (1 : Nat) ≤ List.length v ∧ (1 : Nat) = (1 : Nat)),
      ((0 : Int) ≤ (↑(x + k) : Int) ∧ (↑(x + k) : Int) < (↑(n + m + (1 : Nat)) : Int)),
      EI .i64 (IntKind.wrap IntKind.i64 ((↑x : Int) + (↑k : Int))) ((↑(x + k) : Int)),
      (k + (1 : Nat) ≤ List.length b),
      ((0 : Int) ≤ (↑k : Int) ∧ (↑k : Int) < (↑m : Int)),
      (x + (1 : Nat) ≤ List.length a),
      ((0 : Int) ≤ (↑x : Int) ∧ (↑x : Int) < (↑n : Int)),
      EB (decide ((↑k : Int) < (↑m : Int))) true,
      EI .u32 ((c + List.getD v (x + k) 0) % 4294967296) (c + List.getD v (x + k) 0),
      (x + k + (1 : Nat) ≤ List.length v),
      ((0 : Int) ≤ (↑(x + k) : Int) ∧ (↑(x + k) : Int) < (↑(n + m + (1 : Nat)) : Int)),
      EI .i64 (IntKind.wrap IntKind.i64 ((↑x : Int) + (↑k : Int))) ((↑(x + k) : Int)),
      EB (decide ((↑k : Int) < (↑m : Int))) true])
    mixed (by kernel_rfl) ⟨.mk (by simp only [addO_eq, mulE_eq, mulE_one, Int.toNat_natCast, IntKind.wrap_i64, mmin, mmax]; omega), (by omega), (by omega), .mk (by simp only [addO_eq, mulE_eq, mulE_one, Int.toNat_natCast, IntKind.wrap_i64, mmin, mmax]; omega), (by omega), (by omega), (by omega), (by omega), .mk (decide_eq_true (by omega)), .mk (by omega), (by omega), (by omega), .mk (by simp only [addO_eq, mulE_eq, mulE_one, Int.toNat_natCast, IntKind.wrap_i64, mmin, mmax]; omega), .mk (decide_eq_true h5), trivial⟩
theorem LTa_rft (a b : List Int) (n m x : Nat) (c : Int) (k : Nat) (v : List Int)
    (hn : n = a.length)
    (hm : m = b.length)
    (hs : n ≤ 67108864 ∧ m ≤ 67108864)
    (h0 : ((0 : Int) < (↑n : Int)))
    (hx : x < n)
    (hk : k ≤ m + 1)
    (hv : v.length = n + m + 1)
    (hc : 0 ≤ c ∧ c < 256)
    (hc0 : k = m + 1 → c = 0)
    (ha : 0 ≤ (List.getD a x 0) ∧ (List.getD a x 0) < 256)
    (hb : 0 ≤ (List.getD b k 0) ∧ (List.getD b k 0) < 256)
    (hy : 0 ≤ (List.getD v (x + k) 0) ∧ (List.getD v (x + k) 0) < 256)
    (h5 : (¬(↑k : Int) < (↑m : Int)))
    (h6 : (c > (0 : Int))) :
    CodeOk Tryd.prog 65 259 (kAt (kOf Tryd.prog Tryd.f123) [true, true, false, true, false, false, true, false, false, true, true, false, false]) (LTaI a b n m x c k v) .normal (LTaI a b n m x (Int.tdiv (c + List.getD v (x + k) 0) 256 % 4294967296) (k + 1) (splice v (x + k) [Int.tmod (c + List.getD v (x + k) 0) 256])) :=
  CodeOk.of_runs (fuel := 300) (v := ⟨[0, 1, 4, 5, 6, 7, 8], [1, 2, 115], [], 259⟩) (hs := [(4, ⟨.auto, some (.c (.bool (false)))⟩), (7, ⟨.auto, some (.c (.bool (true)))⟩), (13, ⟨.auto, some (.c (.int .i64 (↑(x + k))))⟩), (14, ⟨.ask, none⟩), (15, ⟨.ask, none⟩), (16, ⟨.auto, some (.c (.int .u32 (c + List.getD v (x + k) 0)))⟩), (21, ⟨.auto, some (.c (.bool (false)))⟩), (26, ⟨.auto, some (.c (.int .i64 (↑(x + k))))⟩), (29, ⟨.ask, none⟩), (30, ⟨.ask, none⟩), (35, ⟨.auto, some (.c (.int .i64 (↑(k + 1))))⟩)])
    (cs := [EI .i64 (IntKind.wrap IntKind.i64 ((↑k : Int) + 1)) ((↑(k + 1) : Int)),
      (x + k + (1 : Nat) ≤ List.length v ∧ (1 : Nat) = (1 : Nat)),
      ((0 : Int) ≤ (↑(x + k) : Int) ∧ (↑(x + k) : Int) < (↑(n + m + (1 : Nat)) : Int)),
      EI .i64 (IntKind.wrap IntKind.i64 ((↑x : Int) + (↑k : Int))) ((↑(x + k) : Int)),
      EB (decide ((↑k : Int) < (↑m : Int))) false,
      EI .u32 ((c + List.getD v (x + k) 0) % 4294967296) (c + List.getD v (x + k) 0),
      (x + k + (1 : Nat) ≤ List.length v),
      ((0 : Int) ≤ (↑(x + k) : Int) ∧ (↑(x + k) : Int) < (↑(n + m + (1 : Nat)) : Int)),
      EI .i64 (IntKind.wrap IntKind.i64 ((↑x : Int) + (↑k : Int))) ((↑(x + k) : Int)),
      EB (decide (c > 0)) true,
      EB (decide ((↑k : Int) < (↑m : Int))) false])
    mixed (by kernel_rfl) ⟨.mk (by simp only [addO_eq, mulE_eq, mulE_one, Int.toNat_natCast, IntKind.wrap_i64, mmin, mmax]; omega), (by omega), (by omega), .mk (by simp only [addO_eq, mulE_eq, mulE_one, Int.toNat_natCast, IntKind.wrap_i64, mmin, mmax]; omega), .mk (decide_eq_false (by omega)), .mk (by omega), (by omega), (by omega), .mk (by simp only [addO_eq, mulE_eq, mulE_one, Int.toNat_natCast, IntKind.wrap_i64, mmin, mmax]; omega), .mk (decide_eq_true h6), .mk (decide_eq_false h5), trivial⟩
theorem LTa_xff (a b : List Int) (n m x : Nat) (c : Int) (k : Nat) (v : List Int)
    (hn : n = a.length)
    (hm : m = b.length)
    (hs : n ≤ 67108864 ∧ m ≤ 67108864)
    (h0 : ((0 : Int) < (↑n : Int)))
    (hx : x < n)
    (hk : k ≤ m + 1)
    (hv : v.length = n + m + 1)
    (hc : 0 ≤ c ∧ c < 256)
    (hc0 : k = m + 1 → c = 0)
    (ha : 0 ≤ (List.getD a x 0) ∧ (List.getD a x 0) < 256)
    (hb : 0 ≤ (List.getD b k 0) ∧ (List.getD b k 0) < 256)
    (hy : 0 ≤ (List.getD v (x + k) 0) ∧ (List.getD v (x + k) 0) < 256)
    (h5 : (¬(↑k : Int) < (↑m : Int)))
    (h6 : (¬c > (0 : Int))) :
    CodeOk Tryd.prog 65 259 (kAt (kOf Tryd.prog Tryd.f123) [true, true, false, true, false, false, true, false, false, true, true, false, false]) (LTaI a b n m x c k v) (.exit 2) (LTaI a b n m x c k v) :=
  CodeOk.of_runs (fuel := 300) (v := ⟨[0, 1, 4, 5, 6, 7, 8], [1, 2, 115], [], 259⟩) (hs := [(4, ⟨.auto, some (.c (.bool (false)))⟩), (7, ⟨.auto, some (.c (.bool (false)))⟩)])
    (cs := [EB (decide (c > 0)) false,
      EB (decide ((↑k : Int) < (↑m : Int))) false])
    mixed (by kernel_rfl) ⟨.mk (decide_eq_false h6), .mk (decide_eq_false h5), trivial⟩

end Go.Proofs.YtmfnldkiaodkpaaDoor.Vm

namespace Go.Proofs.YtmfnldkiaodkpaaDoor.Vm
open Go Go.Proofs Go.Proofs.YtmfnldkiaodkpaaDoor
theorem dgl (l : List Int) (o n : Nat) (hl : o + n ≤ l.length) (hn : n ≤ 1073741824) (hb : W.b8 l) :
    CodeOk Tryd.prog 20 50 (kAt (kOf Tryd.prog Tryd.f121) [true, true, false, true, false]) (LGa0 l o n) (.exit 0) (LGaI l o n n (List.take n (List.drop o l)) n) := by
  refine LGa_enter l o n (LGa_by (fun i : Nat => LGaI l o n i (List.take i (List.drop o l)) i) (fun i => i ≤ n) (fun i => n - i) (by simp) ?_ 0 (Nat.zero_le _))
  intro i hi
  have len : (List.take i (List.drop o l)).length = i := by rw [List.length_take, List.length_drop]; omega
  by_cases h : i < n
  · refine .inl ⟨i + 1, h, by omega, ?_⟩
    have r := LGa_rt l o n i (List.take i (List.drop o l)) i hl hn (by omega) ⟨Nat.le_refl _, by omega, by omega⟩
    have e : List.getD l (o + i) 0 % 4294967296 = (List.drop o l).getD i 0 := by
      have := hb (o + i)
      rw [Int.emod_eq_of_lt this.1 (by omega), List.getD_eq_getElem?_getD, List.getD_eq_getElem?_getD, List.getElem?_drop]
    rw [e, List.take_take, Nat.min_self, W.take_snoc (by rw [List.length_drop]; omega)] at r
    exact r
  · have e : i = n := by omega
    subst e
    exact .inr (LGa_xf l o i i _ i hl hn (by omega))
theorem pll (a b : List Int) (n m : Nat) (hn : n = a.length) (hm : m = b.length) (hs : n ≤ 67108864 ∧ m ≤ 67108864) (ha : W.b8 a) (hb : W.b8 b) :
    CodeOk Tryd.prog 52 67 (kAt (kOf Tryd.prog Tryd.f124) [true, true, true, false, true, false]) (LPa0 a b n m) (.exit 0) (LPaI a b n m 0 (W.pln a b) (W.pln a b) (W.pls a b)) := by
  refine LPa_enter a b n m (LPa_by (fun i : Nat => LPaI a b n m (W.plc a b i) i i (W.plr a b i)) (fun i => i ≤ W.pln a b) (fun i => W.pln a b - i) (by simp) ?_ 0 (Nat.zero_le _))
  intro i hi
  have len : (W.plr a b i).length = i := W.plr_len
  have pe := W.pln_ge (a := a) (b := b)
  have hc := W.plc_ok ha hb i
  have hx := ha i
  have hy := hb i
  have hi' : i ≤ 67108865 := by omega
  have c8 : ((1 : Nat) ≤ (1 : Nat) ∧ (5 : Nat) * (i + (1 : Nat)) ≤ (4398046511104 : Nat) ∧ (0 : Nat) + i * (1 : Nat) ≤ List.length (W.plr a b i)) := ⟨Nat.le_refl _, by omega, by omega⟩
  have tk : List.take i (W.plr a b i) = W.plr a b i := W.take_all (by omega)
  have goal : ∀ y : Int, y = W.plc a b i + a.getD i 0 + b.getD i 0 → (0 ≤ y ∧ y < 4294967296) → LPaI a b n m (Int.tdiv y 256 % 4294967296) (i + 1) (i + 1) (List.take i (W.plr a b i) ++ [Int.tmod y 256]) = LPaI a b n m (W.plc a b (i + 1)) (i + 1) (i + 1) (W.plr a b (i + 1)) := by
    intro y hy1 hy2
    rw [W.td hy2 256 (by decide), W.tm hy2.1, tk, hy1]
    rfl
  by_cases h1 : i < n
  · by_cases h2 : i < m
    · refine .inl ⟨i + 1, by omega, by omega, ?_⟩
      have r := LPa_rtt a b n m (W.plc a b i) i i (W.plr a b i) hn hm hs hi' ⟨hc.1, by omega⟩ hx hy (by omega) (by omega) c8
      rw [goal _ rfl (by omega)] at r
      exact r
    · refine .inl ⟨i + 1, by omega, by omega, ?_⟩
      have r := LPa_rtf a b n m (W.plc a b i) i i (W.plr a b i) hn hm hs hi' ⟨hc.1, by omega⟩ hx hy (by omega) (by omega) c8
      rw [goal _ (by rw [W.d_none (l := b) (by omega)]; omega) (by omega)] at r
      exact r
  · by_cases h2 : i < m
    · refine .inl ⟨i + 1, by omega, by omega, ?_⟩
      have r := LPa_rft a b n m (W.plc a b i) i i (W.plr a b i) hn hm hs hi' ⟨hc.1, by omega⟩ hx hy (by omega) (by omega) c8
      rw [goal _ (by rw [W.d_none (l := a) (by omega)]; omega) (by omega)] at r
      exact r
    · have z1 : a.getD i 0 = 0 := W.d_none (by omega)
      have z2 : b.getD i 0 = 0 := W.d_none (by omega)
      by_cases hp : W.plc a b i > 0
      · have hlt : i < W.pln a b := by
          rcases Nat.lt_or_eq_of_le hi with q | q
          · exact q
          · rw [q, W.plc_end ha hb] at hp; omega
        refine .inl ⟨i + 1, by omega, by omega, ?_⟩
        have r := LPa_rfft a b n m (W.plc a b i) i i (W.plr a b i) hn hm hs hi' ⟨hc.1, by omega⟩ hx hy (by omega) (by omega) hp c8
        rw [goal _ (by rw [z1, z2]; omega) (by omega)] at r
        exact r
      · have e : i = W.pln a b := by
          have hmx : i = max a.length b.length ∨ i = max a.length b.length + 1 := by omega
          rcases hmx with q | q
          · rw [q] at hp ⊢
            unfold W.pln
            rw [if_neg hp]
          · omega
        have r := LPa_xfff a b n m (W.plc a b i) i i (W.plr a b i) hn hm hs hi' ⟨hc.1, by omega⟩ hx hy (by omega) (by omega) hp
        have hc0 : W.plc a b i = 0 := by omega
        rw [hc0] at r
        subst e
        refine .inr ?_
        rw [hc0]
        exact r
theorem hil (a : List Int) (n : Nat) (hn : n = a.length) (hs : n ≤ 67108864) (ha : W.b8 a) :
    CodeOk Tryd.prog 36 50 (kAt (kOf Tryd.prog Tryd.f132) [true, true, false, true, false]) (LHa0 a n) (.exit 0) (LHaI a n (n - 16) (W.highL a) (max n 16)) := by
  refine LHa_enter a n (LHa_by (fun j : Nat => LHaI a n j (List.take j (W.highL a)) (16 + j)) (fun j => j ≤ n - 16) (fun j => n - j) (by simp) ?_ 0 (Nat.zero_le _))
  intro j hj
  have hlen := W.highL_len (a := a)
  have len : (List.take j (W.highL a)).length = j := by rw [List.length_take]; omega
  have c5 : ((1 : Nat) ≤ (1 : Nat) ∧ (5 : Nat) * (j + (1 : Nat)) ≤ (4398046511104 : Nat) ∧ (0 : Nat) + j * (1 : Nat) ≤ List.length (List.take j (W.highL a))) := ⟨Nat.le_refl _, by omega, by omega⟩
  have hx := ha (16 + j)
  have hy := ha (16 + j + 1)
  by_cases h : 16 + j < n
  · have hg : (W.highL a).getD j 0 = a.getD (16 + j) 0 / 4 + a.getD (16 + j + 1) 0 % 4 * 64 := by
      unfold W.highL
      rw [W.shr2_get (by rw [List.length_drop]; omega)]
      have e : ∀ k, (List.drop 16 a).getD k 0 = a.getD (16 + k) 0 := fun k => by rw [List.getD_eq_getElem?_getD, List.getD_eq_getElem?_getD, List.getElem?_drop]
      rw [e, e, Nat.add_assoc]
    refine .inl ⟨j + 1, by omega, by omega, ?_⟩
    by_cases h2 : 16 + j + 1 < n
    · have r := LHa_rtt a n j (List.take j (W.highL a)) (16 + j) hn hs (by omega) (by omega) c5
      have e : (Int.tdiv (List.getD a (16 + j) 0) 4 % 4294967296 + Int.tmod (List.getD a (16 + j + 1) 0) 4 * 64 % 4294967296) % 4294967296 = (W.highL a).getD j 0 := by
        rw [W.td ⟨hx.1, by omega⟩ 4 (by decide), W.tm hy.1, hg]; omega
      rw [e, List.take_take, Nat.min_self, W.take_snoc (by omega)] at r
      exact r
    · have r := LHa_rtf a n j (List.take j (W.highL a)) (16 + j) hn hs (by omega) (by omega) c5
      have e : Int.tdiv (List.getD a (16 + j) 0) 4 % 4294967296 = (W.highL a).getD j 0 := by
        rw [W.td ⟨hx.1, by omega⟩ 4 (by decide), hg, W.d_none (l := a) (j := 16 + j + 1) (by omega)]; omega
      rw [e, List.take_take, Nat.min_self, W.take_snoc (by omega)] at r
      exact r
  · have e : j = n - 16 := by omega
    have r := LHa_xf a n j (List.take j (W.highL a)) (16 + j) hn hs (by omega)
    have e2 : List.take j (W.highL a) = W.highL a := W.take_all (by omega)
    have e3 : 16 + j = max n 16 := by omega
    rw [e2, e3, e] at r
    rw [e2, e3, e]
    exact .inr r
def LZR (a : List Int) (n i : Nat) : S0 := ⟨[(0, (.c (.sl 1 0 0 n 1))), (2, (.c (.bool (false)))), (3, (.c (.int .i64 ((↑i : Int)))))], [(1, (.one ⟨false, false, (.ints .u32 a)⟩))], 34⟩
theorem zrl (a : List Int) (n : Nat) (hn : n = a.length) (hs : n ≤ 67108864) (hz : ∀ j, j < a.length → a.getD j 0 = 0) :
    CodeOk Tryd.prog 15 34 (kAt (kOf Tryd.prog Tryd.f131) [true, false, true, false]) (LZa0 a n) (.exit 0) (LZaI a n n) := by
  refine LZa_by (fun i : Nat => LZaI a n i) (fun i => i ≤ n) (fun i => n - i) (by simp) ?_ 0 (Nat.zero_le _)
  intro i hi
  by_cases h : i < n
  · exact .inl ⟨i + 1, h, by omega, LZa_rtf a n i hn hs (by omega) (fun q => q (hz i (by omega)))⟩
  · have e : i = n := by omega
    subst e
    exact .inr (LZa_xf a i i hn hs (by omega))
theorem zrl2 (a : List Int) (n : Nat) (hn : n = a.length) (hs : n ≤ 67108864) (hz : ¬ ∀ j, j < a.length → a.getD j 0 = 0) :
    CodeOk Tryd.prog 15 34 (kAt (kOf Tryd.prog Tryd.f131) [true, false, true, false]) (LZa0 a n) .ret (LZR a n (W.fnz a)) := by
  obtain ⟨h1, h2, h3⟩ := W.fnz_ok hz
  refine LZa_by (fun i : Nat => LZaI a n i) (fun i => i ≤ W.fnz a) (fun i => W.fnz a - i) (by simp) ?_ 0 (Nat.zero_le _)
  intro i hi
  by_cases h : i < W.fnz a
  · exact .inl ⟨i + 1, by omega, by omega, LZa_rtf a n i hn hs (by omega) (fun q => q (h3 i h))⟩
  · have e : i = W.fnz a := by omega
    subst e
    exact .inr (LZa_xtt a n (W.fnz a) hn hs (by omega) h2)
theorem tml (a b v : List Int) (n m x : Nat) (hn : n = a.length) (hm : m = b.length) (hs : n ≤ 67108864 ∧ m ≤ 67108864) (hx : x < n) (hv : v.length = n + m + 1) (ha : W.b8 a) (hb : W.b8 b) (hd : W.b8 v) (hz : v.getD (x + m) 0 = 0) :
    CodeOk Tryd.prog 65 259 (kAt (kOf Tryd.prog Tryd.f123) [true, true, false, true, false, false, true, false, false, true, true, false]) (LTaI a b n m x 0 0 v) (.exit 2) (LTaI a b n m x 0 (W.tn a b x v) (W.trow a b x v)) := by
  have key := W.trow_ok (i := x) ha hb hd (by omega) (by rw [← hm]; exact hz)
  have tl := W.tn_le (a := a) (b := b) (v := v) (i := x)
  refine LTa_by (fun k : Nat => LTaI a b n m x (W.tc a b x v k) k (W.tv a b x v k)) (fun k => k ≤ W.tn a b x v) (fun k => W.tn a b x v - k) (by simp) ?_ 0 (Nat.zero_le _)
  intro k hk
  have o := W.tv_ok (i := x) ha hb hd k (by omega)
  have hc := o.c
  have hy := o.dg (x + k)
  have hl : (W.tv a b x v k).length = n + m + 1 := by rw [o.len, hv]
  have hc0 : k = m + 1 → W.tc a b x v k = 0 := by
    intro e
    have e2 : k = W.tn a b x v := by omega
    rw [e2]; exact key.1
  have goal : ∀ y : Int, y = W.tc a b x v k + (W.tv a b x v k).getD (x + k) 0 + a.getD x 0 * b.getD k 0 → (0 ≤ y ∧ y < 4294967296) → LTaI a b n m x (Int.tdiv y 256 % 4294967296) (k + 1) (splice (W.tv a b x v k) (x + k) [Int.tmod y 256]) = LTaI a b n m x (W.tc a b x v (k + 1)) (k + 1) (W.tv a b x v (k + 1)) := by
    intro y hy1 hy2
    rw [W.td hy2 256 (by decide), W.tm hy2.1, hy1]
    rfl
  have hp := W.mul_le (ha x) (hb k)
  by_cases h : k < m
  · refine .inl ⟨k + 1, by omega, by omega, ?_⟩
    have r := LTa_rt a b n m x (W.tc a b x v k) k (W.tv a b x v k) hn hm hs (by omega) hx (by omega) hl ⟨hc.1, by omega⟩ hc0 (ha x) (hb k) hy (by omega)
    rw [W.mul8a (ha x) (hb k), W.mul8 (ha x) (hb k) ⟨hc.1, by omega⟩ hy, goal _ rfl (by omega)] at r
    exact r
  · by_cases hp : W.tc a b x v k > 0
    · have hlt : k < W.tn a b x v := by
        rcases Nat.lt_or_eq_of_le hk with q | q
        · exact q
        · rw [q, key.1] at hp; omega
      refine .inl ⟨k + 1, by omega, by omega, ?_⟩
      have r := LTa_rft a b n m x (W.tc a b x v k) k (W.tv a b x v k) hn hm hs (by omega) hx (by omega) hl ⟨hc.1, by omega⟩ hc0 (ha x) (hb k) hy (by omega) hp
      rw [goal _ (by rw [W.d_none (l := b) (by omega), Int.mul_zero]; omega) (by omega)] at r
      exact r
    · have e : k = W.tn a b x v := by
        have : k = b.length ∨ k = b.length + 1 := by omega
        rcases this with q | q
        · rw [q] at hp ⊢
          unfold W.tn
          rw [if_neg hp]
        · omega
      have r := LTa_xff a b n m x (W.tc a b x v k) k (W.tv a b x v k) hn hm hs (by omega) hx (by omega) hl ⟨hc.1, by omega⟩ hc0 (ha x) (hb k) hy (by omega) hp
      have hc1 : W.tc a b x v k = 0 := by omega
      rw [hc1] at r
      subst e
      refine .inr ?_
      rw [hc1]
      exact r
end Go.Proofs.YtmfnldkiaodkpaaDoor.Vm

namespace Go.Proofs.YtmfnldkiaodkpaaDoor.Vm
open Go Go.Proofs Go.Proofs.YtmfnldkiaodkpaaDoor
set_option maxRecDepth 100000
theorem dg_r (l : List Int) (o n : Nat)
    (hl : o + n ≤ l.length)
    (hn : n ≤ 1073741824)
    (hb : W.b8 l) :
    Contract0 Tryd.prog 121 [(.c (.sl 1 0 o n 1))] [(1, (.one ⟨false, false, (.ints .u8 l)⟩))] 2 (.c (.sl 2 0 0 n 1)) [] [(2, (.one ⟨true, false, (.ints .u32 (List.take n (List.drop o l)))⟩))] :=
  Contract0.renum (Contract0.of_frun (res := (.c (.sl 50 0 0 n 1))) (up := [(50, (.one ⟨true, false, (.ints .u32 (List.take n (List.drop o l)))⟩))]) (kill := []) (n0 := 2) (m := [(1, (.one ⟨false, false, (.ints .u8 l)⟩))]) (args := [(.c (.sl 1 0 o n 1))]) (fn := Tryd.f121) (c := bodyOf Tryd.f121) (fuel := 300) (k := kOf Tryd.prog Tryd.f121) (outs := [50]) (hs := [(3, ⟨.sum ⟨[0, 2, 3, 4], [1], [], 50⟩ (.exit 0) (LGaI l o n n (List.take n (List.drop o l)) n), none⟩)])
    (cs := [CodeOk Tryd.prog 20 50 (kAt (kOf Tryd.prog Tryd.f121) [true, true, false, true, false]) (LGa0 l o n) (.exit 0) (LGaI l o n n (List.take n (List.drop o l)) n)])
    mixed Tryd.func121 (by kernel_rfl) (by kernel_rfl) (by kernel_rfl) (by kernel_rfl) (by kernel_rfl) ⟨(dgl l o n (by omega) (by omega) (by omega)), trivial⟩) [.b 1 1 true] [] [(50, 2)] [] (by kernel_rfl) (by kernel_rfl) (by kernel_rfl) (by kernel_rfl) (by kernel_rfl)


theorem pl_r (a b : List Int) (n m : Nat)
    (hn : n = a.length)
    (hm : m = b.length)
    (hs : n ≤ 67108864 ∧ m ≤ 67108864)
    (ha : W.b8 a)
    (hb : W.b8 b) :
    Contract0 Tryd.prog 124 [(.c (.sl 1 0 0 n 1)), (.c (.sl 2 0 0 m 1))] [(1, (.one ⟨false, false, (.ints .u32 a)⟩)), (2, (.one ⟨false, false, (.ints .u32 b)⟩))] 3 (.c (.sl 3 0 0 (W.pln a b) 1)) [] [(3, (.one ⟨true, false, (.ints .u32 (W.pls a b))⟩))] :=
  Contract0.renum (Contract0.of_frun (res := (.c (.sl 67 0 0 (W.pln a b) 1))) (up := [(67, (.one ⟨true, false, (.ints .u32 (W.pls a b))⟩))]) (kill := []) (n0 := 3) (m := [(1, (.one ⟨false, false, (.ints .u32 a)⟩)), (2, (.one ⟨false, false, (.ints .u32 b)⟩))]) (args := [(.c (.sl 1 0 0 n 1)), (.c (.sl 2 0 0 m 1))]) (fn := Tryd.f124) (c := bodyOf Tryd.f124) (fuel := 300) (k := kOf Tryd.prog Tryd.f124) (outs := [67]) (hs := [(4, ⟨.sum ⟨[0, 1, 4, 5, 6, 7], [1, 2], [], 67⟩ (.exit 0) (LPaI a b n m 0 (W.pln a b) (W.pln a b) (W.pls a b)), none⟩)])
    (cs := [CodeOk Tryd.prog 52 67 (kAt (kOf Tryd.prog Tryd.f124) [true, true, true, false, true, false]) (LPa0 a b n m) (.exit 0) (LPaI a b n m 0 (W.pln a b) (W.pln a b) (W.pls a b))])
    mixed Tryd.func124 (by kernel_rfl) (by kernel_rfl) (by kernel_rfl) (by kernel_rfl) (by kernel_rfl) ⟨(pll a b n m (by omega) (by omega) (by omega) (by omega) (by omega)), trivial⟩) [.b 1 1 true, .b 2 2 true] [] [(67, 3)] [] (by kernel_rfl) (by kernel_rfl) (by kernel_rfl) (by kernel_rfl) (by kernel_rfl)


theorem hi_r (a : List Int) (n : Nat)
    (hn : n = a.length)
    (hs : n ≤ 67108864)
    (ha : W.b8 a) :
    Contract0 Tryd.prog 132 [(.c (.sl 1 0 0 n 1))] [(1, (.one ⟨false, false, (.ints .u32 a)⟩))] 2 (.c (.sl 2 0 0 (n - 16) 1)) [] [(2, (.one ⟨true, false, (.ints .u32 (W.highL a))⟩))] :=
  Contract0.renum (Contract0.of_frun (res := (.c (.sl 50 0 0 (n - 16) 1))) (up := [(50, (.one ⟨true, false, (.ints .u32 (W.highL a))⟩))]) (kill := []) (n0 := 2) (m := [(1, (.one ⟨false, false, (.ints .u32 a)⟩))]) (args := [(.c (.sl 1 0 0 n 1))]) (fn := Tryd.f132) (c := bodyOf Tryd.f132) (fuel := 300) (k := kOf Tryd.prog Tryd.f132) (outs := [50]) (hs := [(3, ⟨.sum ⟨[0, 2, 3, 4], [1], [], 50⟩ (.exit 0) (LHaI a n (n - 16) (W.highL a) (max n 16)), none⟩)])
    (cs := [CodeOk Tryd.prog 36 50 (kAt (kOf Tryd.prog Tryd.f132) [true, true, false, true, false]) (LHa0 a n) (.exit 0) (LHaI a n (n - 16) (W.highL a) (max n 16))])
    mixed Tryd.func132 (by kernel_rfl) (by kernel_rfl) (by kernel_rfl) (by kernel_rfl) (by kernel_rfl) ⟨(hil a n (by omega) (by omega) (by omega)), trivial⟩) [.b 1 1 true] [] [(50, 2)] [] (by kernel_rfl) (by kernel_rfl) (by kernel_rfl) (by kernel_rfl) (by kernel_rfl)


theorem zr_t (a : List Int) (n : Nat)
    (hn : n = a.length)
    (hs : n ≤ 67108864)
    (ha : W.b8 a)
    (hz : ∀ j, j < a.length → a.getD j 0 = 0) :
    Contract0 Tryd.prog 131 [(.c (.sl 1 0 0 n 1))] [(1, (.one ⟨false, false, (.ints .u32 a)⟩))] 2 (.c (.bool (true))) [] [] :=
  Contract0.of_frun (res := (.c (.bool (true)))) (up := []) (kill := []) (n0 := 2) (m := [(1, (.one ⟨false, false, (.ints .u32 a)⟩))]) (args := [(.c (.sl 1 0 0 n 1))]) (fn := Tryd.f131) (c := bodyOf Tryd.f131) (fuel := 300) (k := kOf Tryd.prog Tryd.f131) (outs := []) (hs := [(2, ⟨.sum ⟨[0, 2, 3], [1], [], 34⟩ (.exit 0) (LZaI a n n), none⟩)])
    (cs := [CodeOk Tryd.prog 15 34 (kAt (kOf Tryd.prog Tryd.f131) [true, false, true, false]) (LZa0 a n) (.exit 0) (LZaI a n n)])
    mixed Tryd.func131 (by kernel_rfl) (by kernel_rfl) (by kernel_rfl) (by kernel_rfl) (by kernel_rfl) ⟨(zrl a n (by omega) (by omega) (by omega)), trivial⟩


theorem zr_f (a : List Int) (n : Nat)
    (hn : n = a.length)
    (hs : n ≤ 67108864)
    (ha : W.b8 a)
    (hz : ¬ ∀ j, j < a.length → a.getD j 0 = 0) :
    Contract0 Tryd.prog 131 [(.c (.sl 1 0 0 n 1))] [(1, (.one ⟨false, false, (.ints .u32 a)⟩))] 2 (.c (.bool (false))) [] [] :=
  Contract0.of_frun (res := (.c (.bool (false)))) (up := []) (kill := []) (n0 := 2) (m := [(1, (.one ⟨false, false, (.ints .u32 a)⟩))]) (args := [(.c (.sl 1 0 0 n 1))]) (fn := Tryd.f131) (c := bodyOf Tryd.f131) (fuel := 300) (k := kOf Tryd.prog Tryd.f131) (outs := []) (hs := [(2, ⟨.sum ⟨[0, 2, 3], [1], [], 34⟩ (.ret) (LZR a n (W.fnz a)), none⟩)])
    (cs := [CodeOk Tryd.prog 15 34 (kAt (kOf Tryd.prog Tryd.f131) [true, false, true, false]) (LZa0 a n) (.ret) (LZR a n (W.fnz a))])
    mixed Tryd.func131 (by kernel_rfl) (by kernel_rfl) (by kernel_rfl) (by kernel_rfl) (by kernel_rfl) ⟨(zrl2 a n (by omega) (by omega) (by omega)), trivial⟩


theorem lo_r_t (a : List Int) (n : Nat)
    (hn : n = a.length)
    (hs : n ≤ 67108864)
    (ha : W.b8 a)
    (h0 : ((↑(min n (17 : Nat)) : Int) = (17 : Int))) :
    Contract0 Tryd.prog 133 [(.c (.sl 1 0 0 n 1))] [(1, (.one ⟨false, false, (.ints .u32 a)⟩))] 2 (.c (.sl 2 0 0 17 1)) [] [(2, (.one ⟨true, false, (.ints .u32 (splice (List.take (min n 17) a) 16 [Int.tmod (List.getD (List.take (min n 17) a) 16 0) 4]))⟩))] :=
  Contract0.renum (Contract0.of_frun (res := (.c (.sl 114 0 0 17 1))) (up := [(114, (.one ⟨true, false, (.ints .u32 (splice (List.take (min n 17) a) 16 [Int.tmod (List.getD (List.take (min n 17) a) 16 0) 4]))⟩))]) (kill := []) (n0 := 2) (m := [(1, (.one ⟨false, false, (.ints .u32 a)⟩))]) (args := [(.c (.sl 1 0 0 n 1))]) (fn := Tryd.f133) (c := bodyOf Tryd.f133) (fuel := 300) (k := kOf Tryd.prog Tryd.f133) (outs := [114]) (hs := [(5, ⟨.auto, some (.c (.int .i64 (↑(min n 17))))⟩), (6, ⟨.ask, none⟩), (7, ⟨.ask, none⟩), (11, ⟨.auto, some (.c (.bool (true)))⟩), (13, ⟨.auto, some (.c (.sl 114 0 0 17 1))⟩), (14, ⟨.auto, some (.c (.sl 114 0 0 17 1))⟩), (16, ⟨.ask, none⟩), (19, ⟨.ask, none⟩), (20, ⟨.auto, some (.c (.sl 114 0 0 17 1))⟩)])
    (cs := [((.c (.sl 114 0 0 (min n 17) 1)) : V) = (.c (.sl 114 0 0 17 1)),
      ((17 : Nat) ≤ List.length (List.take (min n (17 : Nat)) a) ∧ (1 : Nat) = (1 : Nat)),
      ((17 : Nat) ≤ List.length (List.take (min n (17 : Nat)) a)),
      ((.c (.sl 114 0 0 (min n 17) 1)) : V) = (.c (.sl 114 0 0 17 1)),
      ((.c (.sl 114 0 0 (min n 17) 1)) : V) = (.c (.sl 114 0 0 17 1)),
      EB ((↑(min n 17) : Int) == 17) true,
      ((0 : Nat) + min n (17 : Nat) * (1 : Nat) ≤ List.length a ∧ (5 : Nat) * ((0 : Nat) + min n (17 : Nat)) ≤ (4398046511104 : Nat) ∧ (0 : Nat) ≤ (0 : Nat)),
      ((0 : Int) ≤ (0 : Int) ∧ (0 : Int) ≤ (↑(min n (17 : Nat)) : Int) ∧ (↑(min n (17 : Nat)) : Int) ≤ (↑n : Int)),
      EI .i64 (bif decide (17 < (↑n : Int)) then 17 else (↑n : Int)) ((↑(min n 17) : Int))])
    mixed Tryd.func133 (by kernel_rfl) (by kernel_rfl) (by kernel_rfl) (by kernel_rfl) (by kernel_rfl) ⟨EV.sl (by rfl) (by omega), (by simp only [and_true, List.length_set, List.length_append, List.length_replicate, List.length_take, List.length_drop, List.length_map, List.length_cons, List.length_nil, List.length_zipWith, splice_len1, W.le_len, W.bts_len, Int.toNat_natCast, addO_eq, mulE_eq, mulE_one]; omega), (by simp only [and_true, List.length_set, List.length_append, List.length_replicate, List.length_take, List.length_drop, List.length_map, List.length_cons, List.length_nil, List.length_zipWith, splice_len1, W.le_len, W.bts_len, Int.toNat_natCast, addO_eq, mulE_eq, mulE_one]; omega), EV.sl (by rfl) (by omega), EV.sl (by rfl) (by omega), .mk (beq_t h0), (by omega), (by omega), .mk (by simp only [addO_eq, mulE_eq, mulE_one, Int.toNat_natCast, IntKind.wrap_i64, mmin, mmax]; omega), trivial⟩) [.b 1 1 true] [] [(114, 2)] [] (by kernel_rfl) (by kernel_rfl) (by kernel_rfl) (by kernel_rfl) (by kernel_rfl)

theorem lo_r_f (a : List Int) (n : Nat)
    (hn : n = a.length)
    (hs : n ≤ 67108864)
    (ha : W.b8 a)
    (h0 : (¬(↑(min n (17 : Nat)) : Int) = (17 : Int))) :
    Contract0 Tryd.prog 133 [(.c (.sl 1 0 0 n 1))] [(1, (.one ⟨false, false, (.ints .u32 a)⟩))] 2 (.c (.sl 2 0 0 n 1)) [] [(2, (.one ⟨true, false, (.ints .u32 (List.take (min n 17) a))⟩))] :=
  Contract0.renum (Contract0.of_frun (res := (.c (.sl 114 0 0 n 1))) (up := [(114, (.one ⟨true, false, (.ints .u32 (List.take (min n 17) a))⟩))]) (kill := []) (n0 := 2) (m := [(1, (.one ⟨false, false, (.ints .u32 a)⟩))]) (args := [(.c (.sl 1 0 0 n 1))]) (fn := Tryd.f133) (c := bodyOf Tryd.f133) (fuel := 300) (k := kOf Tryd.prog Tryd.f133) (outs := [114]) (hs := [(5, ⟨.auto, some (.c (.int .i64 (↑(min n 17))))⟩), (6, ⟨.ask, none⟩), (7, ⟨.ask, none⟩), (11, ⟨.auto, some (.c (.bool (false)))⟩), (13, ⟨.auto, some (.c (.sl 114 0 0 n 1))⟩)])
    (cs := [((.c (.sl 114 0 0 (min n 17) 1)) : V) = (.c (.sl 114 0 0 n 1)),
      EB ((↑(min n 17) : Int) == 17) false,
      ((0 : Nat) + min n (17 : Nat) * (1 : Nat) ≤ List.length a ∧ (5 : Nat) * ((0 : Nat) + min n (17 : Nat)) ≤ (4398046511104 : Nat) ∧ (0 : Nat) ≤ (0 : Nat)),
      ((0 : Int) ≤ (0 : Int) ∧ (0 : Int) ≤ (↑(min n (17 : Nat)) : Int) ∧ (↑(min n (17 : Nat)) : Int) ≤ (↑n : Int)),
      EI .i64 (bif decide (17 < (↑n : Int)) then 17 else (↑n : Int)) ((↑(min n 17) : Int))])
    mixed Tryd.func133 (by kernel_rfl) (by kernel_rfl) (by kernel_rfl) (by kernel_rfl) (by kernel_rfl) ⟨EV.sl (by rfl) (by omega), .mk (beq_f h0), (by omega), (by omega), .mk (by simp only [addO_eq, mulE_eq, mulE_one, Int.toNat_natCast, IntKind.wrap_i64, mmin, mmax]; omega), trivial⟩) [.b 1 1 true] [] [(114, 2)] [] (by kernel_rfl) (by kernel_rfl) (by kernel_rfl) (by kernel_rfl) (by kernel_rfl)


noncomputable def LUaI (a b : List Int) (n m x : Nat) (v : List Int) : S0 :=
  ⟨[(0, (.c (.sl 1 0 0 n 1))), (1, (.c (.sl 2 0 0 m 1))), (4, (.c .nils)), (5, (.c (.sl 115 0 0 (n + m + 1) 1))), (6, (.c (.int .i64 ((↑x : Int)))))], [(1, (.one ⟨false, false, (.ints .u32 a)⟩)), (2, (.one ⟨false, false, (.ints .u32 b)⟩)), (115, (.one ⟨true, true, (.ints .u32 v)⟩))], 163⟩
theorem LUa_by {α : Type} (I : α → S0) (Inv : α → Prop) (μ : α → Nat) {ex : Ex} {s' : S0} (hex : ex ≠ .normal)
    (step : ∀ x, Inv x → (∃ y, Inv y ∧ μ y < μ x ∧ CodeOk Tryd.prog 65 163 (kAt (kOf Tryd.prog Tryd.f123) [true, true, false, true, false, false]) (I x) .normal (I y)) ∨ CodeOk Tryd.prog 65 163 (kAt (kOf Tryd.prog Tryd.f123) [true, true, false, true, false, false]) (I x) ex s') (x : α) (hx : Inv x) :
    CodeOk Tryd.prog 65 163 (kAt (kOf Tryd.prog Tryd.f123) [true, true, false, true, false]) (I x) ex s' := by
  have hk : (kAt (kOf Tryd.prog Tryd.f123) [true, true, false, true, false]) = .loop (kAt (kOf Tryd.prog Tryd.f123) [true, true, false, true, false, false]) := by kernel_rfl
  rw [hk]
  exact CodeOk.loop I Inv μ hex step x hx
noncomputable def LUa0 (a b : List Int) (n m : Nat) : S0 :=
  ⟨[(0, (.c (.sl 1 0 0 n 1))), (1, (.c (.sl 2 0 0 m 1))), (4, (.c .nils)), (5, (.c (.sl 115 0 0 (n + m + 1) 1))), (6, (.c (.int .i64 0)))], [(1, (.one ⟨false, false, (.ints .u32 a)⟩)), (2, (.one ⟨false, false, (.ints .u32 b)⟩)), (115, (.one ⟨true, true, (.ints .u32 (List.replicate (n + m + 1) 0))⟩))], 163⟩
theorem LUa_rt (a b : List Int) (n m x : Nat) (v : List Int)
    (hn : n = a.length)
    (hm : m = b.length)
    (hs : n ≤ 67108864 ∧ m ≤ 67108864)
    (ha : W.b8 a)
    (hb : W.b8 b)
    (hx : x ≤ n)
    (hv : v.length = n + m + 1)
    (hd : W.b8 v)
    (hz : v.getD (x + m) 0 = 0)
    (h1 : ((↑x : Int) < (↑n : Int))) :
    CodeOk Tryd.prog 65 163 (kAt (kOf Tryd.prog Tryd.f123) [true, true, false, true, false, false]) (LUaI a b n m x v) .normal (LUaI a b n m (x + 1) (W.trow a b x v)) :=
  CodeOk.of_runs (fuel := 300) (v := ⟨[0, 1, 4, 5, 6], [1, 2, 115], [], 163⟩) (hs := [(3, ⟨.auto, some (.c (.bool (true)))⟩), (7, ⟨.sum ⟨[0, 1, 4, 5, 6, 7, 8], [1, 2, 115], [], 259⟩ (.exit 2) (LTaI a b n m x 0 (W.tn a b x v) (W.trow a b x v)), none⟩), (9, ⟨.auto, some (.c (.int .i64 (↑(x + 1))))⟩)])
    (cs := [EI .i64 (IntKind.wrap IntKind.i64 ((↑x : Int) + 1)) ((↑(x + 1) : Int)),
      CodeOk Tryd.prog 65 259 (kAt (kOf Tryd.prog Tryd.f123) [true, true, false, true, false, false, true, false, false, true, true, false]) (LTaI a b n m x 0 0 v) (.exit 2) (LTaI a b n m x 0 (W.tn a b x v) (W.trow a b x v)),
      EB (decide ((↑x : Int) < (↑n : Int))) true])
    mixed (by kernel_rfl) ⟨.mk (by simp only [addO_eq, mulE_eq, mulE_one, Int.toNat_natCast, IntKind.wrap_i64, mmin, mmax]; omega), (tml a b v n m x (by omega) (by omega) (by omega) (by omega) (by omega) (by omega) (by omega) (by omega) (by omega)), .mk (decide_eq_true h1), trivial⟩
theorem LUa_xf (a b : List Int) (n m x : Nat) (v : List Int)
    (hn : n = a.length)
    (hm : m = b.length)
    (hs : n ≤ 67108864 ∧ m ≤ 67108864)
    (ha : W.b8 a)
    (hb : W.b8 b)
    (hx : x ≤ n)
    (hv : v.length = n + m + 1)
    (hd : W.b8 v)
    (hz : v.getD (x + m) 0 = 0)
    (h1 : (¬(↑x : Int) < (↑n : Int))) :
    CodeOk Tryd.prog 65 163 (kAt (kOf Tryd.prog Tryd.f123) [true, true, false, true, false, false]) (LUaI a b n m x v) (.exit 0) (LUaI a b n m x v) :=
  CodeOk.of_runs (fuel := 300) (v := ⟨[0, 1, 4, 5, 6], [1, 2, 115], [], 163⟩) (hs := [(3, ⟨.auto, some (.c (.bool (false)))⟩)])
    (cs := [EB (decide ((↑x : Int) < (↑n : Int))) false])
    mixed (by kernel_rfl) ⟨.mk (decide_eq_false h1), trivial⟩

end Go.Proofs.YtmfnldkiaodkpaaDoor.Vm

namespace Go.Proofs.YtmfnldkiaodkpaaDoor.Vm
open Go Go.Proofs Go.Proofs.YtmfnldkiaodkpaaDoor
theorem zr_ok (a : List Int) (n : Nat) (hn : n = a.length) (hs : n ≤ 67108864) (ha : W.b8 a) :
    Contract0 Tryd.prog 131 [(.c (.sl 1 0 0 n 1))] [(1, (.one ⟨false, false, (.ints .u32 a)⟩))] 2 (.c (.bool (decide (W.n8 a = 0)))) [] [] := by
  by_cases h : ∀ j, j < a.length → a.getD j 0 = 0
  · rw [decide_eq_true ((W.n8_zero ha).2 h)]
    exact zr_t a n hn hs ha h
  · rw [decide_eq_false (fun e => h ((W.n8_zero ha).1 e))]
    exact zr_f a n hn hs ha h
theorem lo_ok (a : List Int) (n : Nat) (hn : n = a.length) (hs : n ≤ 67108864) (ha : W.b8 a) :
    Contract0 Tryd.prog 133 [(.c (.sl 1 0 0 n 1))] [(1, (.one ⟨false, false, (.ints .u32 a)⟩))] 2 (.c (.sl 2 0 0 (min n 17) 1)) [] [(2, (.one ⟨true, false, (.ints .u32 (W.lowL a))⟩))] := by
  by_cases h : a.length ≥ 17
  · have r := lo_r_t a n hn hs ha (by omega)
    have e : splice (List.take (min n 17) a) 16 [Int.tmod (List.getD (List.take (min n 17) a) 16 0) 4] = W.lowL a := by
      have e1 : min n 17 = 17 := by omega
      have e2 : List.getD (List.take 17 a) 16 0 = a.getD 16 0 := by
        rw [List.getD_eq_getElem?_getD, List.getD_eq_getElem?_getD, List.getElem?_take, if_pos (by decide)]
      unfold W.lowL
      rw [if_pos h, e1, e2, W.tm (ha 16).1]
      rfl
    rw [e] at r
    have e1 : min n 17 = 17 := by omega
    rw [e1]
    exact r
  · have r := lo_r_f a n hn hs ha (by omega)
    have e1 : min n 17 = n := by omega
    have e2 : W.lowL a = a := by unfold W.lowL; rw [if_neg h]
    rw [e1, W.take_all (by omega)] at r
    rw [e1, e2]
    exact r
theorem tol (a b : List Int) (n m : Nat) (hn : n = a.length) (hm : m = b.length) (hs : n ≤ 67108864 ∧ m ≤ 67108864) (ha : W.b8 a) (hb : W.b8 b) :
    CodeOk Tryd.prog 65 163 (kAt (kOf Tryd.prog Tryd.f123) [true, true, false, true, false]) (LUa0 a b n m) (.exit 0) (LUaI a b n m n (W.tmm a b)) := by
  have ini : LUa0 a b n m = LUaI a b n m 0 (W.tms a b 0) := by subst hn; subst hm; rfl
  have fin : W.tmm a b = W.tms a b n := by rw [hn]; rfl
  rw [ini, fin]
  refine LUa_by (fun x : Nat => LUaI a b n m x (W.tms a b x)) (fun x => x ≤ n) (fun x => n - x) (by simp) ?_ 0 (Nat.zero_le _)
  intro x hx
  have o := W.tm_ok ha hb x (by omega)
  have hv : (W.tms a b x).length = n + m + 1 := by rw [o.len]; omega
  have hz := o.hi (x + m) (by omega)
  by_cases h : x < n
  · exact .inl ⟨x + 1, h, by omega, LUa_rt a b n m x (W.tms a b x) hn hm hs ha hb hx hv o.dg hz (by omega)⟩
  · have e : x = n := by omega
    subst e
    exact .inr (LUa_xf a b x m x (W.tms a b x) hn hm hs ha hb hx hv o.dg hz (by omega))
end Go.Proofs.YtmfnldkiaodkpaaDoor.Vm

namespace Go.Proofs.YtmfnldkiaodkpaaDoor.Vm
open Go Go.Proofs Go.Proofs.YtmfnldkiaodkpaaDoor
set_option maxRecDepth 100000
theorem tm_r (a b : List Int) (n m : Nat)
    (hn : n = a.length)
    (hm : m = b.length)
    (hs : n ≤ 67108864 ∧ m ≤ 67108864)
    (ha : W.b8 a)
    (hb : W.b8 b) :
    Contract0 Tryd.prog 123 [(.c (.sl 1 0 0 n 1)), (.c (.sl 2 0 0 m 1))] [(1, (.one ⟨false, false, (.ints .u32 a)⟩)), (2, (.one ⟨false, false, (.ints .u32 b)⟩))] 3 (.c (.sl 3 0 0 (n + m + 1) 1)) [] [(3, (.one ⟨true, true, (.ints .u32 (W.tmm a b))⟩))] :=
  Contract0.renum (Contract0.of_frun (res := (.c (.sl 115 0 0 (n + m + 1) 1))) (up := [(115, (.one ⟨true, true, (.ints .u32 (W.tmm a b))⟩))]) (kill := []) (n0 := 3) (m := [(1, (.one ⟨false, false, (.ints .u32 a)⟩)), (2, (.one ⟨false, false, (.ints .u32 b)⟩))]) (args := [(.c (.sl 1 0 0 n 1)), (.c (.sl 2 0 0 m 1))]) (fn := Tryd.f123) (c := bodyOf Tryd.f123) (fuel := 300) (k := kOf Tryd.prog Tryd.f123) (outs := [115]) (hs := [(5, ⟨.auto, some (.c (.int .i64 (↑(n + m))))⟩), (6, ⟨.auto, some (.c (.int .i64 (↑(n + m + 1))))⟩), (7, ⟨.ask, none⟩), (10, ⟨.sum ⟨[0, 1, 4, 5, 6], [1, 2, 115], [], 163⟩ (.exit 0) (LUaI a b n m n (W.tmm a b)), none⟩)])
    (cs := [CodeOk Tryd.prog 65 163 (kAt (kOf Tryd.prog Tryd.f123) [true, true, false, true, false]) (LUa0 a b n m) (.exit 0) (LUaI a b n m n (W.tmm a b)),
      ((0 : Int) ≤ (↑(n + m + (1 : Nat)) : Int) ∧ (↑(n + m + (1 : Nat)) : Int) ≤ (↑(n + m + (1 : Nat)) : Int) ∧ (↑(n + m + (1 : Nat)) : Int) ≤ (4294967296 : Int) ∧ (4 : Nat) * (n + m + (1 : Nat)) ≤ (4398046511104 : Nat)),
      EI .i64 (IntKind.wrap IntKind.i64 ((↑(n + m) : Int) + 1)) ((↑(n + m + 1) : Int)),
      EI .i64 (IntKind.wrap IntKind.i64 ((↑n : Int) + (↑m : Int))) ((↑(n + m) : Int))])
    mixed Tryd.func123 (by kernel_rfl) (by kernel_rfl) (by kernel_rfl) (by kernel_rfl) (by kernel_rfl) ⟨(tol a b n m (by omega) (by omega) (by omega) (by omega) (by omega)), (by omega), .mk (by simp only [addO_eq, mulE_eq, mulE_one, Int.toNat_natCast, IntKind.wrap_i64, mmin, mmax]; omega), .mk (by simp only [addO_eq, mulE_eq, mulE_one, Int.toNat_natCast, IntKind.wrap_i64, mmin, mmax]; omega), trivial⟩) [.b 1 1 true, .b 2 2 true] [] [(115, 3)] [] (by kernel_rfl) (by kernel_rfl) (by kernel_rfl) (by kernel_rfl) (by kernel_rfl)


noncomputable def LRaI (n0 : Nat) (l1 : List Int) : S0 :=
  ⟨[(2, (.c .nils)), (0, (.c (.sl 18 0 0 n0 1)))], [(18, (.one ⟨true, false, (.ints .u32 l1)⟩))], 34⟩
theorem LRa_by {α : Type} (I : α → S0) (Inv : α → Prop) (μ : α → Nat) {ex : Ex} {s' : S0} (hex : ex ≠ .normal)
    (step : ∀ x, Inv x → (∃ y, Inv y ∧ μ y < μ x ∧ CodeOk Tryd.prog 25 18 (kAt (kOf Tryd.prog Tryd.f122) [true, false, false, false]) (I x) .normal (I y)) ∨ CodeOk Tryd.prog 25 18 (kAt (kOf Tryd.prog Tryd.f122) [true, false, false, false]) (I x) ex s') (x : α) (hx : Inv x) :
    CodeOk Tryd.prog 25 18 (kAt (kOf Tryd.prog Tryd.f122) [true, false, false]) (I x) ex s' := by
  have hk : (kAt (kOf Tryd.prog Tryd.f122) [true, false, false]) = .loop (kAt (kOf Tryd.prog Tryd.f122) [true, false, false, false]) := by kernel_rfl
  rw [hk]
  exact CodeOk.loop I Inv μ hex step x hx
noncomputable def LRa0 (a : List Int) (n : Nat) : S0 :=
  ⟨[(2, (.c .nils)), (0, (.c (.sl 1 0 0 n 1)))], [(1, (.one ⟨true, false, (.ints .u32 a)⟩))], 18⟩
theorem LRa_enter (a : List Int) (n : Nat) {ex : Ex} {s' : S0} (h : CodeOk Tryd.prog 25 18 (kAt (kOf Tryd.prog Tryd.f122) [true, false, false]) (LRaI n a) ex s') :
    CodeOk Tryd.prog 25 18 (kAt (kOf Tryd.prog Tryd.f122) [true, false, false]) (LRa0 a n) ex s' :=
  CodeOk.pre (v := ⟨[2, 0], [1], [(1, 18)], 34⟩) (by kernel_rfl) (by kernel_rfl) h
theorem LRa_xt (a : List Int) (n n0 : Nat) (l1 : List Int)
    (hn : n = a.length)
    (hs : n ≤ 67108864)
    (ha : W.b8 a)
    (c5 : (n0 = List.length l1))
    (c6 : (n0 ≤ (67108864 : Nat)))
    (c7 : (W.b8 l1))
    (h8 : (W.n8 (W.highL l1) = (0 : Int))) :
    CodeOk Tryd.prog 25 18 (kAt (kOf Tryd.prog Tryd.f122) [true, false, false, false]) (LRaI n0 l1) (.exit 0) (LRaI n0 l1) :=
  CodeOk.of_runs (fuel := 300) (v := ⟨[2, 0], [18], [(18, 18)], 34⟩) (hs := [(1, ⟨.call [18] (.c (.sl 50 0 0 (n0 - 16) 1)) [] [(50, (.one ⟨true, false, (.ints .u32 (W.highL l1))⟩))], none⟩), (2, ⟨.call [50] (.c (.bool (decide (W.n8 (W.highL l1) = 0)))) [] [], none⟩), (3, ⟨.auto, some (.c (.bool (false)))⟩)])
    (cs := [EB (!decide (W.n8 (W.highL l1) = 0)) false,
      Contract Tryd.prog 131 [(.c (.sl 50 0 0 (n0 - 16) 1))] [(50, (.one ⟨true, false, (.ints .u32 (W.highL l1))⟩))] 66 (.c (.bool (decide (W.n8 (W.highL l1) = 0)))) [] [],
      Contract Tryd.prog 132 [(.c (.sl 18 0 0 n0 1))] [(18, (.one ⟨true, false, (.ints .u32 l1)⟩))] 50 (.c (.sl 50 0 0 (n0 - 16) 1)) [] [(50, (.one ⟨true, false, (.ints .u32 (W.highL l1))⟩))]])
    mixed (by kernel_rfl) ⟨.mk (not_f (decide_eq_true h8)), Contract0.inst (zr_ok (W.highL l1) (n0 - 16) (by rw [W.highL_len]; omega) (by omega) (by exact W.highL_b8 (by assumption))) [.b 50 1 true []] [none] [] [] (by kernel_rfl) (by kernel_rfl) (by kernel_rfl) (by kernel_rfl) (by kernel_rfl), Contract0.inst (hi_r l1 n0 c5 c6 c7) [.b 18 1 true []] [none] [(2, 50)] [] (by kernel_rfl) (by kernel_rfl) (by kernel_rfl) (by kernel_rfl) (by kernel_rfl), trivial⟩
theorem LRa_rf (a : List Int) (n n0 : Nat) (l1 : List Int)
    (hn : n = a.length)
    (hs : n ≤ 67108864)
    (ha : W.b8 a)
    (c5 : (n0 = List.length l1))
    (c6 : (n0 ≤ (67108864 : Nat)))
    (c7 : (W.b8 l1))
    (h8 : (¬W.n8 (W.highL l1) = (0 : Int))) :
    CodeOk Tryd.prog 25 18 (kAt (kOf Tryd.prog Tryd.f122) [true, false, false, false]) (LRaI n0 l1) .normal (LRaI (W.pln (W.lowL l1) (W.tmm [5] (W.highL l1))) (W.pls (W.lowL l1) (W.tmm [5] (W.highL l1)))) :=
  CodeOk.of_runs (fuel := 300) (v := ⟨[2, 0], [194], [(194, 18)], 34⟩) (hs := [(1, ⟨.call [18] (.c (.sl 50 0 0 (n0 - 16) 1)) [] [(50, (.one ⟨true, false, (.ints .u32 (W.highL l1))⟩))], none⟩), (2, ⟨.call [50] (.c (.bool (decide (W.n8 (W.highL l1) = 0)))) [] [], none⟩), (3, ⟨.auto, some (.c (.bool (true)))⟩), (6, ⟨.call [18] (.c (.sl 114 0 0 (min n0 17) 1)) [] [(114, (.one ⟨true, false, (.ints .u32 (W.lowL l1))⟩))], none⟩), (9, ⟨.call [18] (.c (.sl 162 0 0 (n0 - 16) 1)) [] [(162, (.one ⟨true, false, (.ints .u32 (W.highL l1))⟩))], none⟩), (10, ⟨.call [130, 162] (.c (.sl 178 0 0 (1 + (n0 - 16) + 1) 1)) [] [(178, (.one ⟨true, true, (.ints .u32 (W.tmm [5] (W.highL l1)))⟩))], none⟩), (11, ⟨.call [114, 178] (.c (.sl 194 0 0 (W.pln (W.lowL l1) (W.tmm [5] (W.highL l1))) 1)) [] [(194, (.one ⟨true, false, (.ints .u32 (W.pls (W.lowL l1) (W.tmm [5] (W.highL l1))))⟩))], none⟩)])
    (cs := [Contract Tryd.prog 124 [(.c (.sl 114 0 0 (min n0 17) 1)), (.c (.sl 178 0 0 (1 + (n0 - 16) + 1) 1))] [(114, (.one ⟨true, false, (.ints .u32 (W.lowL l1))⟩)), (178, (.one ⟨true, true, (.ints .u32 (W.tmm [5] (W.highL l1)))⟩))] 194 (.c (.sl 194 0 0 (W.pln (W.lowL l1) (W.tmm [5] (W.highL l1))) 1)) [] [(194, (.one ⟨true, false, (.ints .u32 (W.pls (W.lowL l1) (W.tmm [5] (W.highL l1))))⟩))],
      Contract Tryd.prog 123 [(.c (.sl 130 0 0 1 1)), (.c (.sl 162 0 0 (n0 - 16) 1))] [(130, (.one ⟨true, true, (.cells [(.int .u32 5)])⟩)), (162, (.one ⟨true, false, (.ints .u32 (W.highL l1))⟩))] 178 (.c (.sl 178 0 0 (1 + (n0 - 16) + 1) 1)) [] [(178, (.one ⟨true, true, (.ints .u32 (W.tmm [5] (W.highL l1)))⟩))],
      Contract Tryd.prog 132 [(.c (.sl 18 0 0 n0 1))] [(18, (.one ⟨true, false, (.ints .u32 l1)⟩))] 162 (.c (.sl 162 0 0 (n0 - 16) 1)) [] [(162, (.one ⟨true, false, (.ints .u32 (W.highL l1))⟩))],
      Contract Tryd.prog 133 [(.c (.sl 18 0 0 n0 1))] [(18, (.one ⟨true, false, (.ints .u32 l1)⟩))] 114 (.c (.sl 114 0 0 (min n0 17) 1)) [] [(114, (.one ⟨true, false, (.ints .u32 (W.lowL l1))⟩))],
      EB (!decide (W.n8 (W.highL l1) = 0)) true,
      Contract Tryd.prog 131 [(.c (.sl 50 0 0 (n0 - 16) 1))] [(50, (.one ⟨true, false, (.ints .u32 (W.highL l1))⟩))] 66 (.c (.bool (decide (W.n8 (W.highL l1) = 0)))) [] [],
      Contract Tryd.prog 132 [(.c (.sl 18 0 0 n0 1))] [(18, (.one ⟨true, false, (.ints .u32 l1)⟩))] 50 (.c (.sl 50 0 0 (n0 - 16) 1)) [] [(50, (.one ⟨true, false, (.ints .u32 (W.highL l1))⟩))]])
    mixed (by kernel_rfl) ⟨Contract0.inst (pl_r (W.lowL l1) (W.tmm [5] (W.highL l1)) (min n0 17) (1 + (n0 - 16) + 1) (by rw [W.lowL_len]; omega) (by rw [W.tmm_len W.b8_five (W.highL_b8 (by assumption)), W.highL_len]; simp only [List.length_cons, List.length_nil]; omega) (by omega) (by exact W.lowL_b8 (by assumption)) (by exact W.tmm_b8 W.b8_five (W.highL_b8 (by assumption)))) [.b 114 1 true [], .b 178 2 true []] [none, none] [(3, 194)] [] (by kernel_rfl) (by kernel_rfl) (by kernel_rfl) (by kernel_rfl) (by kernel_rfl), Contract0.inst (tm_r [5] (W.highL l1) 1 (n0 - 16) (by simp only [and_true, List.length_set, List.length_append, List.length_replicate, List.length_take, List.length_drop, List.length_map, List.length_cons, List.length_nil, List.length_zipWith, splice_len1, W.le_len, W.bts_len, Int.toNat_natCast, addO_eq, mulE_eq, mulE_one]) (by rw [W.highL_len]; omega) (by omega) (by exact W.b8_five) (by exact W.highL_b8 (by assumption))) [.b 130 1 true [], .b 162 2 true []] [none, none] [(3, 178)] [] (by kernel_rfl) (by kernel_rfl) (by kernel_rfl) (by kernel_rfl) (by kernel_rfl), Contract0.inst (hi_r l1 n0 (by omega) (by omega) (by omega)) [.b 18 1 true []] [none] [(2, 162)] [] (by kernel_rfl) (by kernel_rfl) (by kernel_rfl) (by kernel_rfl) (by kernel_rfl), Contract0.inst (lo_ok l1 n0 (by omega) (by omega) (by omega)) [.b 18 1 true []] [none] [(2, 114)] [] (by kernel_rfl) (by kernel_rfl) (by kernel_rfl) (by kernel_rfl) (by kernel_rfl), .mk (not_t (decide_eq_false h8)), Contract0.inst (zr_ok (W.highL l1) (n0 - 16) (by rw [W.highL_len]; omega) (by omega) (by exact W.highL_b8 (by assumption))) [.b 50 1 true []] [none] [] [] (by kernel_rfl) (by kernel_rfl) (by kernel_rfl) (by kernel_rfl) (by kernel_rfl), Contract0.inst (hi_r l1 n0 c5 c6 c7) [.b 18 1 true []] [none] [(2, 50)] [] (by kernel_rfl) (by kernel_rfl) (by kernel_rfl) (by kernel_rfl) (by kernel_rfl), trivial⟩

end Go.Proofs.YtmfnldkiaodkpaaDoor.Vm

namespace Go.Proofs.YtmfnldkiaodkpaaDoor.Vm
open Go Go.Proofs Go.Proofs.YtmfnldkiaodkpaaDoor
theorem rdl (a : List Int) (n : Nat) (hn : n = a.length) (hs : n ≤ 67108864) (ha : W.b8 a) :
    CodeOk Tryd.prog 25 18 (kAt (kOf Tryd.prog Tryd.f122) [true, false, false]) (LRa0 a n) (.exit 0) (LRaI (W.sl8 (W.rdL a)).length (W.sl8 (W.rdL a))) := by
  rw [W.sl8_eq]
  subst hn
  refine LRa_enter a a.length (LRa_by (fun l : List Int => LRaI l.length l) (fun l => W.b8 l ∧ l.length ≤ 67108864 ∧ W.rdL l = W.rdL a) (fun l => (W.n8 l).toNat) (by simp) ?_ a ⟨ha, hs, rfl⟩)
  rintro l ⟨hb, hl, he⟩
  by_cases hz : W.n8 (W.highL l) = 0
  · right
    have r := LRa_xt a a.length l.length l rfl hs ha rfl hl hb hz
    have e := W.rdL_stop hz
    rw [he] at e
    rw [e]
    exact r
  · left
    have r := LRa_rf a a.length l.length l rfl hs ha rfl hl hb hz
    have hlt := W.rnx_lt hb hz
    have hn := W.n8_nn (W.rnx_b8 (a := l))
    refine ⟨W.rnx l, ⟨W.rnx_b8, ?_, ?_⟩, by omega, ?_⟩
    · have := W.rnx_len hb; omega
    · rw [W.rdL_step hb hz, he]
    · have e : (W.rnx l).length = W.pln (W.lowL l) (W.tmm [5] (W.highL l)) := W.pls_len
      rw [e]
      exact r
end Go.Proofs.YtmfnldkiaodkpaaDoor.Vm

namespace Go.Proofs.YtmfnldkiaodkpaaDoor.Vm
open Go Go.Proofs Go.Proofs.YtmfnldkiaodkpaaDoor
set_option maxRecDepth 100000
theorem rd_r_t (a : List Int) (n : Nat)
    (hn : n = a.length)
    (hs : n ≤ 67108864)
    (ha : W.b8 a)
    (hf : W.b8 (W.sl8 (W.rdL a)))
    (hfl : (W.sl8 (W.rdL a)).length ≤ 67108864)
    (c0 : (W.pln (W.sl8 (W.rdL a)) [(5 : Int)] ≤ (67108864 : Nat)))
    (h1 : (W.n8 (W.highL (W.pls (W.sl8 (W.rdL a)) [(5 : Int)])) = (0 : Int))) :
    Contract0 Tryd.prog 122 [(.c (.sl 1 0 0 n 1))] [(1, (.one ⟨true, false, (.ints .u32 a)⟩))] 2 (.c (.sl 2 0 0 (List.length (W.sl8 (W.rdL a))) 1)) [1] [(2, (.one ⟨true, false, (.ints .u32 (W.sl8 (W.rdL a)))⟩))] :=
  Contract0.renum (Contract0.of_frun (res := (.c (.sl 18 0 0 (List.length (W.sl8 (W.rdL a))) 1))) (up := [(18, (.one ⟨true, false, (.ints .u32 (W.sl8 (W.rdL a)))⟩))]) (kill := [1]) (n0 := 2) (m := [(1, (.one ⟨true, false, (.ints .u32 a)⟩))]) (args := [(.c (.sl 1 0 0 n 1))]) (fn := Tryd.f122) (c := bodyOf Tryd.f122) (fuel := 300) (k := kOf Tryd.prog Tryd.f122) (outs := [18]) (hs := [(1, ⟨.sum ⟨[2, 0], [1], [], 18⟩ (.exit 0) (LRaI (List.length (W.sl8 (W.rdL a))) (W.sl8 (W.rdL a))), none⟩), (4, ⟨.call [18, 50] (.c (.sl 66 0 0 (W.pln (W.sl8 (W.rdL a)) [5]) 1)) [] [(66, (.one ⟨true, false, (.ints .u32 (W.pls (W.sl8 (W.rdL a)) [5]))⟩))], none⟩), (7, ⟨.call [66] (.c (.sl 114 0 0 (W.pln (W.sl8 (W.rdL a)) [5] - 16) 1)) [] [(114, (.one ⟨true, false, (.ints .u32 (W.highL (W.pls (W.sl8 (W.rdL a)) [5])))⟩))], none⟩), (8, ⟨.call [114] (.c (.bool (decide (W.n8 (W.highL (W.pls (W.sl8 (W.rdL a)) [5])) = 0)))) [] [], none⟩), (9, ⟨.auto, some (.c (.bool (false)))⟩)])
    (cs := [EB (!decide (W.n8 (W.highL (W.pls (W.sl8 (W.rdL a)) [5])) = 0)) false,
      Contract Tryd.prog 131 [(.c (.sl 114 0 0 (W.pln (W.sl8 (W.rdL a)) [5] - 16) 1))] [(114, (.one ⟨true, false, (.ints .u32 (W.highL (W.pls (W.sl8 (W.rdL a)) [5])))⟩))] 130 (.c (.bool (decide (W.n8 (W.highL (W.pls (W.sl8 (W.rdL a)) [5])) = 0)))) [] [],
      Contract Tryd.prog 132 [(.c (.sl 66 0 0 (W.pln (W.sl8 (W.rdL a)) [5]) 1))] [(66, (.one ⟨true, false, (.ints .u32 (W.pls (W.sl8 (W.rdL a)) [5]))⟩))] 114 (.c (.sl 114 0 0 (W.pln (W.sl8 (W.rdL a)) [5] - 16) 1)) [] [(114, (.one ⟨true, false, (.ints .u32 (W.highL (W.pls (W.sl8 (W.rdL a)) [5])))⟩))],
      Contract Tryd.prog 124 [(.c (.sl 18 0 0 (List.length (W.sl8 (W.rdL a))) 1)), (.c (.sl 50 0 0 1 1))] [(18, (.one ⟨true, false, (.ints .u32 (W.sl8 (W.rdL a)))⟩)), (50, (.one ⟨true, true, (.cells [(.int .u32 5)])⟩))] 66 (.c (.sl 66 0 0 (W.pln (W.sl8 (W.rdL a)) [5]) 1)) [] [(66, (.one ⟨true, false, (.ints .u32 (W.pls (W.sl8 (W.rdL a)) [5]))⟩))],
      CodeOk Tryd.prog 25 18 (kAt (kOf Tryd.prog Tryd.f122) [true, false, false]) (LRa0 a n) (.exit 0) (LRaI (List.length (W.sl8 (W.rdL a))) (W.sl8 (W.rdL a)))])
    mixed Tryd.func122 (by kernel_rfl) (by kernel_rfl) (by kernel_rfl) (by kernel_rfl) (by kernel_rfl) ⟨.mk (not_f (decide_eq_true h1)), Contract0.inst (zr_ok (W.highL (W.pls (W.sl8 (W.rdL a)) [5])) (W.pln (W.sl8 (W.rdL a)) [5] - 16) (by rw [W.highL_len, W.pls_len]) (by omega) (by exact W.highL_b8 (W.plr_b8 _))) [.b 114 1 true []] [none] [] [] (by kernel_rfl) (by kernel_rfl) (by kernel_rfl) (by kernel_rfl) (by kernel_rfl), Contract0.inst (hi_r (W.pls (W.sl8 (W.rdL a)) [5]) (W.pln (W.sl8 (W.rdL a)) [5]) (by exact W.pls_len.symm) c0 (by exact W.plr_b8 _)) [.b 66 1 true []] [none] [(2, 114)] [] (by kernel_rfl) (by kernel_rfl) (by kernel_rfl) (by kernel_rfl) (by kernel_rfl), Contract0.inst (pl_r (W.sl8 (W.rdL a)) [5] (List.length (W.sl8 (W.rdL a))) 1 rfl (by simp only [and_true, List.length_set, List.length_append, List.length_replicate, List.length_take, List.length_drop, List.length_map, List.length_cons, List.length_nil, List.length_zipWith, splice_len1, W.le_len, W.bts_len, Int.toNat_natCast, addO_eq, mulE_eq, mulE_one]) (by omega) (by omega) (by exact W.b8_five)) [.b 18 1 true [], .b 50 2 true []] [none, none] [(3, 66)] [] (by kernel_rfl) (by kernel_rfl) (by kernel_rfl) (by kernel_rfl) (by kernel_rfl), (rdl a n (by omega) (by omega) (by omega)), trivial⟩) [.b 1 1 false] [] [(18, 2)] [1] (by kernel_rfl) (by kernel_rfl) (by kernel_rfl) (by kernel_rfl) (by kernel_rfl)

theorem rd_r_f (a : List Int) (n : Nat)
    (hn : n = a.length)
    (hs : n ≤ 67108864)
    (ha : W.b8 a)
    (hf : W.b8 (W.sl8 (W.rdL a)))
    (hfl : (W.sl8 (W.rdL a)).length ≤ 67108864)
    (c0 : (W.pln (W.sl8 (W.rdL a)) [(5 : Int)] ≤ (67108864 : Nat)))
    (h1 : (¬W.n8 (W.highL (W.pls (W.sl8 (W.rdL a)) [(5 : Int)])) = (0 : Int))) :
    Contract0 Tryd.prog 122 [(.c (.sl 1 0 0 n 1))] [(1, (.one ⟨true, false, (.ints .u32 a)⟩))] 2 (.c (.sl 2 0 0 (min (W.pln (W.sl8 (W.rdL a)) [5]) 17) 1)) [1] [(2, (.one ⟨true, false, (.ints .u32 (W.lowL (W.pls (W.sl8 (W.rdL a)) [5])))⟩))] :=
  Contract0.renum (Contract0.of_frun (res := (.c (.sl 178 0 0 (min (W.pln (W.sl8 (W.rdL a)) [5]) 17) 1))) (up := [(178, (.one ⟨true, false, (.ints .u32 (W.lowL (W.pls (W.sl8 (W.rdL a)) [5])))⟩))]) (kill := [1]) (n0 := 2) (m := [(1, (.one ⟨true, false, (.ints .u32 a)⟩))]) (args := [(.c (.sl 1 0 0 n 1))]) (fn := Tryd.f122) (c := bodyOf Tryd.f122) (fuel := 300) (k := kOf Tryd.prog Tryd.f122) (outs := [178]) (hs := [(1, ⟨.sum ⟨[2, 0], [1], [], 18⟩ (.exit 0) (LRaI (List.length (W.sl8 (W.rdL a))) (W.sl8 (W.rdL a))), none⟩), (4, ⟨.call [18, 50] (.c (.sl 66 0 0 (W.pln (W.sl8 (W.rdL a)) [5]) 1)) [] [(66, (.one ⟨true, false, (.ints .u32 (W.pls (W.sl8 (W.rdL a)) [5]))⟩))], none⟩), (7, ⟨.call [66] (.c (.sl 114 0 0 (W.pln (W.sl8 (W.rdL a)) [5] - 16) 1)) [] [(114, (.one ⟨true, false, (.ints .u32 (W.highL (W.pls (W.sl8 (W.rdL a)) [5])))⟩))], none⟩), (8, ⟨.call [114] (.c (.bool (decide (W.n8 (W.highL (W.pls (W.sl8 (W.rdL a)) [5])) = 0)))) [] [], none⟩), (9, ⟨.auto, some (.c (.bool (true)))⟩), (12, ⟨.call [66] (.c (.sl 178 0 0 (min (W.pln (W.sl8 (W.rdL a)) [5]) 17) 1)) [] [(178, (.one ⟨true, false, (.ints .u32 (W.lowL (W.pls (W.sl8 (W.rdL a)) [5])))⟩))], none⟩)])
    (cs := [Contract Tryd.prog 133 [(.c (.sl 66 0 0 (W.pln (W.sl8 (W.rdL a)) [5]) 1))] [(66, (.one ⟨true, false, (.ints .u32 (W.pls (W.sl8 (W.rdL a)) [5]))⟩))] 178 (.c (.sl 178 0 0 (min (W.pln (W.sl8 (W.rdL a)) [5]) 17) 1)) [] [(178, (.one ⟨true, false, (.ints .u32 (W.lowL (W.pls (W.sl8 (W.rdL a)) [5])))⟩))],
      EB (!decide (W.n8 (W.highL (W.pls (W.sl8 (W.rdL a)) [5])) = 0)) true,
      Contract Tryd.prog 131 [(.c (.sl 114 0 0 (W.pln (W.sl8 (W.rdL a)) [5] - 16) 1))] [(114, (.one ⟨true, false, (.ints .u32 (W.highL (W.pls (W.sl8 (W.rdL a)) [5])))⟩))] 130 (.c (.bool (decide (W.n8 (W.highL (W.pls (W.sl8 (W.rdL a)) [5])) = 0)))) [] [],
      Contract Tryd.prog 132 [(.c (.sl 66 0 0 (W.pln (W.sl8 (W.rdL a)) [5]) 1))] [(66, (.one ⟨true, false, (.ints .u32 (W.pls (W.sl8 (W.rdL a)) [5]))⟩))] 114 (.c (.sl 114 0 0 (W.pln (W.sl8 (W.rdL a)) [5] - 16) 1)) [] [(114, (.one ⟨true, false, (.ints .u32 (W.highL (W.pls (W.sl8 (W.rdL a)) [5])))⟩))],
      Contract Tryd.prog 124 [(.c (.sl 18 0 0 (List.length (W.sl8 (W.rdL a))) 1)), (.c (.sl 50 0 0 1 1))] [(18, (.one ⟨true, false, (.ints .u32 (W.sl8 (W.rdL a)))⟩)), (50, (.one ⟨true, true, (.cells [(.int .u32 5)])⟩))] 66 (.c (.sl 66 0 0 (W.pln (W.sl8 (W.rdL a)) [5]) 1)) [] [(66, (.one ⟨true, false, (.ints .u32 (W.pls (W.sl8 (W.rdL a)) [5]))⟩))],
      CodeOk Tryd.prog 25 18 (kAt (kOf Tryd.prog Tryd.f122) [true, false, false]) (LRa0 a n) (.exit 0) (LRaI (List.length (W.sl8 (W.rdL a))) (W.sl8 (W.rdL a)))])
    mixed Tryd.func122 (by kernel_rfl) (by kernel_rfl) (by kernel_rfl) (by kernel_rfl) (by kernel_rfl) ⟨Contract0.inst (lo_ok (W.pls (W.sl8 (W.rdL a)) [5]) (W.pln (W.sl8 (W.rdL a)) [5]) (by exact W.pls_len.symm) (by omega) (by exact W.plr_b8 _)) [.b 66 1 true []] [none] [(2, 178)] [] (by kernel_rfl) (by kernel_rfl) (by kernel_rfl) (by kernel_rfl) (by kernel_rfl), .mk (not_t (decide_eq_false h1)), Contract0.inst (zr_ok (W.highL (W.pls (W.sl8 (W.rdL a)) [5])) (W.pln (W.sl8 (W.rdL a)) [5] - 16) (by rw [W.highL_len, W.pls_len]) (by omega) (by exact W.highL_b8 (W.plr_b8 _))) [.b 114 1 true []] [none] [] [] (by kernel_rfl) (by kernel_rfl) (by kernel_rfl) (by kernel_rfl) (by kernel_rfl), Contract0.inst (hi_r (W.pls (W.sl8 (W.rdL a)) [5]) (W.pln (W.sl8 (W.rdL a)) [5]) (by exact W.pls_len.symm) c0 (by exact W.plr_b8 _)) [.b 66 1 true []] [none] [(2, 114)] [] (by kernel_rfl) (by kernel_rfl) (by kernel_rfl) (by kernel_rfl) (by kernel_rfl), Contract0.inst (pl_r (W.sl8 (W.rdL a)) [5] (List.length (W.sl8 (W.rdL a))) 1 rfl (by simp only [and_true, List.length_set, List.length_append, List.length_replicate, List.length_take, List.length_drop, List.length_map, List.length_cons, List.length_nil, List.length_zipWith, splice_len1, W.le_len, W.bts_len, Int.toNat_natCast, addO_eq, mulE_eq, mulE_one]) (by omega) (by omega) (by exact W.b8_five)) [.b 18 1 true [], .b 50 2 true []] [none, none] [(3, 66)] [] (by kernel_rfl) (by kernel_rfl) (by kernel_rfl) (by kernel_rfl) (by kernel_rfl), (rdl a n (by omega) (by omega) (by omega)), trivial⟩) [.b 1 1 false] [] [(178, 2)] [1] (by kernel_rfl) (by kernel_rfl) (by kernel_rfl) (by kernel_rfl) (by kernel_rfl)


end Go.Proofs.YtmfnldkiaodkpaaDoor.Vm

namespace Go.Proofs.YtmfnldkiaodkpaaDoor.Vm
open Go Go.Proofs Go.Proofs.YtmfnldkiaodkpaaDoor
theorem rd_ok (a : List Int) (n : Nat) (hn : n = a.length) (hs : n ≤ 67108000) (ha : W.b8 a) :
    Contract0 Tryd.prog 122 [(.c (.sl 1 0 0 n 1))] [(1, (.one ⟨true, false, (.ints .u32 a)⟩))] 2 (.c (.sl 2 0 0 (List.length (W.redL a)) 1)) [1] [(2, (.one ⟨true, false, (.ints .u32 (W.redL a))⟩))] := by
  obtain ⟨r1, r2, r3, r4⟩ := W.rdL_ok ha
  have hp := (W.pln_ge (a := W.rdL a) (b := [5])).2.2
  have l5 : ([5] : List Int).length = 1 := rfl
  rw [l5] at hp
  by_cases hz : W.n8 (W.highL (W.pls (W.rdL a) [5])) = 0
  · have r := rd_r_t a n hn (by omega) ha (by rw [W.sl8_eq]; exact r1) (by rw [W.sl8_eq]; omega) (by rw [W.sl8_eq]; omega) (by rw [W.sl8_eq]; exact hz)
    rw [W.sl8_eq] at r
    have e : W.redL a = W.rdL a := by unfold W.redL; rw [if_pos hz]
    rw [e]
    exact r
  · have r := rd_r_f a n hn (by omega) ha (by rw [W.sl8_eq]; exact r1) (by rw [W.sl8_eq]; omega) (by rw [W.sl8_eq]; omega) (by rw [W.sl8_eq]; exact hz)
    rw [W.sl8_eq] at r
    have e : W.redL a = W.lowL (W.pls (W.rdL a) [5]) := by unfold W.redL; rw [if_neg hz]
    rw [e, W.lowL_len, W.pls_len]
    exact r
theorem rd_x (a : List Int) (n : Nat) (hn : n = a.length) (hs : n ≤ 67108000) (ha : W.b8 a) :
    Contract0 Tryd.prog 122 [(.c (.sl 1 0 0 n 1))] [(1, (.one ⟨true, true, (.ints .u32 a)⟩))] 2 (.c (.sl 2 0 0 (List.length (W.redL a)) 1)) [1] [(2, (.one ⟨true, false, (.ints .u32 (W.redL a))⟩))] :=
  Contract0.exact (rd_ok a n hn hs ha)
end Go.Proofs.YtmfnldkiaodkpaaDoor.Vm
