/- What functions of the program come to: parts of the walk (Ea). -/
import Derived.Test.YtmfnldkiaodkpaaDoorOa
import Derived.Test.YtmfnldkiaodkpaaDoorVmc
import Derived.KernelRfl
import Derived.Test.YtmfnldkiaodkpaaDoorProg
import Derived.Test.YtmfnldkiaodkpaaDoorVmb
import Derived.Test.YtmfnldkiaodkpaaDoorOd
set_option linter.unusedSimpArgs false
set_option linter.unusedVariables false
namespace Go.Proofs.YtmfnldkiaodkpaaDoor.Vm
open Go Go.Proofs Go.Proofs.YtmfnldkiaodkpaaDoor
set_option maxRecDepth 100000
theorem turn16 (x : Int) :
    PureF Tryd.prog 112 [(.c (.int .u32 x)), (.c (.int .u64 16))] (.c (.int .u32 (bOr IntKind.u32 (x * 65536 % 4294967296) (x / 65536)))) :=
  Contract0.of_frun (res := (.c (.int .u32 (bOr IntKind.u32 (x * 65536 % 4294967296) (x / 65536))))) (up := []) (kill := []) (n0 := 1) (m := []) (args := [(.c (.int .u32 x)), (.c (.int .u64 16))]) (fn := Tryd.f112) (c := bodyOf Tryd.f112) (fuel := 300) (k := kOf Tryd.prog Tryd.f112) (outs := []) (hs := [])
    (cs := [])
    mixed Tryd.func112 (by kernel_rfl) (by kernel_rfl) (by kernel_rfl) (by kernel_rfl) (by kernel_rfl) trivial


theorem turn12 (x : Int) :
    PureF Tryd.prog 112 [(.c (.int .u32 x)), (.c (.int .u64 12))] (.c (.int .u32 (bOr IntKind.u32 (x * 4096 % 4294967296) (x / 1048576)))) :=
  Contract0.of_frun (res := (.c (.int .u32 (bOr IntKind.u32 (x * 4096 % 4294967296) (x / 1048576))))) (up := []) (kill := []) (n0 := 1) (m := []) (args := [(.c (.int .u32 x)), (.c (.int .u64 12))]) (fn := Tryd.f112) (c := bodyOf Tryd.f112) (fuel := 300) (k := kOf Tryd.prog Tryd.f112) (outs := []) (hs := [])
    (cs := [])
    mixed Tryd.func112 (by kernel_rfl) (by kernel_rfl) (by kernel_rfl) (by kernel_rfl) (by kernel_rfl) trivial


theorem turn8 (x : Int) :
    PureF Tryd.prog 112 [(.c (.int .u32 x)), (.c (.int .u64 8))] (.c (.int .u32 (bOr IntKind.u32 (x * 256 % 4294967296) (x / 16777216)))) :=
  Contract0.of_frun (res := (.c (.int .u32 (bOr IntKind.u32 (x * 256 % 4294967296) (x / 16777216))))) (up := []) (kill := []) (n0 := 1) (m := []) (args := [(.c (.int .u32 x)), (.c (.int .u64 8))]) (fn := Tryd.f112) (c := bodyOf Tryd.f112) (fuel := 300) (k := kOf Tryd.prog Tryd.f112) (outs := []) (hs := [])
    (cs := [])
    mixed Tryd.func112 (by kernel_rfl) (by kernel_rfl) (by kernel_rfl) (by kernel_rfl) (by kernel_rfl) trivial


theorem turn7 (x : Int) :
    PureF Tryd.prog 112 [(.c (.int .u32 x)), (.c (.int .u64 7))] (.c (.int .u32 (bOr IntKind.u32 (x * 128 % 4294967296) (x / 33554432)))) :=
  Contract0.of_frun (res := (.c (.int .u32 (bOr IntKind.u32 (x * 128 % 4294967296) (x / 33554432))))) (up := []) (kill := []) (n0 := 1) (m := []) (args := [(.c (.int .u32 x)), (.c (.int .u64 7))]) (fn := Tryd.f112) (c := bodyOf Tryd.f112) (fuel := 300) (k := kOf Tryd.prog Tryd.f112) (outs := []) (hs := [])
    (cs := [])
    mixed Tryd.func112 (by kernel_rfl) (by kernel_rfl) (by kernel_rfl) (by kernel_rfl) (by kernel_rfl) trivial


theorem rput32 (v : Int) :
    Contract0 Tryd.prog 96 [(.c (.int .u32 v))] [] 1 (.c (.sl 1 0 0 4 1)) [] [(1, (.one ⟨true, true, (.ints .u8 (W.p4 v))⟩))] :=
  Contract0.told (res := (.c (.sl 1 0 0 4 1))) (up := [(1, (.one ⟨true, true, (.ints .u8 [(v % 256), (v / 256 % 256), (v / 65536 % 256), (v / 16777216 % 256)])⟩))]) (res' := (.c (.sl 1 0 0 4 1))) (up' := [(1, (.one ⟨true, true, (.ints .u8 (W.p4 v))⟩))]) (by rfl) (by rfl) (Contract0.renum (Contract0.of_frun (res := (.c (.sl 193 0 0 4 1))) (up := [(193, (.one ⟨true, true, (.cells [(.int .u8 (v % 256)), (.int .u8 (v / 256 % 256)), (.int .u8 (v / 65536 % 256)), (.int .u8 (v / 16777216 % 256))])⟩))]) (kill := []) (n0 := 1) (m := []) (args := [(.c (.int .u32 v))]) (fn := Tryd.f96) (c := bodyOf Tryd.f96) (fuel := 300) (k := kOf Tryd.prog Tryd.f96) (outs := [193]) (hs := [])
    (cs := [])
    mixed Tryd.func96 (by kernel_rfl) (by kernel_rfl) (by kernel_rfl) (by kernel_rfl) (by kernel_rfl) trivial) [] [] [(193, 1)] [] (by kernel_rfl) (by kernel_rfl) (by kernel_rfl) (by kernel_rfl) (by kernel_rfl))


theorem rget32 (l : List Int) (o n : Nat) (x0 : Int)
    (hl : o + n ≤ l.length)
    (hn : 4 ≤ n)
    (hb : W.bytes l)
    (h1 : (((List.getD l o 0 % 4294967296 + List.getD l (o + 1) 0 % 4294967296 * 256 % 4294967296) % 4294967296 + List.getD l (o + 2) 0 % 4294967296 * 65536 % 4294967296) % 4294967296) = x0) :
    Contract0 Tryd.prog 94 [(.c (.sl 1 0 o n 1))] [(1, (.one ⟨false, false, (.ints .u8 l)⟩))] 2 (.c (.int .u32 ((x0 + List.getD l (o + 3) 0 % 4294967296 * 16777216 % 4294967296) % 4294967296))) [] [] :=
  Contract0.of_frun (res := (.c (.int .u32 ((x0 + List.getD l (o + 3) 0 % 4294967296 * 16777216 % 4294967296) % 4294967296)))) (up := []) (kill := []) (n0 := 2) (m := [(1, (.one ⟨false, false, (.ints .u8 l)⟩))]) (args := [(.c (.sl 1 0 o n 1))]) (fn := Tryd.f94) (c := bodyOf Tryd.f94) (fuel := 300) (k := kOf Tryd.prog Tryd.f94) (outs := []) (hs := [(2, ⟨.ask, some (.c (.ptr 1 0 o))⟩), (3, ⟨.ask, none⟩), (6, ⟨.ask, some (.c (.ptr 1 0 (o + 1)))⟩), (7, ⟨.ask, none⟩), (12, ⟨.ask, some (.c (.ptr 1 0 (o + 2)))⟩), (13, ⟨.ask, none⟩), (16, ⟨.auto, some (.c (.int .u32 x0))⟩), (18, ⟨.ask, some (.c (.ptr 1 0 (o + 3)))⟩), (19, ⟨.ask, none⟩)])
    (cs := [(o + (3 : Nat) + (1 : Nat) ≤ List.length l),
      ((.c (.ptr 1 0 (addO o 3))) : V) = (.c (.ptr 1 0 (o + 3))),
      ((0 : Int) ≤ (3 : Int) ∧ (3 : Int) < (↑n : Int)),
      EI .u32 (((List.getD l o 0 % 4294967296 + List.getD l (o + 1) 0 % 4294967296 * 256 % 4294967296) % 4294967296 + List.getD l (o + 2) 0 % 4294967296 * 65536 % 4294967296) % 4294967296) x0,
      (o + (2 : Nat) + (1 : Nat) ≤ List.length l),
      ((.c (.ptr 1 0 (addO o 2))) : V) = (.c (.ptr 1 0 (o + 2))),
      ((0 : Int) ≤ (2 : Int) ∧ (2 : Int) < (↑n : Int)),
      (o + (1 : Nat) + (1 : Nat) ≤ List.length l),
      ((.c (.ptr 1 0 (addO o 1))) : V) = (.c (.ptr 1 0 (o + 1))),
      ((0 : Int) ≤ (1 : Int) ∧ (1 : Int) < (↑n : Int)),
      (o + (1 : Nat) ≤ List.length l),
      ((.c (.ptr 1 0 (addO o 0))) : V) = (.c (.ptr 1 0 o)),
      ((0 : Int) ≤ (0 : Int) ∧ (0 : Int) < (↑n : Int))])
    mixed Tryd.func94 (by kernel_rfl) (by kernel_rfl) (by kernel_rfl) (by kernel_rfl) (by kernel_rfl) ⟨(by omega), EV.ptr (by simp only [addO_eq, mulE_eq, mulE_one, Int.toNat_natCast, IntKind.wrap_i64, mmin, mmax]), (by omega), .mk h1, (by omega), EV.ptr (by simp only [addO_eq, mulE_eq, mulE_one, Int.toNat_natCast, IntKind.wrap_i64, mmin, mmax]), (by omega), (by omega), EV.ptr (by simp only [addO_eq, mulE_eq, mulE_one, Int.toNat_natCast, IntKind.wrap_i64, mmin, mmax]), (by omega), (by omega), EV.ptr (by simp only [addO_eq, mulE_eq, mulE_one, Int.toNat_natCast, IntKind.wrap_i64, mmin, mmax]; omega), (by omega), trivial⟩


theorem rput64 (v : Int)
    (hv : 0 ≤ v ∧ v < 18446744073709551616) :
    Contract0 Tryd.prog 77 [(.c (.int .u64 v))] [] 1 (.c (.sl 1 0 0 8 1)) [] [(1, (.one ⟨true, false, (.ints .u8 [(v % 4294967296 % 256), (v % 4294967296 / 256 % 256), (v % 4294967296 / 65536 % 256), (v % 4294967296 / 16777216 % 256), (v / 4294967296 % 256), (v / 4294967296 / 256 % 256), (v / 4294967296 / 65536 % 256), (v / 4294967296 / 16777216 % 256)])⟩))] :=
  Contract0.renum (Contract0.of_frun (res := (.c (.sl 129 0 0 8 1))) (up := [(129, (.one ⟨true, false, (.ints .u8 [(v % 4294967296 % 256), (v % 4294967296 / 256 % 256), (v % 4294967296 / 65536 % 256), (v % 4294967296 / 16777216 % 256), (v / 4294967296 % 256), (v / 4294967296 / 256 % 256), (v / 4294967296 / 65536 % 256), (v / 4294967296 / 16777216 % 256)])⟩))]) (kill := []) (n0 := 1) (m := []) (args := [(.c (.int .u64 v))]) (fn := Tryd.f77) (c := bodyOf Tryd.f77) (fuel := 300) (k := kOf Tryd.prog Tryd.f77) (outs := [129]) (hs := [(3, ⟨.call [] (.c (.sl 49 0 0 4 1)) [] [(49, (.one ⟨true, true, (.ints .u8 (W.p4 (v % 4294967296)))⟩))], none⟩), (6, ⟨.auto, some (.c (.int .u32 (v / 4294967296)))⟩), (7, ⟨.call [] (.c (.sl 113 0 0 4 1)) [] [(113, (.one ⟨true, true, (.ints .u8 (W.p4 (v / 4294967296)))⟩))], none⟩)])
    (cs := [Contract Tryd.prog 96 [(.c (.int .u32 (v / 4294967296)))] [] 113 (.c (.sl 113 0 0 4 1)) [] [(113, (.one ⟨true, true, (.ints .u8 (W.p4 (v / 4294967296)))⟩))],
      EI .u32 (v / 4294967296 % 4294967296) (v / 4294967296),
      Contract Tryd.prog 96 [(.c (.int .u32 (v % 4294967296)))] [] 49 (.c (.sl 49 0 0 4 1)) [] [(49, (.one ⟨true, true, (.ints .u8 (W.p4 (v % 4294967296)))⟩))]])
    mixed Tryd.func77 (by kernel_rfl) (by kernel_rfl) (by kernel_rfl) (by kernel_rfl) (by kernel_rfl) ⟨Contract0.inst (rput32 (v / 4294967296)) [] [none] [(1, 113)] [] (by kernel_rfl) (by kernel_rfl) (by kernel_rfl) (by kernel_rfl) (by kernel_rfl), .mk (by omega), Contract0.inst (rput32 (v % 4294967296)) [] [none] [(1, 49)] [] (by kernel_rfl) (by kernel_rfl) (by kernel_rfl) (by kernel_rfl) (by kernel_rfl), trivial⟩) [] [] [(129, 1)] [] (by kernel_rfl) (by kernel_rfl) (by kernel_rfl) (by kernel_rfl) (by kernel_rfl)


def EXI (a b : List Int) (o n p m n0 : Nat) (l1 : List Int) (i2 : Nat) : S0 :=
  ⟨[(0, (.c (.sl 1 0 o n 1))), (1, (.c (.sl 2 0 p m 1))), (4, (.c .nils)), (5, (.c (.sl 51 0 0 n0 1))), (6, (.c (.int .i64 ((↑i2 : Int)))))], [(1, (.one ⟨false, false, (.ints .u8 a)⟩)), (2, (.one ⟨false, false, (.ints .u8 b)⟩)), (51, (.one ⟨true, false, (.ints .u8 l1)⟩))], 67⟩
theorem EX_by {α : Type} (I : α → S0) (Inv : α → Prop) (μ : α → Nat) {ex : Ex} {s' : S0} (hex : ex ≠ .normal)
    (step : ∀ x, Inv x → (∃ y, Inv y ∧ μ y < μ x ∧ CodeOk Tryd.prog 32 51 (kAt (kOf Tryd.prog Tryd.f104) [true, true, false, true, false, false]) (I x) .normal (I y)) ∨ CodeOk Tryd.prog 32 51 (kAt (kOf Tryd.prog Tryd.f104) [true, true, false, true, false, false]) (I x) ex s') (x : α) (hx : Inv x) :
    CodeOk Tryd.prog 32 51 (kAt (kOf Tryd.prog Tryd.f104) [true, true, false, true, false]) (I x) ex s' := by
  have hk : (kAt (kOf Tryd.prog Tryd.f104) [true, true, false, true, false]) = .loop (kAt (kOf Tryd.prog Tryd.f104) [true, true, false, true, false, false]) := by kernel_rfl
  rw [hk]
  exact CodeOk.loop I Inv μ hex step x hx
def EX0 (a b : List Int) (o n p m : Nat) : S0 :=
  ⟨[(0, (.c (.sl 1 0 o n 1))), (1, (.c (.sl 2 0 p m 1))), (4, (.c .nils)), (5, (.c .nils)), (6, (.c (.int .i64 0)))], [(1, (.one ⟨false, false, (.ints .u8 a)⟩)), (2, (.one ⟨false, false, (.ints .u8 b)⟩))], 51⟩
theorem EX_enter (a b : List Int) (o n p m : Nat) {ex : Ex} {s' : S0} (h : CodeOk Tryd.prog 32 51 (kAt (kOf Tryd.prog Tryd.f104) [true, true, false, true, false]) (EXI a b o n p m 0 [] 0) ex s') :
    CodeOk Tryd.prog 32 51 (kAt (kOf Tryd.prog Tryd.f104) [true, true, false, true, false]) (EX0 a b o n p m) ex s' :=
  CodeOk.wnil (nx := 51) (nx' := 67) [(5, 1)] 51 (.ints .u8 []) rfl (by decide) (by decide) (CodeOk.pre (v := ⟨[0, 1, 4, 5, 6], [1, 2, 51], [(51, 51)], 67⟩) (by kernel_rfl) (by kernel_rfl) h)
theorem EX_rtt (a b : List Int) (o n p m n0 : Nat) (l1 : List Int) (i2 : Nat)
    (ha : o + n ≤ a.length)
    (hb : p + m ≤ b.length)
    (hn : n ≤ 4294967296)
    (hi : n0 = i2 ∧ n0 ≤ n)
    (hle : l1.length = n0)
    (h2 : ((↑i2 : Int) < (↑n : Int)))
    (h3 : ((↑i2 : Int) < (↑m : Int))) :
    CodeOk Tryd.prog 32 51 (kAt (kOf Tryd.prog Tryd.f104) [true, true, false, true, false, false]) (EXI a b o n p m n0 l1 i2) .normal (EXI a b o n p m (n0 + 1) (List.take n0 l1 ++ [bXor IntKind.u8 (List.getD a (o + i2) 0) (List.getD b (p + i2) 0)]) (i2 + 1)) :=
  CodeOk.of_runs (fuel := 300) (v := ⟨[0, 1, 4, 5, 6], [1, 2, 403], [(403, 51)], 67⟩) (hs := [(4, ⟨.auto, some (.c (.bool (true)))⟩), (9, ⟨.auto, some (.c (.bool (true)))⟩), (14, ⟨.ask, some (.c (.ptr 1 0 (o + i2)))⟩), (15, ⟨.ask, none⟩), (18, ⟨.ask, some (.c (.ptr 2 0 (p + i2)))⟩), (19, ⟨.ask, none⟩), (22, ⟨.ask, some (.c (.sl 403 0 0 (n0 + 1) 1))⟩), (25, ⟨.auto, some (.c (.int .i64 (↑(i2 + 1))))⟩)])
    (cs := [EI .i64 (IntKind.wrap IntKind.i64 ((↑i2 : Int) + 1)) ((↑(i2 + 1) : Int)),
      ((.c (.sl 403 0 0 (addO n0 1) 1)) : V) = (.c (.sl 403 0 0 (n0 + 1) 1)),
      ((1 : Nat) ≤ (1 : Nat) ∧ (2 : Nat) * (n0 + (1 : Nat)) ≤ (4398046511104 : Nat) ∧ (0 : Nat) + n0 * (1 : Nat) ≤ List.length l1),
      (p + i2 + (1 : Nat) ≤ List.length b),
      ((.c (.ptr 2 0 (addO p i2))) : V) = (.c (.ptr 2 0 (p + i2))),
      ((0 : Int) ≤ (↑i2 : Int) ∧ (↑i2 : Int) < (↑m : Int)),
      (o + i2 + (1 : Nat) ≤ List.length a),
      ((.c (.ptr 1 0 (addO o i2))) : V) = (.c (.ptr 1 0 (o + i2))),
      ((0 : Int) ≤ (↑i2 : Int) ∧ (↑i2 : Int) < (↑n : Int)),
      EB (decide ((↑i2 : Int) < (↑m : Int))) true,
      EB (decide ((↑i2 : Int) < (↑n : Int))) true])
    mixed (by kernel_rfl) ⟨.mk (by simp only [addO_eq, mulE_eq, mulE_one, Int.toNat_natCast, IntKind.wrap_i64, mmin, mmax]; omega), EV.sl (by rfl) (by simp only [addO_eq, mulE_eq, mulE_one, Int.toNat_natCast, IntKind.wrap_i64, mmin, mmax]), (by omega), (by omega), EV.ptr (by simp only [addO_eq, mulE_eq, mulE_one, Int.toNat_natCast, IntKind.wrap_i64, mmin, mmax]), (by omega), (by omega), EV.ptr (by simp only [addO_eq, mulE_eq, mulE_one, Int.toNat_natCast, IntKind.wrap_i64, mmin, mmax]), (by omega), .mk (decide_eq_true h3), .mk (decide_eq_true h2), trivial⟩
theorem EX_xtf (a b : List Int) (o n p m n0 : Nat) (l1 : List Int) (i2 : Nat)
    (ha : o + n ≤ a.length)
    (hb : p + m ≤ b.length)
    (hn : n ≤ 4294967296)
    (hi : n0 = i2 ∧ n0 ≤ n)
    (hle : l1.length = n0)
    (h2 : ((↑i2 : Int) < (↑n : Int)))
    (h3 : (¬(↑i2 : Int) < (↑m : Int))) :
    CodeOk Tryd.prog 32 51 (kAt (kOf Tryd.prog Tryd.f104) [true, true, false, true, false, false]) (EXI a b o n p m n0 l1 i2) (.exit 0) (EXI a b o n p m n0 l1 i2) :=
  CodeOk.of_runs (fuel := 300) (v := ⟨[0, 1, 4, 5, 6], [1, 2, 51], [(51, 51)], 67⟩) (hs := [(4, ⟨.auto, some (.c (.bool (true)))⟩), (9, ⟨.auto, some (.c (.bool (false)))⟩)])
    (cs := [EB (decide ((↑i2 : Int) < (↑m : Int))) false,
      EB (decide ((↑i2 : Int) < (↑n : Int))) true])
    mixed (by kernel_rfl) ⟨.mk (decide_eq_false h3), .mk (decide_eq_true h2), trivial⟩
theorem EX_xf (a b : List Int) (o n p m n0 : Nat) (l1 : List Int) (i2 : Nat)
    (ha : o + n ≤ a.length)
    (hb : p + m ≤ b.length)
    (hn : n ≤ 4294967296)
    (hi : n0 = i2 ∧ n0 ≤ n)
    (hle : l1.length = n0)
    (h2 : (¬(↑i2 : Int) < (↑n : Int))) :
    CodeOk Tryd.prog 32 51 (kAt (kOf Tryd.prog Tryd.f104) [true, true, false, true, false, false]) (EXI a b o n p m n0 l1 i2) (.exit 0) (EXI a b o n p m n0 l1 i2) :=
  CodeOk.of_runs (fuel := 300) (v := ⟨[0, 1, 4, 5, 6], [1, 2, 51], [(51, 51)], 67⟩) (hs := [(4, ⟨.auto, some (.c (.bool (false)))⟩)])
    (cs := [EB (decide ((↑i2 : Int) < (↑n : Int))) false])
    mixed (by kernel_rfl) ⟨.mk (decide_eq_false h2), trivial⟩

theorem rquarter (a b c d x0 x2 x4 x6 : Int)
    (h1 : (bOr IntKind.u32 (bXor IntKind.u32 d ((a + b) % 4294967296) * 65536 % 4294967296) (bXor IntKind.u32 d ((a + b) % 4294967296) / 65536)) = x0)
    (h3 : (bOr IntKind.u32 (bXor IntKind.u32 b ((c + x0) % 4294967296) * 4096 % 4294967296) (bXor IntKind.u32 b ((c + x0) % 4294967296) / 1048576)) = x2)
    (h5 : (bOr IntKind.u32 (bXor IntKind.u32 x0 (((a + b) % 4294967296 + x2) % 4294967296) * 256 % 4294967296) (bXor IntKind.u32 x0 (((a + b) % 4294967296 + x2) % 4294967296) / 16777216)) = x4)
    (h7 : (bOr IntKind.u32 (bXor IntKind.u32 x2 (((c + x0) % 4294967296 + x4) % 4294967296) * 128 % 4294967296) (bXor IntKind.u32 x2 (((c + x0) % 4294967296 + x4) % 4294967296) / 33554432)) = x6) :
    PureF Tryd.prog 120 [(.c (.int .u32 a)), (.c (.int .u32 b)), (.c (.int .u32 c)), (.c (.int .u32 d))] (.tup [(.c (.int .u32 (((a + b) % 4294967296 + x2) % 4294967296))), (.c (.int .u32 x6)), (.c (.int .u32 (((c + x0) % 4294967296 + x4) % 4294967296))), (.c (.int .u32 x4))]) :=
  Contract0.of_frun (res := (.tup [(.c (.int .u32 (((a + b) % 4294967296 + x2) % 4294967296))), (.c (.int .u32 x6)), (.c (.int .u32 (((c + x0) % 4294967296 + x4) % 4294967296))), (.c (.int .u32 x4))])) (up := []) (kill := []) (n0 := 1) (m := []) (args := [(.c (.int .u32 a)), (.c (.int .u32 b)), (.c (.int .u32 c)), (.c (.int .u32 d))]) (fn := Tryd.f120) (c := bodyOf Tryd.f120) (fuel := 300) (k := kOf Tryd.prog Tryd.f120) (outs := []) (hs := [(11, ⟨.call [] (.c (.int .u32 (bOr IntKind.u32 (bXor IntKind.u32 d ((a + b) % 4294967296) * 65536 % 4294967296) (bXor IntKind.u32 d ((a + b) % 4294967296) / 65536)))) [] [], none⟩), (12, ⟨.auto, some (.c (.int .u32 x0))⟩), (20, ⟨.call [] (.c (.int .u32 (bOr IntKind.u32 (bXor IntKind.u32 b ((c + x0) % 4294967296) * 4096 % 4294967296) (bXor IntKind.u32 b ((c + x0) % 4294967296) / 1048576)))) [] [], none⟩), (21, ⟨.auto, some (.c (.int .u32 x2))⟩), (29, ⟨.call [] (.c (.int .u32 (bOr IntKind.u32 (bXor IntKind.u32 x0 (((a + b) % 4294967296 + x2) % 4294967296) * 256 % 4294967296) (bXor IntKind.u32 x0 (((a + b) % 4294967296 + x2) % 4294967296) / 16777216)))) [] [], none⟩), (30, ⟨.auto, some (.c (.int .u32 x4))⟩), (38, ⟨.call [] (.c (.int .u32 (bOr IntKind.u32 (bXor IntKind.u32 x2 (((c + x0) % 4294967296 + x4) % 4294967296) * 128 % 4294967296) (bXor IntKind.u32 x2 (((c + x0) % 4294967296 + x4) % 4294967296) / 33554432)))) [] [], none⟩), (39, ⟨.auto, some (.c (.int .u32 x6))⟩)])
    (cs := [EI .u32 (bOr IntKind.u32 (bXor IntKind.u32 x2 (((c + x0) % 4294967296 + x4) % 4294967296) * 128 % 4294967296) (bXor IntKind.u32 x2 (((c + x0) % 4294967296 + x4) % 4294967296) / 33554432)) x6,
      Contract Tryd.prog 112 [(.c (.int .u32 (bXor IntKind.u32 x2 (((c + x0) % 4294967296 + x4) % 4294967296)))), (.c (.int .u64 7))] [] 609 (.c (.int .u32 (bOr IntKind.u32 (bXor IntKind.u32 x2 (((c + x0) % 4294967296 + x4) % 4294967296) * 128 % 4294967296) (bXor IntKind.u32 x2 (((c + x0) % 4294967296 + x4) % 4294967296) / 33554432)))) [] [],
      EI .u32 (bOr IntKind.u32 (bXor IntKind.u32 x0 (((a + b) % 4294967296 + x2) % 4294967296) * 256 % 4294967296) (bXor IntKind.u32 x0 (((a + b) % 4294967296 + x2) % 4294967296) / 16777216)) x4,
      Contract Tryd.prog 112 [(.c (.int .u32 (bXor IntKind.u32 x0 (((a + b) % 4294967296 + x2) % 4294967296)))), (.c (.int .u64 8))] [] 465 (.c (.int .u32 (bOr IntKind.u32 (bXor IntKind.u32 x0 (((a + b) % 4294967296 + x2) % 4294967296) * 256 % 4294967296) (bXor IntKind.u32 x0 (((a + b) % 4294967296 + x2) % 4294967296) / 16777216)))) [] [],
      EI .u32 (bOr IntKind.u32 (bXor IntKind.u32 b ((c + x0) % 4294967296) * 4096 % 4294967296) (bXor IntKind.u32 b ((c + x0) % 4294967296) / 1048576)) x2,
      Contract Tryd.prog 112 [(.c (.int .u32 (bXor IntKind.u32 b ((c + x0) % 4294967296)))), (.c (.int .u64 12))] [] 321 (.c (.int .u32 (bOr IntKind.u32 (bXor IntKind.u32 b ((c + x0) % 4294967296) * 4096 % 4294967296) (bXor IntKind.u32 b ((c + x0) % 4294967296) / 1048576)))) [] [],
      EI .u32 (bOr IntKind.u32 (bXor IntKind.u32 d ((a + b) % 4294967296) * 65536 % 4294967296) (bXor IntKind.u32 d ((a + b) % 4294967296) / 65536)) x0,
      Contract Tryd.prog 112 [(.c (.int .u32 (bXor IntKind.u32 d ((a + b) % 4294967296)))), (.c (.int .u64 16))] [] 177 (.c (.int .u32 (bOr IntKind.u32 (bXor IntKind.u32 d ((a + b) % 4294967296) * 65536 % 4294967296) (bXor IntKind.u32 d ((a + b) % 4294967296) / 65536)))) [] []])
    mixed Tryd.func120 (by kernel_rfl) (by kernel_rfl) (by kernel_rfl) (by kernel_rfl) (by kernel_rfl) ⟨.mk h7, Contract0.inst (turn7 (bXor IntKind.u32 x2 (((c + x0) % 4294967296 + x4) % 4294967296))) [] [none, none] [] [] (by kernel_rfl) (by kernel_rfl) (by kernel_rfl) (by kernel_rfl) (by kernel_rfl), .mk h5, Contract0.inst (turn8 (bXor IntKind.u32 x0 (((a + b) % 4294967296 + x2) % 4294967296))) [] [none, none] [] [] (by kernel_rfl) (by kernel_rfl) (by kernel_rfl) (by kernel_rfl) (by kernel_rfl), .mk h3, Contract0.inst (turn12 (bXor IntKind.u32 b ((c + x0) % 4294967296))) [] [none, none] [] [] (by kernel_rfl) (by kernel_rfl) (by kernel_rfl) (by kernel_rfl) (by kernel_rfl), .mk h1, Contract0.inst (turn16 (bXor IntKind.u32 d ((a + b) % 4294967296))) [] [none, none] [] [] (by kernel_rfl) (by kernel_rfl) (by kernel_rfl) (by kernel_rfl) (by kernel_rfl), trivial⟩


end Go.Proofs.YtmfnldkiaodkpaaDoor.Vm

namespace Go.Proofs.YtmfnldkiaodkpaaDoor.W
/-- The document's package-level variables: their kinds, and the rows of a round. -/
def gk : Nat → Go.IntKind
  | 1 => .u32
  | _ => .i64
def rows : List Int := [0, 4, 8, 12, 1, 5, 9, 13, 2, 6, 10, 14, 3, 7, 11, 15, 0, 5, 10, 15, 1, 6, 11, 12, 2, 7, 8, 13, 3, 4, 9, 14]
/-- Where a round's quarter takes its words. -/
def rwI (i j : Nat) : Nat := (rows.getD (4 * i + j) 0).toNat
def rq (v : List Int) (i : Nat) : List Int := qrl v (rwI i 0) (rwI i 1) (rwI i 2) (rwI i 3)
end Go.Proofs.YtmfnldkiaodkpaaDoor.W
namespace Go.Proofs.YtmfnldkiaodkpaaDoor.Vm
open Go Go.Proofs Go.Proofs.YtmfnldkiaodkpaaDoor
theorem pr_glob {G : Nat → List Int} : globOk (.many (fun j_ => some ⟨false, false, .ints (W.gk j_) (G j_)⟩)) := by
  intro i k h
  simp only [Ent.at] at h
  injection h with h
  subst h
  exact ⟨rfl, _, _, rfl⟩
theorem rquarter_ok (a b c d : Int) : PureF Tryd.prog 120 [(.c (.int .u32 a)), (.c (.int .u32 b)), (.c (.int .u32 c)), (.c (.int .u32 d))] (.tup [(.c (.int .u32 (W.qa a b c d))), (.c (.int .u32 (W.qb a b c d))), (.c (.int .u32 (W.qc a b c d))), (.c (.int .u32 (W.qd a b c d)))]) :=
  rquarter a b c d _ _ _ _ rfl rfl rfl rfl
theorem bor_add (k x y : Nat) (hx : x < 2 ^ k) (h : x + y * 2 ^ k < 18446744073709551616) : bOr .u64 (x : Int) ((y * 2 ^ k : Nat) : Int) = ((x + y * 2 ^ k : Nat) : Int) := by
  have key : (BitVec.ofInt 64 (x : Int) ||| BitVec.ofInt 64 ((y * 2 ^ k : Nat) : Int)).toNat = x + y * 2 ^ k := by
    rw [BitVec.ofInt_natCast, BitVec.ofInt_natCast, BitVec.toNat_or, BitVec.toNat_ofNat, BitVec.toNat_ofNat, Nat.mod_eq_of_lt (by omega), Nat.mod_eq_of_lt (by omega)]
    rw [← Nat.shiftLeft_eq, Nat.or_comm, ← Nat.shiftLeft_add_eq_or_of_lt hx, Nat.add_comm]
  show IntKind.u64.wrap ((BitVec.ofInt 64 (x : Int) ||| BitVec.ofInt 64 ((y * 2 ^ k : Nat) : Int)).toNat : Int) = _
  rw [key, wu64_w]
  simp only [w64]
  omega
theorem w32_bytes {l : List Int} {o : Nat} (hb : W.bytes l) : W.w32 l o = List.getD l o 0 + List.getD l (o + 1) 0 * 256 + List.getD l (o + 2) 0 * 65536 + List.getD l (o + 3) 0 * 16777216 := by
  have g : ∀ i, ∃ x : Nat, List.getD l i 0 = (x : Int) ∧ x < 256 := by
    intro i
    have : 0 ≤ List.getD l i 0 ∧ List.getD l i 0 < 256 := by
      by_cases hi : i < l.length
      · rw [List.getD_eq_getElem?_getD, List.getElem?_eq_getElem hi]; exact hb _ (List.getElem_mem hi)
      · rw [List.getD_eq_getElem?_getD, List.getElem?_eq_none (by omega)]; exact ⟨by decide, by decide⟩
    exact ⟨(List.getD l i 0).toNat, by omega, by omega⟩
  obtain ⟨a, ea, ha⟩ := g o
  obtain ⟨b, eb, hb1⟩ := g (o + 1)
  obtain ⟨c, ec, hc⟩ := g (o + 2)
  obtain ⟨d, ed, hd⟩ := g (o + 3)
  unfold W.w32 W.get4
  rw [ea, eb, ec, ed]
  have e0 : ((a : Int) % 18446744073709551616) = ((a * 2 ^ 0 : Nat) : Int) := by omega
  have e1 : ((b : Int) % 18446744073709551616 * 256 % 18446744073709551616) = ((b * 2 ^ 8 : Nat) : Int) := by omega
  have e2 : ((c : Int) % 18446744073709551616 * 65536 % 18446744073709551616) = ((c * 2 ^ 16 : Nat) : Int) := by omega
  have e3 : ((d : Int) % 18446744073709551616 * 16777216 % 18446744073709551616) = ((d * 2 ^ 24 : Nat) : Int) := by omega
  rw [e0, e1, e2, e3, show (0 : Int) = ((0 : Nat) : Int) from rfl, bor_add 0 0 a (by decide) (by omega), bor_add 8 _ b (by omega) (by omega), bor_add 16 _ c (by omega) (by omega), bor_add 24 _ d (by omega) (by omega)]
  omega
theorem byte_at {l : List Int} (h : W.bytes l) (i : Nat) : 0 ≤ List.getD l i 0 ∧ List.getD l i 0 < 256 := by
  by_cases hi : i < l.length
  · rw [List.getD_eq_getElem?_getD, List.getElem?_eq_getElem hi]
    exact h _ (List.getElem_mem hi)
  · rw [List.getD_eq_getElem?_getD, List.getElem?_eq_none (by omega)]
    exact ⟨by decide, by decide⟩
theorem rget32_ok (l : List Int) (o n : Nat) (hl : o + n ≤ l.length) (hn : 4 ≤ n) (hb : W.bytes l) : Contract0 Tryd.prog 94 [(.c (.sl 1 0 o n 1))] [(1, (.one ⟨false, false, (.ints .u8 l)⟩))] 2 (.c (.int .u32 (W.w32 l o))) [] [] := by
  have e := rget32 l o n _ hl hn hb rfl
  have h0 := byte_at hb o
  have h1 := byte_at hb (o + 1)
  have h2 := byte_at hb (o + 2)
  have h3 := byte_at hb (o + 3)
  have g : ((((List.getD l o 0 % 4294967296 + List.getD l (o + 1) 0 % 4294967296 * 256 % 4294967296) % 4294967296 + List.getD l (o + 2) 0 % 4294967296 * 65536 % 4294967296) % 4294967296 + List.getD l (o + 3) 0 % 4294967296 * 16777216 % 4294967296) % 4294967296) = W.w32 l o := by
    rw [w32_bytes hb]
    generalize List.getD l o 0 = a at *
    generalize List.getD l (o + 1) 0 = b at *
    generalize List.getD l (o + 2) 0 = c at *
    generalize List.getD l (o + 3) 0 = d at *
    omega
  rw [g] at e
  exact e
theorem rput64_ok (v : Int) (hv : 0 ≤ v ∧ v < 18446744073709551616) : Contract0 Tryd.prog 77 [(.c (.int .u64 v))] [] 1 (.c (.sl 1 0 0 8 1)) [] [(1, (.one ⟨true, false, (.ints .u8 (W.p8 v))⟩))] := by
  have e := rput64 v hv
  have g : [(v % 4294967296 % 256), (v % 4294967296 / 256 % 256), (v % 4294967296 / 65536 % 256), (v % 4294967296 / 16777216 % 256), (v / 4294967296 % 256), (v / 4294967296 / 256 % 256), (v / 4294967296 / 65536 % 256), (v / 4294967296 / 16777216 % 256)] = W.p8 v := by
    unfold W.p8
    have d : ∀ k : Int, v / 4294967296 / k = v / (4294967296 * k) := fun k => Int.ediv_ediv_of_nonneg (by decide)
    simp only [List.cons.injEq, and_true]
    rw [d, d, d]
    refine ⟨by omega, by omega, by omega, by omega, trivial, by omega, by omega, by omega⟩
  rw [g] at e
  exact e
theorem rxor_loop (a b : List Int) (o n p m : Nat) (ha : o + n ≤ a.length) (hb : p + m ≤ b.length) (hn : n ≤ 4294967296) :
    CodeOk Tryd.prog 32 51 (kAt (kOf Tryd.prog Tryd.f104) [true, true, false, true, false]) (EX0 a b o n p m) (.exit 0) (EXI a b o n p m (min n m) (W.xor (List.take n (List.drop o a)) (List.take m (List.drop p b))) (min n m)) := by
  refine EX_enter a b o n p m ?_
  have hX : (W.xor (List.take n (List.drop o a)) (List.take m (List.drop p b))).length = min n m := by rw [xor_len, seg_len ha, seg_len hb]
  generalize hXX : W.xor (List.take n (List.drop o a)) (List.take m (List.drop p b)) = X at *
  refine EX_by (fun x : Nat => EXI a b o n p m x (X.take x) x) (fun x => x ≤ min n m) (fun x => min n m - x) (by simp) ?_ 0 (by omega)
  intro i hi
  have hll : (X.take i).length = i := by rw [List.length_take]; omega
  by_cases h : i < min n m
  · left
    refine ⟨i + 1, h, by omega, ?_⟩
    have run := EX_rtt a b o n p m i (X.take i) i ha hb hn ⟨rfl, by omega⟩ hll (by omega) (by omega)
    have e : List.take i (X.take i) ++ [bXor IntKind.u8 (List.getD a (o + i) 0) (List.getD b (p + i) 0)] = X.take (i + 1) := by
      rw [List.take_take, Nat.min_self, List.take_add_one, List.getElem?_eq_getElem (by omega : i < X.length)]
      congr 1
      show [_] = [_]
      congr 1
      have q : X.getD i 0 = bXor .u8 ((List.take n (List.drop o a)).getD i 0) ((List.take m (List.drop p b)).getD i 0) := by
        rw [← hXX, xor_getD (by rw [seg_len ha]; omega) (by rw [seg_len hb]; omega)]
      rw [seg_getD (by omega), seg_getD (by omega)] at q
      rw [← q, List.getD_eq_getElem?_getD, List.getElem?_eq_getElem (by omega : i < X.length)]
      rfl
    rw [e] at run
    exact run
  · right
    have e : i = min n m := by omega
    subst e
    have ex : X.take (min n m) = X := List.take_of_length_le (by omega)
    by_cases h2 : ((min n m : Nat) : Int) < (n : Int)
    · have run := EX_xtf a b o n p m (min n m) (X.take (min n m)) (min n m) ha hb hn ⟨rfl, by omega⟩ hll h2 (by omega)
      rw [ex] at run ⊢
      exact run
    · have run := EX_xf a b o n p m (min n m) (X.take (min n m)) (min n m) ha hb hn ⟨rfl, by omega⟩ hll h2
      rw [ex] at run ⊢
      exact run
end Go.Proofs.YtmfnldkiaodkpaaDoor.Vm

namespace Go.Proofs.YtmfnldkiaodkpaaDoor.Vm
open Go Go.Proofs Go.Proofs.YtmfnldkiaodkpaaDoor
set_option maxRecDepth 100000
theorem rxor (a b : List Int) (o n p m : Nat)
    (ha : o + n ≤ a.length)
    (hb : p + m ≤ b.length)
    (hn : n ≤ 4294967296) :
    Contract0 Tryd.prog 104 [(.c (.sl 1 0 o n 1)), (.c (.sl 2 0 p m 1))] [(1, (.one ⟨false, false, (.ints .u8 a)⟩)), (2, (.one ⟨false, false, (.ints .u8 b)⟩))] 3 (.c (.sl 3 0 0 (min n m) 1)) [] [(3, (.one ⟨true, false, (.ints .u8 (W.xor (List.take n (List.drop o a)) (List.take m (List.drop p b))))⟩))] :=
  Contract0.renum (Contract0.of_frun (res := (.c (.sl 51 0 0 (min n m) 1))) (up := [(51, (.one ⟨true, false, (.ints .u8 (W.xor (List.take n (List.drop o a)) (List.take m (List.drop p b))))⟩))]) (kill := []) (n0 := 3) (m := [(1, (.one ⟨false, false, (.ints .u8 a)⟩)), (2, (.one ⟨false, false, (.ints .u8 b)⟩))]) (args := [(.c (.sl 1 0 o n 1)), (.c (.sl 2 0 p m 1))]) (fn := Tryd.f104) (c := bodyOf Tryd.f104) (fuel := 300) (k := kOf Tryd.prog Tryd.f104) (outs := [51]) (hs := [(3, ⟨.sum ⟨[0, 1, 4, 5, 6], [1, 2], [], 51⟩ (.exit 0) (EXI a b o n p m (min n m) (W.xor (List.take n (List.drop o a)) (List.take m (List.drop p b))) (min n m)), none⟩)])
    (cs := [CodeOk Tryd.prog 32 51 (kAt (kOf Tryd.prog Tryd.f104) [true, true, false, true, false]) (EX0 a b o n p m) (.exit 0) (EXI a b o n p m (min n m) (W.xor (List.take n (List.drop o a)) (List.take m (List.drop p b))) (min n m))])
    mixed Tryd.func104 (by kernel_rfl) (by kernel_rfl) (by kernel_rfl) (by kernel_rfl) (by kernel_rfl) ⟨(rxor_loop a b o n p m (by omega) (by omega) (by omega)), trivial⟩) [.b 1 1 true, .b 2 2 true] [] [(51, 3)] [] (by kernel_rfl) (by kernel_rfl) (by kernel_rfl) (by kernel_rfl) (by kernel_rfl)


def EBiI (k nn : List Int) (c : Int) (G : Nat → List Int) (q i : Nat) (l2 : List Int) : S0 :=
  ⟨[(6, (.c (.ptr 34 0 0))), (7, (.c (.ptr 50 0 0))), (10, (.c (.ptr 3170 0 0))), (11, (.c (.int .i64 (q : Int)))), (12, (.c (.int .i64 ((↑i : Int)))))], [(0, (.many (fun j_ => some ⟨false, false, (.ints (W.gk j_) (G j_))⟩))), (34, (.one ⟨true, true, (.ints .u8 [0, 0, 0, 0, 0, 0, 0, 0, 0, 0, 0, 0, 0, 0, 0, 0, 0, 0, 0, 0, 0, 0, 0, 0, 0, 0, 0, 0, 0, 0, 0, 0, 0, 0, 0, 0, 0, 0, 0, 0, 0, 0, 0, 0, 0, 0, 0, 0, 0, 0, 0, 0, 0, 0, 0, 0, 0, 0, 0, 0, 0, 0, 0, 0])⟩)), (50, (.one ⟨true, true, (.ints .u32 [1634760805, 857760878, 2036477234, 1797285236, (W.w32 k 0), (W.w32 k 4), (W.w32 k 8), (W.w32 k 12), (W.w32 k 16), (W.w32 k 20), (W.w32 k 24), (W.w32 k 28), c, (W.w32 nn 0), (W.w32 nn 4), (W.w32 nn 8)])⟩)), (3170, (.one ⟨true, true, (.ints .u32 l2)⟩))], 100000⟩
theorem EBi_by {α : Type} (I : α → S0) (Inv : α → Prop) (μ : α → Nat) {ex : Ex} {s' : S0} (hex : ex ≠ .normal)
    (step : ∀ x, Inv x → (∃ y, Inv y ∧ μ y < μ x ∧ CodeOk Tryd.prog 124 100000 (kAt (kOf Tryd.prog Tryd.f103) [true, true, true, true, true, true, true, true, true, true, false, true, false, false, true, false, false, true, false, false]) (I x) .normal (I y)) ∨ CodeOk Tryd.prog 124 100000 (kAt (kOf Tryd.prog Tryd.f103) [true, true, true, true, true, true, true, true, true, true, false, true, false, false, true, false, false, true, false, false]) (I x) ex s') (x : α) (hx : Inv x) :
    CodeOk Tryd.prog 124 100000 (kAt (kOf Tryd.prog Tryd.f103) [true, true, true, true, true, true, true, true, true, true, false, true, false, false, true, false, false, true, false]) (I x) ex s' := by
  have hk : (kAt (kOf Tryd.prog Tryd.f103) [true, true, true, true, true, true, true, true, true, true, false, true, false, false, true, false, false, true, false]) = .loop (kAt (kOf Tryd.prog Tryd.f103) [true, true, true, true, true, true, true, true, true, true, false, true, false, false, true, false, false, true, false, false]) := by kernel_rfl
  rw [hk]
  exact CodeOk.loop I Inv μ hex step x hx
theorem EBi_rt (k nn : List Int) (c : Int) (G : Nat → List Int) (q i : Nat) (l2 : List Int)
    (hk : k.length = 32)
    (hnn : nn.length = 12)
    (hkb : W.bytes k)
    (hnb : W.bytes nn)
    (hG : G 2 = W.rows)
    (hi : i ≤ 8)
    (hl : l2.length = 16)
    (h2 : ((↑i : Int) < (8 : Int)))
    (c3 : (i * (4 : Nat) + (4 : Nat) ≤ List.length (G (2 : Nat))))
    (c4 : ((1 : Nat) ≤ List.length (splice [(0 : Int), (0 : Int), (0 : Int), (0 : Int)] (0 : Nat) (List.take (4 : Nat) (List.drop (i * (4 : Nat)) (G (2 : Nat)))))))
    (c5 : ((2 : Nat) ≤ List.length (splice [(0 : Int), (0 : Int), (0 : Int), (0 : Int)] (0 : Nat) (List.take (4 : Nat) (List.drop (i * (4 : Nat)) (G (2 : Nat)))))))
    (c6 : ((3 : Nat) ≤ List.length (splice [(0 : Int), (0 : Int), (0 : Int), (0 : Int)] (0 : Nat) (List.take (4 : Nat) (List.drop (i * (4 : Nat)) (G (2 : Nat)))))))
    (c7 : ((4 : Nat) ≤ List.length (splice [(0 : Int), (0 : Int), (0 : Int), (0 : Int)] (0 : Nat) (List.take (4 : Nat) (List.drop (i * (4 : Nat)) (G (2 : Nat)))))))
    (c8 : ((0 : Int) ≤ List.getD (splice [(0 : Int), (0 : Int), (0 : Int), (0 : Int)] (0 : Nat) (List.take (4 : Nat) (List.drop (i * (4 : Nat)) (G (2 : Nat))))) (0 : Nat) (0 : Int) ∧ List.getD (splice [(0 : Int), (0 : Int), (0 : Int), (0 : Int)] (0 : Nat) (List.take (4 : Nat) (List.drop (i * (4 : Nat)) (G (2 : Nat))))) (0 : Nat) (0 : Int) < (16 : Int)))
    (c9 : ((0 : Int) ≤ List.getD (splice [(0 : Int), (0 : Int), (0 : Int), (0 : Int)] (0 : Nat) (List.take (4 : Nat) (List.drop (i * (4 : Nat)) (G (2 : Nat))))) (1 : Nat) (0 : Int) ∧ List.getD (splice [(0 : Int), (0 : Int), (0 : Int), (0 : Int)] (0 : Nat) (List.take (4 : Nat) (List.drop (i * (4 : Nat)) (G (2 : Nat))))) (1 : Nat) (0 : Int) < (16 : Int)))
    (c10 : ((0 : Int) ≤ List.getD (splice [(0 : Int), (0 : Int), (0 : Int), (0 : Int)] (0 : Nat) (List.take (4 : Nat) (List.drop (i * (4 : Nat)) (G (2 : Nat))))) (2 : Nat) (0 : Int) ∧ List.getD (splice [(0 : Int), (0 : Int), (0 : Int), (0 : Int)] (0 : Nat) (List.take (4 : Nat) (List.drop (i * (4 : Nat)) (G (2 : Nat))))) (2 : Nat) (0 : Int) < (16 : Int)))
    (c11 : ((0 : Int) ≤ List.getD (splice [(0 : Int), (0 : Int), (0 : Int), (0 : Int)] (0 : Nat) (List.take (4 : Nat) (List.drop (i * (4 : Nat)) (G (2 : Nat))))) (3 : Nat) (0 : Int) ∧ List.getD (splice [(0 : Int), (0 : Int), (0 : Int), (0 : Int)] (0 : Nat) (List.take (4 : Nat) (List.drop (i * (4 : Nat)) (G (2 : Nat))))) (3 : Nat) (0 : Int) < (16 : Int))) :
    CodeOk Tryd.prog 124 100000 (kAt (kOf Tryd.prog Tryd.f103) [true, true, true, true, true, true, true, true, true, true, false, true, false, false, true, false, false, true, false, false]) (EBiI k nn c G q i l2) .normal (EBiI k nn c G q (i + 1) (splice (splice (splice (splice l2 (Int.toNat (List.getD (splice [0, 0, 0, 0] 0 (List.take 4 (List.drop (i * 4) (G 2)))) 0 0)) [W.qa (List.getD l2 (Int.toNat (List.getD (splice [0, 0, 0, 0] 0 (List.take 4 (List.drop (i * 4) (G 2)))) 0 0)) 0) (List.getD l2 (Int.toNat (List.getD (splice [0, 0, 0, 0] 0 (List.take 4 (List.drop (i * 4) (G 2)))) 1 0)) 0) (List.getD l2 (Int.toNat (List.getD (splice [0, 0, 0, 0] 0 (List.take 4 (List.drop (i * 4) (G 2)))) 2 0)) 0) (List.getD l2 (Int.toNat (List.getD (splice [0, 0, 0, 0] 0 (List.take 4 (List.drop (i * 4) (G 2)))) 3 0)) 0)]) (Int.toNat (List.getD (splice [0, 0, 0, 0] 0 (List.take 4 (List.drop (i * 4) (G 2)))) 1 0)) [W.qb (List.getD l2 (Int.toNat (List.getD (splice [0, 0, 0, 0] 0 (List.take 4 (List.drop (i * 4) (G 2)))) 0 0)) 0) (List.getD l2 (Int.toNat (List.getD (splice [0, 0, 0, 0] 0 (List.take 4 (List.drop (i * 4) (G 2)))) 1 0)) 0) (List.getD l2 (Int.toNat (List.getD (splice [0, 0, 0, 0] 0 (List.take 4 (List.drop (i * 4) (G 2)))) 2 0)) 0) (List.getD l2 (Int.toNat (List.getD (splice [0, 0, 0, 0] 0 (List.take 4 (List.drop (i * 4) (G 2)))) 3 0)) 0)]) (Int.toNat (List.getD (splice [0, 0, 0, 0] 0 (List.take 4 (List.drop (i * 4) (G 2)))) 2 0)) [W.qc (List.getD l2 (Int.toNat (List.getD (splice [0, 0, 0, 0] 0 (List.take 4 (List.drop (i * 4) (G 2)))) 0 0)) 0) (List.getD l2 (Int.toNat (List.getD (splice [0, 0, 0, 0] 0 (List.take 4 (List.drop (i * 4) (G 2)))) 1 0)) 0) (List.getD l2 (Int.toNat (List.getD (splice [0, 0, 0, 0] 0 (List.take 4 (List.drop (i * 4) (G 2)))) 2 0)) 0) (List.getD l2 (Int.toNat (List.getD (splice [0, 0, 0, 0] 0 (List.take 4 (List.drop (i * 4) (G 2)))) 3 0)) 0)]) (Int.toNat (List.getD (splice [0, 0, 0, 0] 0 (List.take 4 (List.drop (i * 4) (G 2)))) 3 0)) [W.qd (List.getD l2 (Int.toNat (List.getD (splice [0, 0, 0, 0] 0 (List.take 4 (List.drop (i * 4) (G 2)))) 0 0)) 0) (List.getD l2 (Int.toNat (List.getD (splice [0, 0, 0, 0] 0 (List.take 4 (List.drop (i * 4) (G 2)))) 1 0)) 0) (List.getD l2 (Int.toNat (List.getD (splice [0, 0, 0, 0] 0 (List.take 4 (List.drop (i * 4) (G 2)))) 2 0)) 0) (List.getD l2 (Int.toNat (List.getD (splice [0, 0, 0, 0] 0 (List.take 4 (List.drop (i * 4) (G 2)))) 3 0)) 0)])) :=
  CodeOk.of_runs (fuel := 300) (v := ⟨[6, 7, 10, 11, 12], [0, 34, 50, 3170], [], 100000⟩) (hs := [(1, ⟨.auto, some (.c (.bool (true)))⟩), (4, ⟨.ask, none⟩), (5, ⟨.ask, none⟩), (7, ⟨.ask, none⟩), (9, ⟨.ask, none⟩), (11, ⟨.ask, none⟩), (13, ⟨.ask, none⟩), (15, ⟨.ask, none⟩), (17, ⟨.ask, none⟩), (18, ⟨.ask, none⟩), (19, ⟨.ask, none⟩), (21, ⟨.ask, none⟩), (22, ⟨.ask, none⟩), (23, ⟨.ask, none⟩), (25, ⟨.ask, none⟩), (26, ⟨.ask, none⟩), (27, ⟨.ask, none⟩), (29, ⟨.ask, none⟩), (30, ⟨.ask, none⟩), (31, ⟨.ask, none⟩), (32, ⟨.call [] (.tup [(.c (.int .u32 (W.qa (List.getD l2 (Int.toNat (List.getD (splice [0, 0, 0, 0] 0 (List.take 4 (List.drop (i * 4) (G 2)))) 0 0)) 0) (List.getD l2 (Int.toNat (List.getD (splice [0, 0, 0, 0] 0 (List.take 4 (List.drop (i * 4) (G 2)))) 1 0)) 0) (List.getD l2 (Int.toNat (List.getD (splice [0, 0, 0, 0] 0 (List.take 4 (List.drop (i * 4) (G 2)))) 2 0)) 0) (List.getD l2 (Int.toNat (List.getD (splice [0, 0, 0, 0] 0 (List.take 4 (List.drop (i * 4) (G 2)))) 3 0)) 0)))), (.c (.int .u32 (W.qb (List.getD l2 (Int.toNat (List.getD (splice [0, 0, 0, 0] 0 (List.take 4 (List.drop (i * 4) (G 2)))) 0 0)) 0) (List.getD l2 (Int.toNat (List.getD (splice [0, 0, 0, 0] 0 (List.take 4 (List.drop (i * 4) (G 2)))) 1 0)) 0) (List.getD l2 (Int.toNat (List.getD (splice [0, 0, 0, 0] 0 (List.take 4 (List.drop (i * 4) (G 2)))) 2 0)) 0) (List.getD l2 (Int.toNat (List.getD (splice [0, 0, 0, 0] 0 (List.take 4 (List.drop (i * 4) (G 2)))) 3 0)) 0)))), (.c (.int .u32 (W.qc (List.getD l2 (Int.toNat (List.getD (splice [0, 0, 0, 0] 0 (List.take 4 (List.drop (i * 4) (G 2)))) 0 0)) 0) (List.getD l2 (Int.toNat (List.getD (splice [0, 0, 0, 0] 0 (List.take 4 (List.drop (i * 4) (G 2)))) 1 0)) 0) (List.getD l2 (Int.toNat (List.getD (splice [0, 0, 0, 0] 0 (List.take 4 (List.drop (i * 4) (G 2)))) 2 0)) 0) (List.getD l2 (Int.toNat (List.getD (splice [0, 0, 0, 0] 0 (List.take 4 (List.drop (i * 4) (G 2)))) 3 0)) 0)))), (.c (.int .u32 (W.qd (List.getD l2 (Int.toNat (List.getD (splice [0, 0, 0, 0] 0 (List.take 4 (List.drop (i * 4) (G 2)))) 0 0)) 0) (List.getD l2 (Int.toNat (List.getD (splice [0, 0, 0, 0] 0 (List.take 4 (List.drop (i * 4) (G 2)))) 1 0)) 0) (List.getD l2 (Int.toNat (List.getD (splice [0, 0, 0, 0] 0 (List.take 4 (List.drop (i * 4) (G 2)))) 2 0)) 0) (List.getD l2 (Int.toNat (List.getD (splice [0, 0, 0, 0] 0 (List.take 4 (List.drop (i * 4) (G 2)))) 3 0)) 0))))]) [] [], none⟩), (38, ⟨.ask, none⟩), (39, ⟨.ask, none⟩), (40, ⟨.ask, none⟩), (41, ⟨.ask, none⟩), (42, ⟨.ask, none⟩), (43, ⟨.ask, none⟩), (44, ⟨.ask, none⟩), (45, ⟨.ask, none⟩), (47, ⟨.auto, some (.c (.int .i64 (↑(i + 1))))⟩)])
    (cs := [EI .i64 (IntKind.wrap IntKind.i64 ((↑i : Int) + 1)) ((↑(i + 1) : Int)),
      (Int.toNat (List.getD (splice [(0 : Int), (0 : Int), (0 : Int), (0 : Int)] (0 : Nat) (List.take (4 : Nat) (List.drop (i * (4 : Nat)) (G (2 : Nat))))) (3 : Nat) (0 : Int)) + (1 : Nat) ≤ List.length (splice (splice (splice l2 (Int.toNat (List.getD (splice [(0 : Int), (0 : Int), (0 : Int), (0 : Int)] (0 : Nat) (List.take (4 : Nat) (List.drop (i * (4 : Nat)) (G (2 : Nat))))) (0 : Nat) (0 : Int))) [W.qa (List.getD l2 (Int.toNat (List.getD (splice [(0 : Int), (0 : Int), (0 : Int), (0 : Int)] (0 : Nat) (List.take (4 : Nat) (List.drop (i * (4 : Nat)) (G (2 : Nat))))) (0 : Nat) (0 : Int))) (0 : Int)) (List.getD l2 (Int.toNat (List.getD (splice [(0 : Int), (0 : Int), (0 : Int), (0 : Int)] (0 : Nat) (List.take (4 : Nat) (List.drop (i * (4 : Nat)) (G (2 : Nat))))) (1 : Nat) (0 : Int))) (0 : Int)) (List.getD l2 (Int.toNat (List.getD (splice [(0 : Int), (0 : Int), (0 : Int), (0 : Int)] (0 : Nat) (List.take (4 : Nat) (List.drop (i * (4 : Nat)) (G (2 : Nat))))) (2 : Nat) (0 : Int))) (0 : Int)) (List.getD l2 (Int.toNat (List.getD (splice [(0 : Int), (0 : Int), (0 : Int), (0 : Int)] (0 : Nat) (List.take (4 : Nat) (List.drop (i * (4 : Nat)) (G (2 : Nat))))) (3 : Nat) (0 : Int))) (0 : Int))]) (Int.toNat (List.getD (splice [(0 : Int), (0 : Int), (0 : Int), (0 : Int)] (0 : Nat) (List.take (4 : Nat) (List.drop (i * (4 : Nat)) (G (2 : Nat))))) (1 : Nat) (0 : Int))) [W.qb (List.getD l2 (Int.toNat (List.getD (splice [(0 : Int), (0 : Int), (0 : Int), (0 : Int)] (0 : Nat) (List.take (4 : Nat) (List.drop (i * (4 : Nat)) (G (2 : Nat))))) (0 : Nat) (0 : Int))) (0 : Int)) (List.getD l2 (Int.toNat (List.getD (splice [(0 : Int), (0 : Int), (0 : Int), (0 : Int)] (0 : Nat) (List.take (4 : Nat) (List.drop (i * (4 : Nat)) (G (2 : Nat))))) (1 : Nat) (0 : Int))) (0 : Int)) (List.getD l2 (Int.toNat (List.getD (splice [(0 : Int), (0 : Int), (0 : Int), (0 : Int)] (0 : Nat) (List.take (4 : Nat) (List.drop (i * (4 : Nat)) (G (2 : Nat))))) (2 : Nat) (0 : Int))) (0 : Int)) (List.getD l2 (Int.toNat (List.getD (splice [(0 : Int), (0 : Int), (0 : Int), (0 : Int)] (0 : Nat) (List.take (4 : Nat) (List.drop (i * (4 : Nat)) (G (2 : Nat))))) (3 : Nat) (0 : Int))) (0 : Int))]) (Int.toNat (List.getD (splice [(0 : Int), (0 : Int), (0 : Int), (0 : Int)] (0 : Nat) (List.take (4 : Nat) (List.drop (i * (4 : Nat)) (G (2 : Nat))))) (2 : Nat) (0 : Int))) [W.qc (List.getD l2 (Int.toNat (List.getD (splice [(0 : Int), (0 : Int), (0 : Int), (0 : Int)] (0 : Nat) (List.take (4 : Nat) (List.drop (i * (4 : Nat)) (G (2 : Nat))))) (0 : Nat) (0 : Int))) (0 : Int)) (List.getD l2 (Int.toNat (List.getD (splice [(0 : Int), (0 : Int), (0 : Int), (0 : Int)] (0 : Nat) (List.take (4 : Nat) (List.drop (i * (4 : Nat)) (G (2 : Nat))))) (1 : Nat) (0 : Int))) (0 : Int)) (List.getD l2 (Int.toNat (List.getD (splice [(0 : Int), (0 : Int), (0 : Int), (0 : Int)] (0 : Nat) (List.take (4 : Nat) (List.drop (i * (4 : Nat)) (G (2 : Nat))))) (2 : Nat) (0 : Int))) (0 : Int)) (List.getD l2 (Int.toNat (List.getD (splice [(0 : Int), (0 : Int), (0 : Int), (0 : Int)] (0 : Nat) (List.take (4 : Nat) (List.drop (i * (4 : Nat)) (G (2 : Nat))))) (3 : Nat) (0 : Int))) (0 : Int))]) ∧ (1 : Nat) = (1 : Nat)),
      ((0 : Int) ≤ List.getD (splice [(0 : Int), (0 : Int), (0 : Int), (0 : Int)] (0 : Nat) (List.take (4 : Nat) (List.drop (i * (4 : Nat)) (G (2 : Nat))))) (3 : Nat) (0 : Int) ∧ List.getD (splice [(0 : Int), (0 : Int), (0 : Int), (0 : Int)] (0 : Nat) (List.take (4 : Nat) (List.drop (i * (4 : Nat)) (G (2 : Nat))))) (3 : Nat) (0 : Int) < (16 : Int)),
      (Int.toNat (List.getD (splice [(0 : Int), (0 : Int), (0 : Int), (0 : Int)] (0 : Nat) (List.take (4 : Nat) (List.drop (i * (4 : Nat)) (G (2 : Nat))))) (2 : Nat) (0 : Int)) + (1 : Nat) ≤ List.length (splice (splice l2 (Int.toNat (List.getD (splice [(0 : Int), (0 : Int), (0 : Int), (0 : Int)] (0 : Nat) (List.take (4 : Nat) (List.drop (i * (4 : Nat)) (G (2 : Nat))))) (0 : Nat) (0 : Int))) [W.qa (List.getD l2 (Int.toNat (List.getD (splice [(0 : Int), (0 : Int), (0 : Int), (0 : Int)] (0 : Nat) (List.take (4 : Nat) (List.drop (i * (4 : Nat)) (G (2 : Nat))))) (0 : Nat) (0 : Int))) (0 : Int)) (List.getD l2 (Int.toNat (List.getD (splice [(0 : Int), (0 : Int), (0 : Int), (0 : Int)] (0 : Nat) (List.take (4 : Nat) (List.drop (i * (4 : Nat)) (G (2 : Nat))))) (1 : Nat) (0 : Int))) (0 : Int)) (List.getD l2 (Int.toNat (List.getD (splice [(0 : Int), (0 : Int), (0 : Int), (0 : Int)] (0 : Nat) (List.take (4 : Nat) (List.drop (i * (4 : Nat)) (G (2 : Nat))))) (2 : Nat) (0 : Int))) (0 : Int)) (List.getD l2 (Int.toNat (List.getD (splice [(0 : Int), (0 : Int), (0 : Int), (0 : Int)] (0 : Nat) (List.take (4 : Nat) (List.drop (i * (4 : Nat)) (G (2 : Nat))))) (3 : Nat) (0 : Int))) (0 : Int))]) (Int.toNat (List.getD (splice [(0 : Int), (0 : Int), (0 : Int), (0 : Int)] (0 : Nat) (List.take (4 : Nat) (List.drop (i * (4 : Nat)) (G (2 : Nat))))) (1 : Nat) (0 : Int))) [W.qb (List.getD l2 (Int.toNat (List.getD (splice [(0 : Int), (0 : Int), (0 : Int), (0 : Int)] (0 : Nat) (List.take (4 : Nat) (List.drop (i * (4 : Nat)) (G (2 : Nat))))) (0 : Nat) (0 : Int))) (0 : Int)) (List.getD l2 (Int.toNat (List.getD (splice [(0 : Int), (0 : Int), (0 : Int), (0 : Int)] (0 : Nat) (List.take (4 : Nat) (List.drop (i * (4 : Nat)) (G (2 : Nat))))) (1 : Nat) (0 : Int))) (0 : Int)) (List.getD l2 (Int.toNat (List.getD (splice [(0 : Int), (0 : Int), (0 : Int), (0 : Int)] (0 : Nat) (List.take (4 : Nat) (List.drop (i * (4 : Nat)) (G (2 : Nat))))) (2 : Nat) (0 : Int))) (0 : Int)) (List.getD l2 (Int.toNat (List.getD (splice [(0 : Int), (0 : Int), (0 : Int), (0 : Int)] (0 : Nat) (List.take (4 : Nat) (List.drop (i * (4 : Nat)) (G (2 : Nat))))) (3 : Nat) (0 : Int))) (0 : Int))]) ∧ (1 : Nat) = (1 : Nat)),
      ((0 : Int) ≤ List.getD (splice [(0 : Int), (0 : Int), (0 : Int), (0 : Int)] (0 : Nat) (List.take (4 : Nat) (List.drop (i * (4 : Nat)) (G (2 : Nat))))) (2 : Nat) (0 : Int) ∧ List.getD (splice [(0 : Int), (0 : Int), (0 : Int), (0 : Int)] (0 : Nat) (List.take (4 : Nat) (List.drop (i * (4 : Nat)) (G (2 : Nat))))) (2 : Nat) (0 : Int) < (16 : Int)),
      (Int.toNat (List.getD (splice [(0 : Int), (0 : Int), (0 : Int), (0 : Int)] (0 : Nat) (List.take (4 : Nat) (List.drop (i * (4 : Nat)) (G (2 : Nat))))) (1 : Nat) (0 : Int)) + (1 : Nat) ≤ List.length (splice l2 (Int.toNat (List.getD (splice [(0 : Int), (0 : Int), (0 : Int), (0 : Int)] (0 : Nat) (List.take (4 : Nat) (List.drop (i * (4 : Nat)) (G (2 : Nat))))) (0 : Nat) (0 : Int))) [W.qa (List.getD l2 (Int.toNat (List.getD (splice [(0 : Int), (0 : Int), (0 : Int), (0 : Int)] (0 : Nat) (List.take (4 : Nat) (List.drop (i * (4 : Nat)) (G (2 : Nat))))) (0 : Nat) (0 : Int))) (0 : Int)) (List.getD l2 (Int.toNat (List.getD (splice [(0 : Int), (0 : Int), (0 : Int), (0 : Int)] (0 : Nat) (List.take (4 : Nat) (List.drop (i * (4 : Nat)) (G (2 : Nat))))) (1 : Nat) (0 : Int))) (0 : Int)) (List.getD l2 (Int.toNat (List.getD (splice [(0 : Int), (0 : Int), (0 : Int), (0 : Int)] (0 : Nat) (List.take (4 : Nat) (List.drop (i * (4 : Nat)) (G (2 : Nat))))) (2 : Nat) (0 : Int))) (0 : Int)) (List.getD l2 (Int.toNat (List.getD (splice [(0 : Int), (0 : Int), (0 : Int), (0 : Int)] (0 : Nat) (List.take (4 : Nat) (List.drop (i * (4 : Nat)) (G (2 : Nat))))) (3 : Nat) (0 : Int))) (0 : Int))]) ∧ (1 : Nat) = (1 : Nat)),
      ((0 : Int) ≤ List.getD (splice [(0 : Int), (0 : Int), (0 : Int), (0 : Int)] (0 : Nat) (List.take (4 : Nat) (List.drop (i * (4 : Nat)) (G (2 : Nat))))) (1 : Nat) (0 : Int) ∧ List.getD (splice [(0 : Int), (0 : Int), (0 : Int), (0 : Int)] (0 : Nat) (List.take (4 : Nat) (List.drop (i * (4 : Nat)) (G (2 : Nat))))) (1 : Nat) (0 : Int) < (16 : Int)),
      (Int.toNat (List.getD (splice [(0 : Int), (0 : Int), (0 : Int), (0 : Int)] (0 : Nat) (List.take (4 : Nat) (List.drop (i * (4 : Nat)) (G (2 : Nat))))) (0 : Nat) (0 : Int)) + (1 : Nat) ≤ List.length l2 ∧ (1 : Nat) = (1 : Nat)),
      ((0 : Int) ≤ List.getD (splice [(0 : Int), (0 : Int), (0 : Int), (0 : Int)] (0 : Nat) (List.take (4 : Nat) (List.drop (i * (4 : Nat)) (G (2 : Nat))))) (0 : Nat) (0 : Int) ∧ List.getD (splice [(0 : Int), (0 : Int), (0 : Int), (0 : Int)] (0 : Nat) (List.take (4 : Nat) (List.drop (i * (4 : Nat)) (G (2 : Nat))))) (0 : Nat) (0 : Int) < (16 : Int)),
      Contract Tryd.prog 120 [(.c (.int .u32 (List.getD l2 (Int.toNat (List.getD (splice [0, 0, 0, 0] 0 (List.take 4 (List.drop (i * 4) (G 2)))) 0 0)) 0))), (.c (.int .u32 (List.getD l2 (Int.toNat (List.getD (splice [0, 0, 0, 0] 0 (List.take 4 (List.drop (i * 4) (G 2)))) 1 0)) 0))), (.c (.int .u32 (List.getD l2 (Int.toNat (List.getD (splice [0, 0, 0, 0] 0 (List.take 4 (List.drop (i * 4) (G 2)))) 2 0)) 0))), (.c (.int .u32 (List.getD l2 (Int.toNat (List.getD (splice [0, 0, 0, 0] 0 (List.take 4 (List.drop (i * 4) (G 2)))) 3 0)) 0)))] [] 100496 (.tup [(.c (.int .u32 (W.qa (List.getD l2 (Int.toNat (List.getD (splice [0, 0, 0, 0] 0 (List.take 4 (List.drop (i * 4) (G 2)))) 0 0)) 0) (List.getD l2 (Int.toNat (List.getD (splice [0, 0, 0, 0] 0 (List.take 4 (List.drop (i * 4) (G 2)))) 1 0)) 0) (List.getD l2 (Int.toNat (List.getD (splice [0, 0, 0, 0] 0 (List.take 4 (List.drop (i * 4) (G 2)))) 2 0)) 0) (List.getD l2 (Int.toNat (List.getD (splice [0, 0, 0, 0] 0 (List.take 4 (List.drop (i * 4) (G 2)))) 3 0)) 0)))), (.c (.int .u32 (W.qb (List.getD l2 (Int.toNat (List.getD (splice [0, 0, 0, 0] 0 (List.take 4 (List.drop (i * 4) (G 2)))) 0 0)) 0) (List.getD l2 (Int.toNat (List.getD (splice [0, 0, 0, 0] 0 (List.take 4 (List.drop (i * 4) (G 2)))) 1 0)) 0) (List.getD l2 (Int.toNat (List.getD (splice [0, 0, 0, 0] 0 (List.take 4 (List.drop (i * 4) (G 2)))) 2 0)) 0) (List.getD l2 (Int.toNat (List.getD (splice [0, 0, 0, 0] 0 (List.take 4 (List.drop (i * 4) (G 2)))) 3 0)) 0)))), (.c (.int .u32 (W.qc (List.getD l2 (Int.toNat (List.getD (splice [0, 0, 0, 0] 0 (List.take 4 (List.drop (i * 4) (G 2)))) 0 0)) 0) (List.getD l2 (Int.toNat (List.getD (splice [0, 0, 0, 0] 0 (List.take 4 (List.drop (i * 4) (G 2)))) 1 0)) 0) (List.getD l2 (Int.toNat (List.getD (splice [0, 0, 0, 0] 0 (List.take 4 (List.drop (i * 4) (G 2)))) 2 0)) 0) (List.getD l2 (Int.toNat (List.getD (splice [0, 0, 0, 0] 0 (List.take 4 (List.drop (i * 4) (G 2)))) 3 0)) 0)))), (.c (.int .u32 (W.qd (List.getD l2 (Int.toNat (List.getD (splice [0, 0, 0, 0] 0 (List.take 4 (List.drop (i * 4) (G 2)))) 0 0)) 0) (List.getD l2 (Int.toNat (List.getD (splice [0, 0, 0, 0] 0 (List.take 4 (List.drop (i * 4) (G 2)))) 1 0)) 0) (List.getD l2 (Int.toNat (List.getD (splice [0, 0, 0, 0] 0 (List.take 4 (List.drop (i * 4) (G 2)))) 2 0)) 0) (List.getD l2 (Int.toNat (List.getD (splice [0, 0, 0, 0] 0 (List.take 4 (List.drop (i * 4) (G 2)))) 3 0)) 0))))]) [] [],
      (Int.toNat (List.getD (splice [(0 : Int), (0 : Int), (0 : Int), (0 : Int)] (0 : Nat) (List.take (4 : Nat) (List.drop (i * (4 : Nat)) (G (2 : Nat))))) (3 : Nat) (0 : Int)) + (1 : Nat) ≤ List.length l2),
      ((0 : Int) ≤ List.getD (splice [(0 : Int), (0 : Int), (0 : Int), (0 : Int)] (0 : Nat) (List.take (4 : Nat) (List.drop (i * (4 : Nat)) (G (2 : Nat))))) (3 : Nat) (0 : Int) ∧ List.getD (splice [(0 : Int), (0 : Int), (0 : Int), (0 : Int)] (0 : Nat) (List.take (4 : Nat) (List.drop (i * (4 : Nat)) (G (2 : Nat))))) (3 : Nat) (0 : Int) < (16 : Int)),
      ((4 : Nat) ≤ List.length (splice [(0 : Int), (0 : Int), (0 : Int), (0 : Int)] (0 : Nat) (List.take (4 : Nat) (List.drop (i * (4 : Nat)) (G (2 : Nat)))))),
      (Int.toNat (List.getD (splice [(0 : Int), (0 : Int), (0 : Int), (0 : Int)] (0 : Nat) (List.take (4 : Nat) (List.drop (i * (4 : Nat)) (G (2 : Nat))))) (2 : Nat) (0 : Int)) + (1 : Nat) ≤ List.length l2),
      ((0 : Int) ≤ List.getD (splice [(0 : Int), (0 : Int), (0 : Int), (0 : Int)] (0 : Nat) (List.take (4 : Nat) (List.drop (i * (4 : Nat)) (G (2 : Nat))))) (2 : Nat) (0 : Int) ∧ List.getD (splice [(0 : Int), (0 : Int), (0 : Int), (0 : Int)] (0 : Nat) (List.take (4 : Nat) (List.drop (i * (4 : Nat)) (G (2 : Nat))))) (2 : Nat) (0 : Int) < (16 : Int)),
      ((3 : Nat) ≤ List.length (splice [(0 : Int), (0 : Int), (0 : Int), (0 : Int)] (0 : Nat) (List.take (4 : Nat) (List.drop (i * (4 : Nat)) (G (2 : Nat)))))),
      (Int.toNat (List.getD (splice [(0 : Int), (0 : Int), (0 : Int), (0 : Int)] (0 : Nat) (List.take (4 : Nat) (List.drop (i * (4 : Nat)) (G (2 : Nat))))) (1 : Nat) (0 : Int)) + (1 : Nat) ≤ List.length l2),
      ((0 : Int) ≤ List.getD (splice [(0 : Int), (0 : Int), (0 : Int), (0 : Int)] (0 : Nat) (List.take (4 : Nat) (List.drop (i * (4 : Nat)) (G (2 : Nat))))) (1 : Nat) (0 : Int) ∧ List.getD (splice [(0 : Int), (0 : Int), (0 : Int), (0 : Int)] (0 : Nat) (List.take (4 : Nat) (List.drop (i * (4 : Nat)) (G (2 : Nat))))) (1 : Nat) (0 : Int) < (16 : Int)),
      ((2 : Nat) ≤ List.length (splice [(0 : Int), (0 : Int), (0 : Int), (0 : Int)] (0 : Nat) (List.take (4 : Nat) (List.drop (i * (4 : Nat)) (G (2 : Nat)))))),
      (Int.toNat (List.getD (splice [(0 : Int), (0 : Int), (0 : Int), (0 : Int)] (0 : Nat) (List.take (4 : Nat) (List.drop (i * (4 : Nat)) (G (2 : Nat))))) (0 : Nat) (0 : Int)) + (1 : Nat) ≤ List.length l2),
      ((0 : Int) ≤ List.getD (splice [(0 : Int), (0 : Int), (0 : Int), (0 : Int)] (0 : Nat) (List.take (4 : Nat) (List.drop (i * (4 : Nat)) (G (2 : Nat))))) (0 : Nat) (0 : Int) ∧ List.getD (splice [(0 : Int), (0 : Int), (0 : Int), (0 : Int)] (0 : Nat) (List.take (4 : Nat) (List.drop (i * (4 : Nat)) (G (2 : Nat))))) (0 : Nat) (0 : Int) < (16 : Int)),
      ((1 : Nat) ≤ List.length (splice [(0 : Int), (0 : Int), (0 : Int), (0 : Int)] (0 : Nat) (List.take (4 : Nat) (List.drop (i * (4 : Nat)) (G (2 : Nat)))))),
      ((4 : Nat) ≤ List.length (splice [(0 : Int), (0 : Int), (0 : Int), (0 : Int)] (0 : Nat) (List.take (4 : Nat) (List.drop (i * (4 : Nat)) (G (2 : Nat)))))),
      ((3 : Nat) ≤ List.length (splice [(0 : Int), (0 : Int), (0 : Int), (0 : Int)] (0 : Nat) (List.take (4 : Nat) (List.drop (i * (4 : Nat)) (G (2 : Nat)))))),
      ((2 : Nat) ≤ List.length (splice [(0 : Int), (0 : Int), (0 : Int), (0 : Int)] (0 : Nat) (List.take (4 : Nat) (List.drop (i * (4 : Nat)) (G (2 : Nat)))))),
      ((1 : Nat) ≤ List.length (splice [(0 : Int), (0 : Int), (0 : Int), (0 : Int)] (0 : Nat) (List.take (4 : Nat) (List.drop (i * (4 : Nat)) (G (2 : Nat)))))),
      ((4 : Nat) ≤ (4 : Nat) ∧ List.length (List.take (4 : Nat) (List.drop (i * (4 : Nat)) (G (2 : Nat)))) = (4 : Nat)),
      (i * (4 : Nat) + (4 : Nat) ≤ List.length (G (2 : Nat))),
      ((0 : Int) ≤ (↑i : Int) ∧ (↑i : Int) < (8 : Int)),
      EB (decide ((↑i : Int) < 8)) true])
    mixed (by kernel_rfl) ⟨.mk (by simp only [addO_eq, mulE_eq, mulE_one, Int.toNat_natCast, IntKind.wrap_i64, mmin, mmax]; omega), (by simp only [and_true, List.length_set, List.length_append, List.length_replicate, List.length_take, List.length_drop, List.length_map, List.length_cons, List.length_nil, List.length_zipWith, splice_len1, W.le_len, W.bts_len, Int.toNat_natCast, addO_eq, mulE_eq, mulE_one]; omega), (by omega), (by simp only [and_true, List.length_set, List.length_append, List.length_replicate, List.length_take, List.length_drop, List.length_map, List.length_cons, List.length_nil, List.length_zipWith, splice_len1, W.le_len, W.bts_len, Int.toNat_natCast, addO_eq, mulE_eq, mulE_one]; omega), (by omega), (by simp only [and_true, List.length_set, List.length_append, List.length_replicate, List.length_take, List.length_drop, List.length_map, List.length_cons, List.length_nil, List.length_zipWith, splice_len1, W.le_len, W.bts_len, Int.toNat_natCast, addO_eq, mulE_eq, mulE_one]; omega), (by omega), (by omega), (by omega), Contract0.inst (rquarter_ok (List.getD l2 (Int.toNat (List.getD (splice [0, 0, 0, 0] 0 (List.take 4 (List.drop (i * 4) (G 2)))) 0 0)) 0) (List.getD l2 (Int.toNat (List.getD (splice [0, 0, 0, 0] 0 (List.take 4 (List.drop (i * 4) (G 2)))) 1 0)) 0) (List.getD l2 (Int.toNat (List.getD (splice [0, 0, 0, 0] 0 (List.take 4 (List.drop (i * 4) (G 2)))) 2 0)) 0) (List.getD l2 (Int.toNat (List.getD (splice [0, 0, 0, 0] 0 (List.take 4 (List.drop (i * 4) (G 2)))) 3 0)) 0)) [] [none, none, none, none] [] [] (by kernel_rfl) (by kernel_rfl) (by kernel_rfl) (by kernel_rfl) (by kernel_rfl), (by omega), c11, (by omega), (by omega), c10, (by omega), (by omega), c9, (by omega), (by omega), c8, (by omega), c7, c6, c5, c4, (by simp only [and_true, List.length_set, List.length_append, List.length_replicate, List.length_take, List.length_drop, List.length_map, List.length_cons, List.length_nil, List.length_zipWith, splice_len1, W.le_len, W.bts_len, Int.toNat_natCast, addO_eq, mulE_eq, mulE_one]; omega), c3, (by omega), .mk (decide_eq_true h2), trivial⟩
theorem EBi_xf (k nn : List Int) (c : Int) (G : Nat → List Int) (q i : Nat) (l2 : List Int)
    (hk : k.length = 32)
    (hnn : nn.length = 12)
    (hkb : W.bytes k)
    (hnb : W.bytes nn)
    (hG : G 2 = W.rows)
    (hi : i ≤ 8)
    (hl : l2.length = 16)
    (h2 : (¬(↑i : Int) < (8 : Int))) :
    CodeOk Tryd.prog 124 100000 (kAt (kOf Tryd.prog Tryd.f103) [true, true, true, true, true, true, true, true, true, true, false, true, false, false, true, false, false, true, false, false]) (EBiI k nn c G q i l2) (.exit 6) (EBiI k nn c G q i l2) :=
  CodeOk.of_runs (fuel := 300) (v := ⟨[6, 7, 10, 11, 12], [0, 34, 50, 3170], [], 100000⟩) (hs := [(1, ⟨.auto, some (.c (.bool (false)))⟩)])
    (cs := [EB (decide ((↑i : Int) < 8)) false])
    mixed (by kernel_rfl) ⟨.mk (decide_eq_false h2), trivial⟩

end Go.Proofs.YtmfnldkiaodkpaaDoor.Vm

namespace Go.Proofs.YtmfnldkiaodkpaaDoor.W
def rqs (l : List Int) : Nat → List Int
  | 0 => l
  | i + 1 => rq (rqs l i) i
theorem rq_len {l : List Int} {i : Nat} : (rq l i).length = l.length := by unfold rq; exact qrl_len
theorem rqs_len {l : List Int} : ∀ {i : Nat}, (rqs l i).length = l.length
  | 0 => rfl
  | i + 1 => by rw [rqs, rq_len, rqs_len (i := i)]
theorem rqs_dround (l : List Int) : rqs l 8 = dround l := rfl
end Go.Proofs.YtmfnldkiaodkpaaDoor.W
namespace Go.Proofs.YtmfnldkiaodkpaaDoor.Vm
open Go Go.Proofs Go.Proofs.YtmfnldkiaodkpaaDoor
theorem rows_at : ∀ i, i < 8 → ∀ j, j < 4 → List.getD (splice [0, 0, 0, 0] 0 (List.take 4 (List.drop (i * 4) W.rows))) j 0 = W.rows.getD (4 * i + j) 0 := by decide
theorem rows_rng : ∀ i, i < 8 → ∀ j, j < 4 → 0 ≤ W.rows.getD (4 * i + j) 0 ∧ W.rows.getD (4 * i + j) 0 < 16 := by decide
theorem splice_set {l : List Int} {i : Nat} {v : Int} (h : i < l.length) : splice l i [v] = l.set i v := by
  rw [splice, List.set_eq_take_append_cons_drop, if_pos h]
  try rfl
theorem rblk_inner (k nn : List Int) (c : Int) (G : Nat → List Int) (q : Nat) (l : List Int) (hk : k.length = 32) (hnn : nn.length = 12) (hkb : W.bytes k) (hnb : W.bytes nn) (hG : G 2 = W.rows) (hl : l.length = 16) :
    CodeOk Tryd.prog 124 100000 (kAt (kOf Tryd.prog Tryd.f103) [true, true, true, true, true, true, true, true, true, true, false, true, false, false, true, false, false, true, false]) (EBiI k nn c G q 0 l) (.exit 6) (EBiI k nn c G q 8 (W.dround l)) := by
  rw [← W.rqs_dround]
  refine EBi_by (fun i : Nat => EBiI k nn c G q i (W.rqs l i)) (fun i => i ≤ 8) (fun i => 8 - i) (by simp) ?_ 0 (by omega)
  intro i hi
  have hli : (W.rqs l i).length = 16 := by rw [W.rqs_len, hl]
  by_cases h : i < 8
  · refine .inl ⟨i + 1, h, by omega, ?_⟩
    have r0 := rows_at i h 0 (by decide)
    have r1 := rows_at i h 1 (by decide)
    have r2 := rows_at i h 2 (by decide)
    have r3 := rows_at i h 3 (by decide)
    have g0 := rows_rng i h 0 (by decide)
    have g1 := rows_rng i h 1 (by decide)
    have g2 := rows_rng i h 2 (by decide)
    have g3 := rows_rng i h 3 (by decide)
    have hle : (splice [0, 0, 0, 0] 0 (List.take 4 (List.drop (i * 4) W.rows))).length = 4 := by
      have : ∀ i, i < 8 → (splice [0, 0, 0, 0] 0 (List.take 4 (List.drop (i * 4) W.rows))).length = 4 := by decide
      exact this i h
    have run := EBi_rt k nn c G q i (W.rqs l i) hk hnn hkb hnb hG hi hli (by omega)
    rw [hG, hle, r0, r1, r2, r3] at run
    have run := run (by show i * 4 + 4 ≤ 32; omega) (by omega) (by omega) (by omega) (by omega) g0 g1 g2 g3
    have e : ∀ v : List Int, v.length = 16 → splice (splice (splice (splice v (W.rwI i 0) [W.qa (v.getD (W.rwI i 0) 0) (v.getD (W.rwI i 1) 0) (v.getD (W.rwI i 2) 0) (v.getD (W.rwI i 3) 0)]) (W.rwI i 1) [W.qb (v.getD (W.rwI i 0) 0) (v.getD (W.rwI i 1) 0) (v.getD (W.rwI i 2) 0) (v.getD (W.rwI i 3) 0)]) (W.rwI i 2) [W.qc (v.getD (W.rwI i 0) 0) (v.getD (W.rwI i 1) 0) (v.getD (W.rwI i 2) 0) (v.getD (W.rwI i 3) 0)]) (W.rwI i 3) [W.qd (v.getD (W.rwI i 0) 0) (v.getD (W.rwI i 1) 0) (v.getD (W.rwI i 2) 0) (v.getD (W.rwI i 3) 0)] = W.rq v i := by
      intro v hv
      have b0 : W.rwI i 0 < 16 := by unfold W.rwI; omega
      have b1 : W.rwI i 1 < 16 := by unfold W.rwI; omega
      have b2 : W.rwI i 2 < 16 := by unfold W.rwI; omega
      have b3 : W.rwI i 3 < 16 := by unfold W.rwI; omega
      rw [splice_set (by simp only [splice_len1]; omega), splice_set (by simp only [splice_len1]; omega), splice_set (by simp only [splice_len1]; omega), splice_set (by omega)]
      rfl
    have e1 := e (W.rqs l i) hli
    show CodeOk _ _ _ _ _ _ (EBiI k nn c G q (i + 1) (W.rq (W.rqs l i) i))
    rw [← e1]
    exact run
  · have e : i = 8 := by omega
    subst e
    exact .inr (EBi_xf k nn c G q 8 (W.rqs l 8) hk hnn hkb hnb hG hi hli (by omega))
end Go.Proofs.YtmfnldkiaodkpaaDoor.Vm

namespace Go.Proofs.YtmfnldkiaodkpaaDoor.Vm
open Go Go.Proofs Go.Proofs.YtmfnldkiaodkpaaDoor
set_option maxRecDepth 100000
def EBoI (k nn : List Int) (c : Int) (G : Nat → List Int) (q : Nat) (l1 : List Int) : S0 :=
  ⟨[(6, (.c (.ptr 34 0 0))), (7, (.c (.ptr 50 0 0))), (10, (.c (.ptr 3170 0 0))), (11, (.c (.int .i64 ((↑q : Int)))))], [(0, (.many (fun j_ => some ⟨false, false, (.ints (W.gk j_) (G j_))⟩))), (34, (.one ⟨true, true, (.ints .u8 [0, 0, 0, 0, 0, 0, 0, 0, 0, 0, 0, 0, 0, 0, 0, 0, 0, 0, 0, 0, 0, 0, 0, 0, 0, 0, 0, 0, 0, 0, 0, 0, 0, 0, 0, 0, 0, 0, 0, 0, 0, 0, 0, 0, 0, 0, 0, 0, 0, 0, 0, 0, 0, 0, 0, 0, 0, 0, 0, 0, 0, 0, 0, 0])⟩)), (50, (.one ⟨true, true, (.ints .u32 [1634760805, 857760878, 2036477234, 1797285236, (W.w32 k 0), (W.w32 k 4), (W.w32 k 8), (W.w32 k 12), (W.w32 k 16), (W.w32 k 20), (W.w32 k 24), (W.w32 k 28), c, (W.w32 nn 0), (W.w32 nn 4), (W.w32 nn 8)])⟩)), (3170, (.one ⟨true, true, (.ints .u32 l1)⟩))], 3218⟩
theorem EBo_by {α : Type} (I : α → S0) (Inv : α → Prop) (μ : α → Nat) {ex : Ex} {s' : S0} (hex : ex ≠ .normal)
    (step : ∀ x, Inv x → (∃ y, Inv y ∧ μ y < μ x ∧ CodeOk Tryd.prog 124 3218 (kAt (kOf Tryd.prog Tryd.f103) [true, true, true, true, true, true, true, true, true, true, false, true, false, false]) (I x) .normal (I y)) ∨ CodeOk Tryd.prog 124 3218 (kAt (kOf Tryd.prog Tryd.f103) [true, true, true, true, true, true, true, true, true, true, false, true, false, false]) (I x) ex s') (x : α) (hx : Inv x) :
    CodeOk Tryd.prog 124 3218 (kAt (kOf Tryd.prog Tryd.f103) [true, true, true, true, true, true, true, true, true, true, false, true, false]) (I x) ex s' := by
  have hk : (kAt (kOf Tryd.prog Tryd.f103) [true, true, true, true, true, true, true, true, true, true, false, true, false]) = .loop (kAt (kOf Tryd.prog Tryd.f103) [true, true, true, true, true, true, true, true, true, true, false, true, false, false]) := by kernel_rfl
  rw [hk]
  exact CodeOk.loop I Inv μ hex step x hx
def EBo0 (k nn : List Int) (c : Int) (G : Nat → List Int) : S0 :=
  ⟨[(6, (.c (.ptr 34 0 0))), (7, (.c (.ptr 50 0 0))), (10, (.c (.ptr 3170 0 0))), (11, (.c (.int .i64 0)))], [(0, (.many (fun j_ => some ⟨false, false, (.ints (W.gk j_) (G j_))⟩))), (34, (.one ⟨true, true, (.ints .u8 [0, 0, 0, 0, 0, 0, 0, 0, 0, 0, 0, 0, 0, 0, 0, 0, 0, 0, 0, 0, 0, 0, 0, 0, 0, 0, 0, 0, 0, 0, 0, 0, 0, 0, 0, 0, 0, 0, 0, 0, 0, 0, 0, 0, 0, 0, 0, 0, 0, 0, 0, 0, 0, 0, 0, 0, 0, 0, 0, 0, 0, 0, 0, 0])⟩)), (50, (.one ⟨true, true, (.ints .u32 [1634760805, 857760878, 2036477234, 1797285236, (W.w32 k 0), (W.w32 k 4), (W.w32 k 8), (W.w32 k 12), (W.w32 k 16), (W.w32 k 20), (W.w32 k 24), (W.w32 k 28), c, (W.w32 nn 0), (W.w32 nn 4), (W.w32 nn 8)])⟩)), (3170, (.one ⟨true, true, (.ints .u32 [1634760805, 857760878, 2036477234, 1797285236, (W.w32 k 0), (W.w32 k 4), (W.w32 k 8), (W.w32 k 12), (W.w32 k 16), (W.w32 k 20), (W.w32 k 24), (W.w32 k 28), c, (W.w32 nn 0), (W.w32 nn 4), (W.w32 nn 8)])⟩))], 3218⟩
theorem EBo_rt (k nn : List Int) (c : Int) (G : Nat → List Int) (q : Nat) (l1 : List Int)
    (hk : k.length = 32)
    (hnn : nn.length = 12)
    (hkb : W.bytes k)
    (hnb : W.bytes nn)
    (hG : G 2 = W.rows)
    (hq : q ≤ 10)
    (hl : l1.length = 16)
    (h2 : ((↑q : Int) < (10 : Int))) :
    CodeOk Tryd.prog 124 3218 (kAt (kOf Tryd.prog Tryd.f103) [true, true, true, true, true, true, true, true, true, true, false, true, false, false]) (EBoI k nn c G q l1) .normal (EBoI k nn c G (q + 1) (W.dround l1)) :=
  CodeOk.of_runs (fuel := 300) (v := ⟨[6, 7, 10, 11], [0, 34, 50, 3170], [], 3218⟩) (hs := [(1, ⟨.auto, some (.c (.bool (true)))⟩), (4, ⟨.sum ⟨[6, 7, 10, 11, 12], [0, 34, 50, 3170], [], 100000⟩ (.exit 6) (EBiI k nn c G q 8 (W.dround l1)), none⟩), (6, ⟨.auto, some (.c (.int .i64 (↑(q + 1))))⟩)])
    (cs := [EI .i64 (IntKind.wrap IntKind.i64 ((↑q : Int) + 1)) ((↑(q + 1) : Int)),
      CodeOk Tryd.prog 124 3266 (kAt (kOf Tryd.prog Tryd.f103) [true, true, true, true, true, true, true, true, true, true, false, true, false, false, true, false, false, true, false]) (EBiI k nn c G q 0 l1) (.exit 6) (EBiI k nn c G q 8 (W.dround l1)),
      EB (decide ((↑q : Int) < 10)) true])
    mixed (by kernel_rfl) ⟨.mk (by simp only [addO_eq, mulE_eq, mulE_one, Int.toNat_natCast, IntKind.wrap_i64, mmin, mmax]; omega), (CodeOk.mono (rblk_inner k nn c G q l1 (by omega) (by omega) (by omega) (by omega) (by omega) (by omega)) (by decide)), .mk (decide_eq_true h2), trivial⟩
theorem EBo_xf (k nn : List Int) (c : Int) (G : Nat → List Int) (q : Nat) (l1 : List Int)
    (hk : k.length = 32)
    (hnn : nn.length = 12)
    (hkb : W.bytes k)
    (hnb : W.bytes nn)
    (hG : G 2 = W.rows)
    (hq : q ≤ 10)
    (hl : l1.length = 16)
    (h2 : (¬(↑q : Int) < (10 : Int))) :
    CodeOk Tryd.prog 124 3218 (kAt (kOf Tryd.prog Tryd.f103) [true, true, true, true, true, true, true, true, true, true, false, true, false, false]) (EBoI k nn c G q l1) (.exit 4) (EBoI k nn c G q l1) :=
  CodeOk.of_runs (fuel := 300) (v := ⟨[6, 7, 10, 11], [0, 34, 50, 3170], [], 3218⟩) (hs := [(1, ⟨.auto, some (.c (.bool (false)))⟩)])
    (cs := [EB (decide ((↑q : Int) < 10)) false])
    mixed (by kernel_rfl) ⟨.mk (decide_eq_false h2), trivial⟩

end Go.Proofs.YtmfnldkiaodkpaaDoor.Vm

namespace Go.Proofs.YtmfnldkiaodkpaaDoor.Vm
open Go Go.Proofs Go.Proofs.YtmfnldkiaodkpaaDoor
theorem rblk_outer (k nn : List Int) (c : Int) (G : Nat → List Int) (hk : k.length = 32) (hnn : nn.length = 12) (hkb : W.bytes k) (hnb : W.bytes nn) (hG : G 2 = W.rows) :
    CodeOk Tryd.prog 124 3218 (kAt (kOf Tryd.prog Tryd.f103) [true, true, true, true, true, true, true, true, true, true, false, true, false]) (EBo0 k nn c G) (.exit 4) (EBoI k nn c G 10 (W.rounds (W.words k c nn) 10)) := by
  refine EBo_by (fun i : Nat => EBoI k nn c G i (W.rounds (W.words k c nn) i)) (fun i => i ≤ 10) (fun i => 10 - i) (by simp) ?_ 0 (by decide)
  intro i hi
  have hl : (W.rounds (W.words k c nn) i).length = 16 := by rw [W.rounds_len]; rfl
  by_cases h : i < 10
  · exact .inl ⟨i + 1, h, by omega, EBo_rt k nn c G i _ hk hnn hkb hnb hG hi hl (by omega)⟩
  · have e : i = 10 := by omega
    subst e
    exact .inr (EBo_xf k nn c G 10 _ hk hnn hkb hnb hG hi hl (by omega))
end Go.Proofs.YtmfnldkiaodkpaaDoor.Vm
