/- What functions of the program come to: parts of the walk (Rfb). -/
import Derived.Test.YtkjbjgkjplmkhaaDoorRfa
import Derived.KernelRfl
import Derived.Test.YtkjbjgkjplmkhaaDoorProg
import Derived.Test.YtkjbjgkjplmkhaaDoorWa
set_option linter.unusedSimpArgs false
set_option linter.unusedVariables false
namespace Go.Proofs.YtkjbjgkjplmkhaaDoor.Vm
open Go Go.Proofs Go.Proofs.YtkjbjgkjplmkhaaDoor
set_option maxRecDepth 100000
theorem frz (l : List Int)
    (hl : l.length = 16)
    (hd : W.dg 1099511627776 l)
    (hf : (W.fz l).length = 16)
    (hg : W.dg 65536 (W.fz l)) :
    Contract0 Tryd.prog 35 [(.aggi .u64 l)] [(0, (.one ⟨false, false, (.ints .u64 (W.pr))⟩))] 2 (.aggi .u64 (W.d16 (W.numD l % W.pn))) [] [] :=
  Contract0.told (res := (.aggi .u64 [(W.numD l % 57896044618658097711785492504343953926634992332820282019728792003956564819949 % 65536), (W.numD l % 57896044618658097711785492504343953926634992332820282019728792003956564819949 / 65536 % 65536), (W.numD l % 57896044618658097711785492504343953926634992332820282019728792003956564819949 / 4294967296 % 65536), (W.numD l % 57896044618658097711785492504343953926634992332820282019728792003956564819949 / 281474976710656 % 65536), (W.numD l % 57896044618658097711785492504343953926634992332820282019728792003956564819949 / 18446744073709551616 % 65536), (W.numD l % 57896044618658097711785492504343953926634992332820282019728792003956564819949 / 1208925819614629174706176 % 65536), (W.numD l % 57896044618658097711785492504343953926634992332820282019728792003956564819949 / 79228162514264337593543950336 % 65536), (W.numD l % 57896044618658097711785492504343953926634992332820282019728792003956564819949 / 5192296858534827628530496329220096 % 65536), (W.numD l % 57896044618658097711785492504343953926634992332820282019728792003956564819949 / 340282366920938463463374607431768211456 % 65536), (W.numD l % 57896044618658097711785492504343953926634992332820282019728792003956564819949 / 22300745198530623141535718272648361505980416 % 65536), (W.numD l % 57896044618658097711785492504343953926634992332820282019728792003956564819949 / 1461501637330902918203684832716283019655932542976 % 65536), (W.numD l % 57896044618658097711785492504343953926634992332820282019728792003956564819949 / 95780971304118053647396689196894323976171195136475136 % 65536), (W.numD l % 57896044618658097711785492504343953926634992332820282019728792003956564819949 / 6277101735386680763835789423207666416102355444464034512896 % 65536), (W.numD l % 57896044618658097711785492504343953926634992332820282019728792003956564819949 / 411376139330301510538742295639337626245683966408394965837152256 % 65536), (W.numD l % 57896044618658097711785492504343953926634992332820282019728792003956564819949 / 26959946667150639794667015087019630673637144422540572481103610249216 % 65536), (W.numD l % 57896044618658097711785492504343953926634992332820282019728792003956564819949 / 1766847064778384329583297500742918515827483896875618958121606201292619776 % 65536)])) (up := []) (res' := (.aggi .u64 (W.d16 (W.numD l % W.pn)))) (up' := []) (by rfl) (by rfl) (Contract0.of_frun (res := (.aggi .u64 [(W.numD l % 57896044618658097711785492504343953926634992332820282019728792003956564819949 % 65536), (W.numD l % 57896044618658097711785492504343953926634992332820282019728792003956564819949 / 65536 % 65536), (W.numD l % 57896044618658097711785492504343953926634992332820282019728792003956564819949 / 4294967296 % 65536), (W.numD l % 57896044618658097711785492504343953926634992332820282019728792003956564819949 / 281474976710656 % 65536), (W.numD l % 57896044618658097711785492504343953926634992332820282019728792003956564819949 / 18446744073709551616 % 65536), (W.numD l % 57896044618658097711785492504343953926634992332820282019728792003956564819949 / 1208925819614629174706176 % 65536), (W.numD l % 57896044618658097711785492504343953926634992332820282019728792003956564819949 / 79228162514264337593543950336 % 65536), (W.numD l % 57896044618658097711785492504343953926634992332820282019728792003956564819949 / 5192296858534827628530496329220096 % 65536), (W.numD l % 57896044618658097711785492504343953926634992332820282019728792003956564819949 / 340282366920938463463374607431768211456 % 65536), (W.numD l % 57896044618658097711785492504343953926634992332820282019728792003956564819949 / 22300745198530623141535718272648361505980416 % 65536), (W.numD l % 57896044618658097711785492504343953926634992332820282019728792003956564819949 / 1461501637330902918203684832716283019655932542976 % 65536), (W.numD l % 57896044618658097711785492504343953926634992332820282019728792003956564819949 / 95780971304118053647396689196894323976171195136475136 % 65536), (W.numD l % 57896044618658097711785492504343953926634992332820282019728792003956564819949 / 6277101735386680763835789423207666416102355444464034512896 % 65536), (W.numD l % 57896044618658097711785492504343953926634992332820282019728792003956564819949 / 411376139330301510538742295639337626245683966408394965837152256 % 65536), (W.numD l % 57896044618658097711785492504343953926634992332820282019728792003956564819949 / 26959946667150639794667015087019630673637144422540572481103610249216 % 65536), (W.numD l % 57896044618658097711785492504343953926634992332820282019728792003956564819949 / 1766847064778384329583297500742918515827483896875618958121606201292619776 % 65536)])) (up := []) (kill := []) (n0 := 2) (m := [(0, (.one ⟨false, false, (.ints .u64 (W.pr))⟩))]) (args := [(.aggi .u64 l)]) (fn := Tryd.f35) (c := bodyOf Tryd.f35) (fuel := 300) (k := kOf Tryd.prog Tryd.f35) (outs := []) (hs := [(3, ⟨.sum ⟨[1, 2, 3], [0, 2, 18], [], 50⟩ (.exit 0) (LEI 3 (W.fz l)), none⟩), (4, ⟨.sum ⟨[1, 2], [0, 2, 18], [], 50⟩ (.exit 4) (LHI (W.d16 (W.numD l % W.pn))), none⟩)])
    (cs := [CodeOk Tryd.prog 64 50 (kAt (kOf Tryd.prog Tryd.f35) [true, true, false, false]) (LH0 l) (.exit 4) (LHI (W.d16 (W.numD l % W.pn))),
      CodeOk Tryd.prog 64 50 (kAt (kOf Tryd.prog Tryd.f35) [true, false, true, false]) (LE0 l) (.exit 0) (LEI 3 (W.fz l))])
    mixed Tryd.func35 (by kernel_rfl) (by kernel_rfl) (by kernel_rfl) (by kernel_rfl) (by kernel_rfl) ⟨(fhl l (by omega) (by omega)), (fel l (by omega) (by omega)), trivial⟩)


def LDI (m : List Int) (i : Nat) (v : List Int) : S0 :=
  ⟨[(2, (.c (.ptr 2 0 0))), (3, (.c (.ptr 18 0 0))), (4, (.c (.ptr 34 0 0))), (5, (.c (.int .i64 ((↑i : Int)))))], [(0, (.one ⟨false, false, (.ints .u64 (W.pr))⟩)), (2, (.one ⟨true, true, (.ints .u64 v)⟩)), (18, (.one ⟨true, true, (.ints .u64 m)⟩)), (34, (.one ⟨true, true, (.ints .u64 [0, 0, 0, 0, 0, 0, 0, 0, 0, 0, 0, 0, 0, 0, 0, 0])⟩))], 66⟩
theorem LD_by {α : Type} (I : α → S0) (Inv : α → Prop) (μ : α → Nat) {ex : Ex} {s' : S0} (hex : ex ≠ .normal)
    (step : ∀ x, Inv x → (∃ y, Inv y ∧ μ y < μ x ∧ CodeOk Tryd.prog 21 66 (kAt (kOf Tryd.prog Tryd.f18) [true, false, true, false, false]) (I x) .normal (I y)) ∨ CodeOk Tryd.prog 21 66 (kAt (kOf Tryd.prog Tryd.f18) [true, false, true, false, false]) (I x) ex s') (x : α) (hx : Inv x) :
    CodeOk Tryd.prog 21 66 (kAt (kOf Tryd.prog Tryd.f18) [true, false, true, false]) (I x) ex s' := by
  have hk : (kAt (kOf Tryd.prog Tryd.f18) [true, false, true, false]) = .loop (kAt (kOf Tryd.prog Tryd.f18) [true, false, true, false, false]) := by kernel_rfl
  rw [hk]
  exact CodeOk.loop I Inv μ hex step x hx
def LD0 (l m : List Int) : S0 :=
  ⟨[(2, (.c (.ptr 2 0 0))), (3, (.c (.ptr 18 0 0))), (4, (.c (.ptr 34 0 0))), (5, (.c (.int .i64 0)))], [(0, (.one ⟨false, false, (.ints .u64 (W.pr))⟩)), (2, (.one ⟨true, true, (.ints .u64 l)⟩)), (18, (.one ⟨true, true, (.ints .u64 m)⟩)), (34, (.one ⟨true, true, (.ints .u64 [0, 0, 0, 0, 0, 0, 0, 0, 0, 0, 0, 0, 0, 0, 0, 0])⟩))], 66⟩
theorem LD_rt (l m : List Int) (i : Nat) (v : List Int)
    (hl : l.length = 16)
    (hm : m.length = 16)
    (hi : i ≤ 16)
    (hv : v.length = 16)
    (hx : 0 ≤ (List.getD v i 0) ∧ (List.getD v i 0) < 65536)
    (hy : 0 ≤ (List.getD m i 0) ∧ (List.getD m i 0) < 65536)
    (h1 : ((↑i : Int) < (16 : Int))) :
    CodeOk Tryd.prog 21 66 (kAt (kOf Tryd.prog Tryd.f18) [true, false, true, false, false]) (LDI m i v) .normal (LDI m (i + 1) (splice v i [List.getD v i 0 + List.getD m i 0])) :=
  CodeOk.of_runs (fuel := 300) (v := ⟨[2, 3, 4, 5], [0, 2, 18, 34], [], 66⟩) (hs := [(1, ⟨.auto, some (.c (.bool (true)))⟩), (5, ⟨.ask, none⟩), (6, ⟨.ask, none⟩), (8, ⟨.ask, none⟩), (9, ⟨.ask, none⟩), (10, ⟨.auto, some (.c (.int .u64 (List.getD v i 0 + List.getD m i 0)))⟩), (11, ⟨.ask, none⟩), (12, ⟨.ask, none⟩), (14, ⟨.auto, some (.c (.int .i64 (↑(i + 1))))⟩)])
    (cs := [EI .i64 (IntKind.wrap IntKind.i64 ((↑i : Int) + 1)) ((↑(i + 1) : Int)),
      (i + (1 : Nat) ≤ List.length v ∧ (1 : Nat) = (1 : Nat)),
      ((0 : Int) ≤ (↑i : Int) ∧ (↑i : Int) < (16 : Int)),
      EI .u64 ((List.getD v i 0 + List.getD m i 0) % 18446744073709551616) (List.getD v i 0 + List.getD m i 0),
      (i + (1 : Nat) ≤ List.length m),
      ((0 : Int) ≤ (↑i : Int) ∧ (↑i : Int) < (16 : Int)),
      (i + (1 : Nat) ≤ List.length v),
      ((0 : Int) ≤ (↑i : Int) ∧ (↑i : Int) < (16 : Int)),
      EB (decide ((↑i : Int) < 16)) true])
    mixed (by kernel_rfl) ⟨.mk (by simp only [addO_eq, mulE_eq, mulE_one, Int.toNat_natCast, IntKind.wrap_i64, mmin, mmax]; omega), (by omega), (by omega), .mk (by omega), (by omega), (by omega), (by omega), (by omega), .mk (decide_eq_true h1), trivial⟩
theorem LD_xf (l m : List Int) (i : Nat) (v : List Int)
    (hl : l.length = 16)
    (hm : m.length = 16)
    (hi : i ≤ 16)
    (hv : v.length = 16)
    (hx : 0 ≤ (List.getD v i 0) ∧ (List.getD v i 0) < 65536)
    (hy : 0 ≤ (List.getD m i 0) ∧ (List.getD m i 0) < 65536)
    (h1 : (¬(↑i : Int) < (16 : Int))) :
    CodeOk Tryd.prog 21 66 (kAt (kOf Tryd.prog Tryd.f18) [true, false, true, false, false]) (LDI m i v) (.exit 0) (LDI m i v) :=
  CodeOk.of_runs (fuel := 300) (v := ⟨[2, 3, 4, 5], [0, 2, 18, 34], [], 66⟩) (hs := [(1, ⟨.auto, some (.c (.bool (false)))⟩)])
    (cs := [EB (decide ((↑i : Int) < 16)) false])
    mixed (by kernel_rfl) ⟨.mk (decide_eq_false h1), trivial⟩

def LSI (l m : List Int) (i : Nat) (v : List Int) : S0 :=
  ⟨[(2, (.c (.ptr 2 0 0))), (3, (.c (.ptr 18 0 0))), (4, (.c (.ptr 34 0 0))), (6, (.c (.ptr 66 0 0))), (5, (.c (.int .u64 0))), (7, (.c (.int .i64 ((↑i : Int)))))], [(0, (.one ⟨false, false, (.ints .u64 (W.pr))⟩)), (2, (.one ⟨true, true, (.ints .u64 l)⟩)), (18, (.one ⟨true, true, (.ints .u64 m)⟩)), (34, (.one ⟨true, true, (.ints .u64 [0, 0, 0, 0, 0, 0, 0, 0, 0, 0, 0, 0, 0, 0, 0, 0])⟩)), (66, (.one ⟨true, true, (.ints .u64 v)⟩))], 98⟩
theorem LS_by {α : Type} (I : α → S0) (Inv : α → Prop) (μ : α → Nat) {ex : Ex} {s' : S0} (hex : ex ≠ .normal)
    (step : ∀ x, Inv x → (∃ y, Inv y ∧ μ y < μ x ∧ CodeOk Tryd.prog 41 98 (kAt (kOf Tryd.prog Tryd.f20) [true, true, true, false, true, false, false]) (I x) .normal (I y)) ∨ CodeOk Tryd.prog 41 98 (kAt (kOf Tryd.prog Tryd.f20) [true, true, true, false, true, false, false]) (I x) ex s') (x : α) (hx : Inv x) :
    CodeOk Tryd.prog 41 98 (kAt (kOf Tryd.prog Tryd.f20) [true, true, true, false, true, false]) (I x) ex s' := by
  have hk : (kAt (kOf Tryd.prog Tryd.f20) [true, true, true, false, true, false]) = .loop (kAt (kOf Tryd.prog Tryd.f20) [true, true, true, false, true, false, false]) := by kernel_rfl
  rw [hk]
  exact CodeOk.loop I Inv μ hex step x hx
def LS0 (l m : List Int) : S0 :=
  ⟨[(2, (.c (.ptr 2 0 0))), (3, (.c (.ptr 18 0 0))), (4, (.c (.ptr 34 0 0))), (6, (.c (.ptr 66 0 0))), (5, (.c (.int .u64 0))), (7, (.c (.int .i64 0)))], [(0, (.one ⟨false, false, (.ints .u64 (W.pr))⟩)), (2, (.one ⟨true, true, (.ints .u64 l)⟩)), (18, (.one ⟨true, true, (.ints .u64 m)⟩)), (34, (.one ⟨true, true, (.ints .u64 [0, 0, 0, 0, 0, 0, 0, 0, 0, 0, 0, 0, 0, 0, 0, 0])⟩)), (66, (.one ⟨true, true, (.ints .u64 [0, 0, 0, 0, 0, 0, 0, 0, 0, 0, 0, 0, 0, 0, 0, 0])⟩))], 98⟩
theorem LS_rt (l m : List Int) (i : Nat) (v : List Int)
    (hl : l.length = 16)
    (hm : m.length = 16)
    (hi : i ≤ 16)
    (hv : v.length = 16)
    (hx : 0 ≤ (List.getD l i 0) ∧ (List.getD l i 0) < 65536)
    (hy : 0 ≤ (List.getD m i 0) ∧ (List.getD m i 0) < 65536)
    (hz : 0 ≤ (List.getD W.pr i 0) ∧ (List.getD W.pr i 0) < 65536)
    (hs : (List.getD m i 0) ≤ 2 * (List.getD W.pr i 0))
    (h1 : ((↑i : Int) < (16 : Int))) :
    CodeOk Tryd.prog 41 98 (kAt (kOf Tryd.prog Tryd.f20) [true, true, true, false, true, false, false]) (LSI l m i v) .normal (LSI l m (i + 1) (splice v i [List.getD l i 0 + 2 * List.getD W.pr i 0 + 131072 - List.getD m i 0 - 131072])) :=
  CodeOk.of_runs (fuel := 300) (v := ⟨[2, 3, 4, 6, 5, 7], [0, 2, 18, 34, 66], [], 98⟩) (hs := [(1, ⟨.auto, some (.c (.bool (true)))⟩), (4, ⟨.ask, none⟩), (5, ⟨.ask, none⟩), (7, ⟨.ask, none⟩), (8, ⟨.ask, none⟩), (9, ⟨.auto, some (.c (.int .u64 (2 * List.getD W.pr i 0)))⟩), (10, ⟨.auto, some (.c (.int .u64 (List.getD l i 0 + 2 * List.getD W.pr i 0)))⟩), (11, ⟨.auto, some (.c (.int .u64 (List.getD l i 0 + 2 * List.getD W.pr i 0 + 131072)))⟩), (13, ⟨.ask, none⟩), (14, ⟨.ask, none⟩), (15, ⟨.auto, some (.c (.int .u64 (List.getD l i 0 + 2 * List.getD W.pr i 0 + 131072 - List.getD m i 0)))⟩), (17, ⟨.auto, some (.c (.int .u64 (List.getD l i 0 + 2 * List.getD W.pr i 0 + 131072 - List.getD m i 0)))⟩), (21, ⟨.auto, some (.c (.int .u64 (List.getD l i 0 + 2 * List.getD W.pr i 0 + 131072 - List.getD m i 0 - 131072)))⟩), (22, ⟨.ask, none⟩), (23, ⟨.ask, none⟩), (26, ⟨.auto, some (.c (.bool (false)))⟩), (29, ⟨.auto, some (.c (.int .i64 (↑(i + 1))))⟩)])
    (cs := [EI .i64 (IntKind.wrap IntKind.i64 ((↑i : Int) + 1)) ((↑(i + 1) : Int)),
      EB (decide (List.getD l i 0 + 2 * List.getD W.pr i 0 + 131072 - List.getD m i 0 < 131072)) false,
      (i + (1 : Nat) ≤ List.length v ∧ (1 : Nat) = (1 : Nat)),
      ((0 : Int) ≤ (↑i : Int) ∧ (↑i : Int) < (16 : Int)),
      EI .u64 ((List.getD l i 0 + 2 * List.getD W.pr i 0 + 131072 - List.getD m i 0 - 131072) % 18446744073709551616) (List.getD l i 0 + 2 * List.getD W.pr i 0 + 131072 - List.getD m i 0 - 131072),
      EI .u64 ((List.getD l i 0 + 2 * List.getD W.pr i 0 + 131072 - List.getD m i 0 - 0) % 18446744073709551616) (List.getD l i 0 + 2 * List.getD W.pr i 0 + 131072 - List.getD m i 0),
      EI .u64 ((List.getD l i 0 + 2 * List.getD W.pr i 0 + 131072 - List.getD m i 0) % 18446744073709551616) (List.getD l i 0 + 2 * List.getD W.pr i 0 + 131072 - List.getD m i 0),
      (i + (1 : Nat) ≤ List.length m),
      ((0 : Int) ≤ (↑i : Int) ∧ (↑i : Int) < (16 : Int)),
      EI .u64 ((List.getD l i 0 + 2 * List.getD W.pr i 0 + 131072) % 18446744073709551616) (List.getD l i 0 + 2 * List.getD W.pr i 0 + 131072),
      EI .u64 ((List.getD l i 0 + 2 * List.getD W.pr i 0) % 18446744073709551616) (List.getD l i 0 + 2 * List.getD W.pr i 0),
      EI .u64 (2 * List.getD W.pr i 0 % 18446744073709551616) (2 * List.getD W.pr i 0),
      (i + (1 : Nat) ≤ (16 : Nat)),
      ((0 : Int) ≤ (↑i : Int) ∧ (↑i : Int) < (16 : Int)),
      (i + (1 : Nat) ≤ List.length l),
      ((0 : Int) ≤ (↑i : Int) ∧ (↑i : Int) < (16 : Int)),
      EB (decide ((↑i : Int) < 16)) true])
    mixed (by kernel_rfl) ⟨.mk (by simp only [addO_eq, mulE_eq, mulE_one, Int.toNat_natCast, IntKind.wrap_i64, mmin, mmax]; omega), .mk (decide_eq_false (by omega)), (by omega), (by omega), .mk (by omega), .mk (by omega), .mk (by omega), (by omega), (by omega), .mk (by omega), .mk (by omega), .mk (by omega), (by omega), (by omega), (by omega), (by omega), .mk (decide_eq_true h1), trivial⟩
theorem LS_xf (l m : List Int) (i : Nat) (v : List Int)
    (hl : l.length = 16)
    (hm : m.length = 16)
    (hi : i ≤ 16)
    (hv : v.length = 16)
    (hx : 0 ≤ (List.getD l i 0) ∧ (List.getD l i 0) < 65536)
    (hy : 0 ≤ (List.getD m i 0) ∧ (List.getD m i 0) < 65536)
    (hz : 0 ≤ (List.getD W.pr i 0) ∧ (List.getD W.pr i 0) < 65536)
    (hs : (List.getD m i 0) ≤ 2 * (List.getD W.pr i 0))
    (h1 : (¬(↑i : Int) < (16 : Int))) :
    CodeOk Tryd.prog 41 98 (kAt (kOf Tryd.prog Tryd.f20) [true, true, true, false, true, false, false]) (LSI l m i v) (.exit 0) (LSI l m i v) :=
  CodeOk.of_runs (fuel := 300) (v := ⟨[2, 3, 4, 6, 5, 7], [0, 2, 18, 34, 66], [], 98⟩) (hs := [(1, ⟨.auto, some (.c (.bool (false)))⟩)])
    (cs := [EB (decide ((↑i : Int) < 16)) false])
    mixed (by kernel_rfl) ⟨.mk (decide_eq_false h1), trivial⟩

def LMI (l m : List Int) (a k : Nat) (v : List Int) : S0 :=
  ⟨[(2, (.c (.ptr 2 0 0))), (3, (.c (.ptr 18 0 0))), (4, (.c (.ptr 34 0 0))), (5, (.c (.ptr 50 0 0))), (6, (.c (.int .i64 (a : Int)))), (7, (.c (.int .i64 ((↑k : Int)))))], [(0, (.one ⟨false, false, (.ints .u64 (W.pr))⟩)), (2, (.one ⟨true, true, (.ints .u64 l)⟩)), (18, (.one ⟨true, true, (.ints .u64 m)⟩)), (34, (.one ⟨true, true, (.ints .u64 [0, 0, 0, 0, 0, 0, 0, 0, 0, 0, 0, 0, 0, 0, 0, 0])⟩)), (50, (.one ⟨true, true, (.ints .u64 v)⟩))], 130⟩
theorem LM_by {α : Type} (I : α → S0) (Inv : α → Prop) (μ : α → Nat) {ex : Ex} {s' : S0} (hex : ex ≠ .normal)
    (step : ∀ x, Inv x → (∃ y, Inv y ∧ μ y < μ x ∧ CodeOk Tryd.prog 75 130 (kAt (kOf Tryd.prog Tryd.f14) [true, true, false, true, false, false, true, false, false, true, false, false]) (I x) .normal (I y)) ∨ CodeOk Tryd.prog 75 130 (kAt (kOf Tryd.prog Tryd.f14) [true, true, false, true, false, false, true, false, false, true, false, false]) (I x) ex s') (x : α) (hx : Inv x) :
    CodeOk Tryd.prog 75 130 (kAt (kOf Tryd.prog Tryd.f14) [true, true, false, true, false, false, true, false, false, true, false]) (I x) ex s' := by
  have hk : (kAt (kOf Tryd.prog Tryd.f14) [true, true, false, true, false, false, true, false, false, true, false]) = .loop (kAt (kOf Tryd.prog Tryd.f14) [true, true, false, true, false, false, true, false, false, true, false, false]) := by kernel_rfl
  rw [hk]
  exact CodeOk.loop I Inv μ hex step x hx
theorem LM_rt (l m : List Int) (a k : Nat) (v : List Int)
    (hl : l.length = 16)
    (hm : m.length = 16)
    (ha : a < 16)
    (hk : k ≤ 16)
    (hv : v.length = 32)
    (hx : 0 ≤ (List.getD l a 0) ∧ (List.getD l a 0) < 65536)
    (hy : 0 ≤ (List.getD m k 0) ∧ (List.getD m k 0) < 65536)
    (hz : 0 ≤ (List.getD v (a + k) 0) ∧ (List.getD v (a + k) 0) < 1099511627776)
    (h1 : ((↑k : Int) < (16 : Int))) :
    CodeOk Tryd.prog 75 130 (kAt (kOf Tryd.prog Tryd.f14) [true, true, false, true, false, false, true, false, false, true, false, false]) (LMI l m a k v) .normal (LMI l m a (k + 1) (splice v (a + k) [(List.getD v (a + k) 0 + List.getD l a 0 * List.getD m k 0 % 18446744073709551616) % 18446744073709551616])) :=
  CodeOk.of_runs (fuel := 300) (v := ⟨[2, 3, 4, 5, 6, 7], [0, 2, 18, 34, 50], [], 130⟩) (hs := [(1, ⟨.auto, some (.c (.bool (true)))⟩), (5, ⟨.auto, some (.c (.int .i64 (↑(a + k))))⟩), (8, ⟨.auto, some (.c (.int .i64 (↑(a + k))))⟩), (9, ⟨.ask, none⟩), (10, ⟨.ask, none⟩), (12, ⟨.ask, none⟩), (13, ⟨.ask, none⟩), (15, ⟨.ask, none⟩), (16, ⟨.ask, none⟩), (19, ⟨.ask, none⟩), (20, ⟨.ask, none⟩), (22, ⟨.auto, some (.c (.int .i64 (↑(k + 1))))⟩)])
    (cs := [EI .i64 (IntKind.wrap IntKind.i64 ((↑k : Int) + 1)) ((↑(k + 1) : Int)),
      (a + k + (1 : Nat) ≤ List.length v ∧ (1 : Nat) = (1 : Nat)),
      ((0 : Int) ≤ (↑(a + k) : Int) ∧ (↑(a + k) : Int) < (32 : Int)),
      (k + (1 : Nat) ≤ List.length m),
      ((0 : Int) ≤ (↑k : Int) ∧ (↑k : Int) < (16 : Int)),
      (a + (1 : Nat) ≤ List.length l),
      ((0 : Int) ≤ (↑a : Int) ∧ (↑a : Int) < (16 : Int)),
      (a + k + (1 : Nat) ≤ List.length v),
      ((0 : Int) ≤ (↑(a + k) : Int) ∧ (↑(a + k) : Int) < (32 : Int)),
      EI .i64 (IntKind.wrap IntKind.i64 ((↑a : Int) + (↑k : Int))) ((↑(a + k) : Int)),
      EI .i64 (IntKind.wrap IntKind.i64 ((↑a : Int) + (↑k : Int))) ((↑(a + k) : Int)),
      EB (decide ((↑k : Int) < 16)) true])
    mixed (by kernel_rfl) ⟨.mk (by simp only [addO_eq, mulE_eq, mulE_one, Int.toNat_natCast, IntKind.wrap_i64, mmin, mmax]; omega), (by omega), (by omega), (by omega), (by omega), (by omega), (by omega), (by omega), (by omega), .mk (by simp only [addO_eq, mulE_eq, mulE_one, Int.toNat_natCast, IntKind.wrap_i64, mmin, mmax]; omega), .mk (by simp only [addO_eq, mulE_eq, mulE_one, Int.toNat_natCast, IntKind.wrap_i64, mmin, mmax]; omega), .mk (decide_eq_true h1), trivial⟩
theorem LM_xf (l m : List Int) (a k : Nat) (v : List Int)
    (hl : l.length = 16)
    (hm : m.length = 16)
    (ha : a < 16)
    (hk : k ≤ 16)
    (hv : v.length = 32)
    (hx : 0 ≤ (List.getD l a 0) ∧ (List.getD l a 0) < 65536)
    (hy : 0 ≤ (List.getD m k 0) ∧ (List.getD m k 0) < 65536)
    (hz : 0 ≤ (List.getD v (a + k) 0) ∧ (List.getD v (a + k) 0) < 1099511627776)
    (h1 : (¬(↑k : Int) < (16 : Int))) :
    CodeOk Tryd.prog 75 130 (kAt (kOf Tryd.prog Tryd.f14) [true, true, false, true, false, false, true, false, false, true, false, false]) (LMI l m a k v) (.exit 2) (LMI l m a k v) :=
  CodeOk.of_runs (fuel := 300) (v := ⟨[2, 3, 4, 5, 6, 7], [0, 2, 18, 34, 50], [], 130⟩) (hs := [(1, ⟨.auto, some (.c (.bool (false)))⟩)])
    (cs := [EB (decide ((↑k : Int) < 16)) false])
    mixed (by kernel_rfl) ⟨.mk (decide_eq_false h1), trivial⟩

def LQI (b : List Int) (i : Nat) (v : List Int) : S0 :=
  ⟨[(1, (.c (.ptr 2 0 0))), (2, (.c (.ptr 18 0 0))), (3, (.c (.ptr 34 0 0))), (4, (.c (.int .i64 ((↑i : Int)))))], [(0, (.one ⟨false, false, (.ints .u64 (W.pr))⟩)), (2, (.one ⟨true, true, (.ints .u8 b)⟩)), (18, (.one ⟨true, true, (.ints .u64 [0, 0, 0, 0, 0, 0, 0, 0, 0, 0, 0, 0, 0, 0, 0, 0])⟩)), (34, (.one ⟨true, true, (.ints .u64 v)⟩))], 66⟩
theorem LQ_by {α : Type} (I : α → S0) (Inv : α → Prop) (μ : α → Nat) {ex : Ex} {s' : S0} (hex : ex ≠ .normal)
    (step : ∀ x, Inv x → (∃ y, Inv y ∧ μ y < μ x ∧ CodeOk Tryd.prog 30 66 (kAt (kOf Tryd.prog Tryd.f9) [true, true, false, true, false, false]) (I x) .normal (I y)) ∨ CodeOk Tryd.prog 30 66 (kAt (kOf Tryd.prog Tryd.f9) [true, true, false, true, false, false]) (I x) ex s') (x : α) (hx : Inv x) :
    CodeOk Tryd.prog 30 66 (kAt (kOf Tryd.prog Tryd.f9) [true, true, false, true, false]) (I x) ex s' := by
  have hk : (kAt (kOf Tryd.prog Tryd.f9) [true, true, false, true, false]) = .loop (kAt (kOf Tryd.prog Tryd.f9) [true, true, false, true, false, false]) := by kernel_rfl
  rw [hk]
  exact CodeOk.loop I Inv μ hex step x hx
def LQ0 (b : List Int) : S0 :=
  ⟨[(1, (.c (.ptr 2 0 0))), (2, (.c (.ptr 18 0 0))), (3, (.c (.ptr 34 0 0))), (4, (.c (.int .i64 0)))], [(0, (.one ⟨false, false, (.ints .u64 (W.pr))⟩)), (2, (.one ⟨true, true, (.ints .u8 b)⟩)), (18, (.one ⟨true, true, (.ints .u64 [0, 0, 0, 0, 0, 0, 0, 0, 0, 0, 0, 0, 0, 0, 0, 0])⟩)), (34, (.one ⟨true, true, (.ints .u64 [0, 0, 0, 0, 0, 0, 0, 0, 0, 0, 0, 0, 0, 0, 0, 0])⟩))], 66⟩
theorem LQ_rt (b : List Int) (i : Nat) (v : List Int)
    (hb : b.length = 32)
    (hi : i ≤ 16)
    (hv : v.length = 16)
    (hx : 0 ≤ (List.getD b (2 * i) 0) ∧ (List.getD b (2 * i) 0) < 256)
    (hy : 0 ≤ (List.getD b (2 * i + 1) 0) ∧ (List.getD b (2 * i + 1) 0) < 256)
    (h1 : ((↑i : Int) < (16 : Int))) :
    CodeOk Tryd.prog 30 66 (kAt (kOf Tryd.prog Tryd.f9) [true, true, false, true, false, false]) (LQI b i v) .normal (LQI b (i + 1) (splice v i [List.getD b (2 * i) 0 + List.getD b (2 * i + 1) 0 * 256])) :=
  CodeOk.of_runs (fuel := 300) (v := ⟨[1, 2, 3, 4], [0, 2, 18, 34], [], 66⟩) (hs := [(1, ⟨.auto, some (.c (.bool (true)))⟩), (5, ⟨.auto, some (.c (.int .i64 (↑(2 * i))))⟩), (6, ⟨.ask, none⟩), (7, ⟨.ask, none⟩), (8, ⟨.auto, some (.c (.int .u64 (List.getD b (2 * i) 0)))⟩), (10, ⟨.auto, some (.c (.int .i64 (↑(2 * i))))⟩), (11, ⟨.auto, some (.c (.int .i64 (↑(2 * i + 1))))⟩), (12, ⟨.ask, none⟩), (13, ⟨.ask, none⟩), (14, ⟨.auto, some (.c (.int .u64 (List.getD b (2 * i + 1) 0)))⟩), (15, ⟨.auto, some (.c (.int .u64 (List.getD b (2 * i + 1) 0 * 256)))⟩), (16, ⟨.auto, some (.c (.int .u64 (List.getD b (2 * i) 0 + List.getD b (2 * i + 1) 0 * 256)))⟩), (17, ⟨.ask, none⟩), (18, ⟨.ask, none⟩), (20, ⟨.auto, some (.c (.int .i64 (↑(i + 1))))⟩)])
    (cs := [EI .i64 (IntKind.wrap IntKind.i64 ((↑i : Int) + 1)) ((↑(i + 1) : Int)),
      (i + (1 : Nat) ≤ List.length v ∧ (1 : Nat) = (1 : Nat)),
      ((0 : Int) ≤ (↑i : Int) ∧ (↑i : Int) < (16 : Int)),
      EI .u64 ((List.getD b (2 * i) 0 + List.getD b (2 * i + 1) 0 * 256) % 18446744073709551616) (List.getD b (2 * i) 0 + List.getD b (2 * i + 1) 0 * 256),
      EI .u64 (List.getD b (2 * i + 1) 0 * 256 % 18446744073709551616) (List.getD b (2 * i + 1) 0 * 256),
      EI .u64 (List.getD b (2 * i + 1) 0 % 18446744073709551616) (List.getD b (2 * i + 1) 0),
      ((2 : Nat) * i + (1 : Nat) + (1 : Nat) ≤ List.length b),
      ((0 : Int) ≤ (↑((2 : Nat) * i + (1 : Nat)) : Int) ∧ (↑((2 : Nat) * i + (1 : Nat)) : Int) < (32 : Int)),
      EI .i64 (IntKind.wrap IntKind.i64 ((↑(2 * i) : Int) + 1)) ((↑(2 * i + 1) : Int)),
      EI .i64 (IntKind.wrap IntKind.i64 (2 * (↑i : Int))) ((↑(2 * i) : Int)),
      EI .u64 (List.getD b (2 * i) 0 % 18446744073709551616) (List.getD b (2 * i) 0),
      ((2 : Nat) * i + (1 : Nat) ≤ List.length b),
      ((0 : Int) ≤ (↑((2 : Nat) * i) : Int) ∧ (↑((2 : Nat) * i) : Int) < (32 : Int)),
      EI .i64 (IntKind.wrap IntKind.i64 (2 * (↑i : Int))) ((↑(2 * i) : Int)),
      EB (decide ((↑i : Int) < 16)) true])
    mixed (by kernel_rfl) ⟨.mk (by simp only [addO_eq, mulE_eq, mulE_one, Int.toNat_natCast, IntKind.wrap_i64, mmin, mmax]; omega), (by omega), (by omega), .mk (by omega), .mk (by omega), .mk (by omega), (by omega), (by omega), .mk (by simp only [addO_eq, mulE_eq, mulE_one, Int.toNat_natCast, IntKind.wrap_i64, mmin, mmax]; omega), .mk (by simp only [addO_eq, mulE_eq, mulE_one, Int.toNat_natCast, IntKind.wrap_i64, mmin, mmax]; omega), .mk (by omega), (by omega), (by omega), .mk (by simp only [addO_eq, mulE_eq, mulE_one, Int.toNat_natCast, IntKind.wrap_i64, mmin, mmax]; omega), .mk (decide_eq_true h1), trivial⟩
theorem LQ_xf (b : List Int) (i : Nat) (v : List Int)
    (hb : b.length = 32)
    (hi : i ≤ 16)
    (hv : v.length = 16)
    (hx : 0 ≤ (List.getD b (2 * i) 0) ∧ (List.getD b (2 * i) 0) < 256)
    (hy : 0 ≤ (List.getD b (2 * i + 1) 0) ∧ (List.getD b (2 * i + 1) 0) < 256)
    (h1 : (¬(↑i : Int) < (16 : Int))) :
    CodeOk Tryd.prog 30 66 (kAt (kOf Tryd.prog Tryd.f9) [true, true, false, true, false, false]) (LQI b i v) (.exit 0) (LQI b i v) :=
  CodeOk.of_runs (fuel := 300) (v := ⟨[1, 2, 3, 4], [0, 2, 18, 34], [], 66⟩) (hs := [(1, ⟨.auto, some (.c (.bool (false)))⟩)])
    (cs := [EB (decide ((↑i : Int) < 16)) false])
    mixed (by kernel_rfl) ⟨.mk (decide_eq_false h1), trivial⟩

theorem byt (l : List Int)
    (hl : l.length = 16) :
    PureF Tryd.prog 13 [(.aggi .u64 l)] (.aggi .u8 [(List.getD l 0 0 % 256), (List.getD l 0 0 / 256 % 256), (List.getD l 1 0 % 256), (List.getD l 1 0 / 256 % 256), (List.getD l 2 0 % 256), (List.getD l 2 0 / 256 % 256), (List.getD l 3 0 % 256), (List.getD l 3 0 / 256 % 256), (List.getD l 4 0 % 256), (List.getD l 4 0 / 256 % 256), (List.getD l 5 0 % 256), (List.getD l 5 0 / 256 % 256), (List.getD l 6 0 % 256), (List.getD l 6 0 / 256 % 256), (List.getD l 7 0 % 256), (List.getD l 7 0 / 256 % 256), (List.getD l 8 0 % 256), (List.getD l 8 0 / 256 % 256), (List.getD l 9 0 % 256), (List.getD l 9 0 / 256 % 256), (List.getD l 10 0 % 256), (List.getD l 10 0 / 256 % 256), (List.getD l 11 0 % 256), (List.getD l 11 0 / 256 % 256), (List.getD l 12 0 % 256), (List.getD l 12 0 / 256 % 256), (List.getD l 13 0 % 256), (List.getD l 13 0 / 256 % 256), (List.getD l 14 0 % 256), (List.getD l 14 0 / 256 % 256), (List.getD l 15 0 % 256), (List.getD l 15 0 / 256 % 256)]) :=
  Contract0.of_frun (res := (.aggi .u8 [(List.getD l 0 0 % 256), (List.getD l 0 0 / 256 % 256), (List.getD l 1 0 % 256), (List.getD l 1 0 / 256 % 256), (List.getD l 2 0 % 256), (List.getD l 2 0 / 256 % 256), (List.getD l 3 0 % 256), (List.getD l 3 0 / 256 % 256), (List.getD l 4 0 % 256), (List.getD l 4 0 / 256 % 256), (List.getD l 5 0 % 256), (List.getD l 5 0 / 256 % 256), (List.getD l 6 0 % 256), (List.getD l 6 0 / 256 % 256), (List.getD l 7 0 % 256), (List.getD l 7 0 / 256 % 256), (List.getD l 8 0 % 256), (List.getD l 8 0 / 256 % 256), (List.getD l 9 0 % 256), (List.getD l 9 0 / 256 % 256), (List.getD l 10 0 % 256), (List.getD l 10 0 / 256 % 256), (List.getD l 11 0 % 256), (List.getD l 11 0 / 256 % 256), (List.getD l 12 0 % 256), (List.getD l 12 0 / 256 % 256), (List.getD l 13 0 % 256), (List.getD l 13 0 / 256 % 256), (List.getD l 14 0 % 256), (List.getD l 14 0 / 256 % 256), (List.getD l 15 0 % 256), (List.getD l 15 0 / 256 % 256)])) (up := []) (kill := []) (n0 := 1) (m := []) (args := [(.aggi .u64 l)]) (fn := Tryd.f13) (c := bodyOf Tryd.f13) (fuel := 300) (k := kOf Tryd.prog Tryd.f13) (outs := []) (hs := [(11, ⟨.ask, none⟩), (20, ⟨.ask, none⟩), (35, ⟨.ask, none⟩), (44, ⟨.ask, none⟩), (59, ⟨.ask, none⟩), (68, ⟨.ask, none⟩), (83, ⟨.ask, none⟩), (92, ⟨.ask, none⟩), (107, ⟨.ask, none⟩), (116, ⟨.ask, none⟩), (131, ⟨.ask, none⟩), (140, ⟨.ask, none⟩), (155, ⟨.ask, none⟩), (164, ⟨.ask, none⟩), (179, ⟨.ask, none⟩), (188, ⟨.ask, none⟩), (203, ⟨.ask, none⟩), (212, ⟨.ask, none⟩), (227, ⟨.ask, none⟩), (236, ⟨.ask, none⟩), (251, ⟨.ask, none⟩), (260, ⟨.ask, none⟩), (275, ⟨.ask, none⟩), (284, ⟨.ask, none⟩), (299, ⟨.ask, none⟩), (308, ⟨.ask, none⟩), (323, ⟨.ask, none⟩), (332, ⟨.ask, none⟩), (347, ⟨.ask, none⟩), (356, ⟨.ask, none⟩), (371, ⟨.ask, none⟩), (380, ⟨.ask, none⟩)])
    (cs := [((16 : Nat) ≤ List.length l),
      ((16 : Nat) ≤ List.length l),
      ((15 : Nat) ≤ List.length l),
      ((15 : Nat) ≤ List.length l),
      ((14 : Nat) ≤ List.length l),
      ((14 : Nat) ≤ List.length l),
      ((13 : Nat) ≤ List.length l),
      ((13 : Nat) ≤ List.length l),
      ((12 : Nat) ≤ List.length l),
      ((12 : Nat) ≤ List.length l),
      ((11 : Nat) ≤ List.length l),
      ((11 : Nat) ≤ List.length l),
      ((10 : Nat) ≤ List.length l),
      ((10 : Nat) ≤ List.length l),
      ((9 : Nat) ≤ List.length l),
      ((9 : Nat) ≤ List.length l),
      ((8 : Nat) ≤ List.length l),
      ((8 : Nat) ≤ List.length l),
      ((7 : Nat) ≤ List.length l),
      ((7 : Nat) ≤ List.length l),
      ((6 : Nat) ≤ List.length l),
      ((6 : Nat) ≤ List.length l),
      ((5 : Nat) ≤ List.length l),
      ((5 : Nat) ≤ List.length l),
      ((4 : Nat) ≤ List.length l),
      ((4 : Nat) ≤ List.length l),
      ((3 : Nat) ≤ List.length l),
      ((3 : Nat) ≤ List.length l),
      ((2 : Nat) ≤ List.length l),
      ((2 : Nat) ≤ List.length l),
      ((1 : Nat) ≤ List.length l),
      ((1 : Nat) ≤ List.length l)])
    mixed Tryd.func13 (by kernel_rfl) (by kernel_rfl) (by kernel_rfl) (by kernel_rfl) (by kernel_rfl) ⟨(by omega), (by omega), (by omega), (by omega), (by omega), (by omega), (by omega), (by omega), (by omega), (by omega), (by omega), (by omega), (by omega), (by omega), (by omega), (by omega), (by omega), (by omega), (by omega), (by omega), (by omega), (by omega), (by omega), (by omega), (by omega), (by omega), (by omega), (by omega), (by omega), (by omega), (by omega), (by omega), trivial⟩


end Go.Proofs.YtkjbjgkjplmkhaaDoor.Vm

namespace Go.Proofs.YtkjbjgkjplmkhaaDoor.W
/-- A number's places, from its bytes. -/
def frG (b : List Int) (j : Nat) : Int := b.getD (2 * j) 0 + b.getD (2 * j + 1) 0 * 256
end Go.Proofs.YtkjbjgkjplmkhaaDoor.W
namespace Go.Proofs.YtkjbjgkjplmkhaaDoor.Vm
open Go Go.Proofs Go.Proofs.YtkjbjgkjplmkhaaDoor
theorem frz_ok (l : List Int) (hl : l.length = 16) (hd : W.dg 1099511627776 l) :
    Contract0 Tryd.prog 35 [(.aggi .u64 l)] [(0, (.one ⟨false, false, (.ints .u64 (W.pr))⟩))] 2 (.aggi .u64 (W.d16 (W.numD l % W.pn))) [] [] := by
  obtain ⟨hf, hg, _⟩ := W.fz_ok hl hd
  exact frz l hl hd hf hg
theorem adl (l m : List Int) (hl : l.length = 16) (hm : m.length = 16) (hd : W.dg 65536 l) (he : W.dg 65536 m) :
    CodeOk Tryd.prog 21 66 (kAt (kOf Tryd.prog Tryd.f18) [true, false, true, false]) (LD0 l m) (.exit 0) (LDI m 16 (W.sq (W.addG l m) l 16)) := by
  refine LD_by (fun i : Nat => LDI m i (W.sq (W.addG l m) l i)) (fun i => i ≤ 16) (fun i => 16 - i) (by simp) ?_ 0 (by decide)
  intro i hi
  have hv : (W.sq (W.addG l m) l i).length = 16 := by rw [W.sq_len, hl]
  have ex : (W.sq (W.addG l m) l i).getD i 0 = l.getD i 0 := by rw [W.sq_get (by omega), if_neg (by omega)]
  by_cases h : i < 16
  · refine .inl ⟨i + 1, h, by omega, ?_⟩
    have r := LD_rt l m i (W.sq (W.addG l m) l i) hl hm hi hv (by rw [ex]; exact hd i) (he i) (by omega)
    rw [ex] at r
    exact r
  · have e : i = 16 := by omega
    subst e
    exact .inr (LD_xf l m 16 (W.sq (W.addG l m) l 16) hl hm hi hv (by rw [ex]; exact hd 16) (he 16) (by omega))
theorem sbl (l m : List Int) (hl : l.length = 16) (hm : m.length = 16) (hd : W.dg 65536 l) (he : W.dg 65536 m) (hs : ∀ j, m.getD j 0 ≤ 2 * W.pr.getD j 0) :
    CodeOk Tryd.prog 41 98 (kAt (kOf Tryd.prog Tryd.f20) [true, true, true, false, true, false]) (LS0 l m) (.exit 0) (LSI l m 16 (W.sl (W.sq (W.subG l m) W.z16 16))) := by
  rw [W.sl_eq]
  refine LS_by (fun i : Nat => LSI l m i (W.sq (W.subG l m) W.z16 i)) (fun i => i ≤ 16) (fun i => 16 - i) (by simp) ?_ 0 (by decide)
  intro i hi
  have hv : (W.sq (W.subG l m) W.z16 i).length = 16 := by rw [W.sq_len]; rfl
  by_cases h : i < 16
  · exact .inl ⟨i + 1, h, by omega, LS_rt l m i (W.sq (W.subG l m) W.z16 i) hl hm hi hv (hd i) (he i) (W.pr_dg i) (hs i) (by omega)⟩
  · have e : i = 16 := by omega
    subst e
    exact .inr (LS_xf l m 16 (W.sq (W.subG l m) W.z16 16) hl hm hi hv (hd 16) (he 16) (W.pr_dg 16) (hs 16) (by omega))
theorem mil (l m v : List Int) (a : Nat) (hl : l.length = 16) (hm : m.length = 16) (ha : a < 16) (hv : v.length = 32) (hd : W.dg 65536 l) (he : W.dg 65536 m) (hb : W.dg 68719476736 v) :
    CodeOk Tryd.prog 75 130 (kAt (kOf Tryd.prog Tryd.f14) [true, true, false, true, false, false, true, false, false, true, false]) (LMI l m a 0 v) (.exit 2) (LMI l m a 16 (W.mi l m a v 16)) := by
  refine LM_by (fun k : Nat => LMI l m a k (W.mi l m a v k)) (fun k => k ≤ 16) (fun k => 16 - k) (by simp) ?_ 0 (by decide)
  intro k hk
  have o := W.mi_ok hm hv ha hd he k hk
  have hy : (W.mi l m a v k).length = 32 := by rw [o.len, hv]
  have hz := hb (a + k)
  rw [← o.hi (a + k) (Nat.le_refl _)] at hz
  by_cases h : k < 16
  · refine .inl ⟨k + 1, h, by omega, ?_⟩
    have r := LM_rt l m a k (W.mi l m a v k) hl hm ha hk hy (hd a) (he k) ⟨hz.1, by omega⟩ (by omega)
    rw [W.mul16a (hd a) (he k), W.mul16 (hd a) (he k) ⟨hz.1, by omega⟩] at r
    exact r
  · have e : k = 16 := by omega
    subst e
    exact .inr (LM_xf l m a 16 (W.mi l m a v 16) hl hm ha hk hy (hd a) (he 16) ⟨hz.1, by omega⟩ (by omega))
theorem frml (b : List Int) (hb : b.length = 32) (hd : W.dg 256 b) :
    CodeOk Tryd.prog 30 66 (kAt (kOf Tryd.prog Tryd.f9) [true, true, false, true, false]) (LQ0 b) (.exit 0) (LQI b 16 (W.sl (W.sq (W.frG b) W.z16 16))) := by
  rw [W.sl_eq]
  refine LQ_by (fun i : Nat => LQI b i (W.sq (W.frG b) W.z16 i)) (fun i => i ≤ 16) (fun i => 16 - i) (by simp) ?_ 0 (by decide)
  intro i hi
  have hv : (W.sq (W.frG b) W.z16 i).length = 16 := by rw [W.sq_len]; rfl
  by_cases h : i < 16
  · exact .inl ⟨i + 1, h, by omega, LQ_rt b i (W.sq (W.frG b) W.z16 i) hb hi hv (hd (2 * i)) (hd (2 * i + 1)) (by omega)⟩
  · have e : i = 16 := by omega
    subst e
    exact .inr (LQ_xf b 16 (W.sq (W.frG b) W.z16 16) hb hi hv (hd (2 * 16)) (hd (2 * 16 + 1)) (by omega))
end Go.Proofs.YtkjbjgkjplmkhaaDoor.Vm

namespace Go.Proofs.YtkjbjgkjplmkhaaDoor.Vm
open Go Go.Proofs Go.Proofs.YtkjbjgkjplmkhaaDoor
set_option maxRecDepth 100000
theorem addr (l m : List Int)
    (hl : l.length = 16)
    (hm : m.length = 16)
    (hd : W.dg 65536 l)
    (he : W.dg 65536 m)
    (hq : (W.sq (W.addG l m) l 16).length = 16)
    (hr : W.dg 1099511627776 (W.sq (W.addG l m) l 16)) :
    Contract0 Tryd.prog 18 [(.aggi .u64 l), (.aggi .u64 m)] [(0, (.one ⟨false, false, (.ints .u64 (W.pr))⟩))] 2 (.aggi .u64 (W.d16 (W.numD (W.sq (W.addG l m) l 16) % W.pn))) [] [] :=
  Contract0.told (res := (.aggi .u64 [(W.numD (W.sq (W.addG l m) l 16) % 57896044618658097711785492504343953926634992332820282019728792003956564819949 % 65536), (W.numD (W.sq (W.addG l m) l 16) % 57896044618658097711785492504343953926634992332820282019728792003956564819949 / 65536 % 65536), (W.numD (W.sq (W.addG l m) l 16) % 57896044618658097711785492504343953926634992332820282019728792003956564819949 / 4294967296 % 65536), (W.numD (W.sq (W.addG l m) l 16) % 57896044618658097711785492504343953926634992332820282019728792003956564819949 / 281474976710656 % 65536), (W.numD (W.sq (W.addG l m) l 16) % 57896044618658097711785492504343953926634992332820282019728792003956564819949 / 18446744073709551616 % 65536), (W.numD (W.sq (W.addG l m) l 16) % 57896044618658097711785492504343953926634992332820282019728792003956564819949 / 1208925819614629174706176 % 65536), (W.numD (W.sq (W.addG l m) l 16) % 57896044618658097711785492504343953926634992332820282019728792003956564819949 / 79228162514264337593543950336 % 65536), (W.numD (W.sq (W.addG l m) l 16) % 57896044618658097711785492504343953926634992332820282019728792003956564819949 / 5192296858534827628530496329220096 % 65536), (W.numD (W.sq (W.addG l m) l 16) % 57896044618658097711785492504343953926634992332820282019728792003956564819949 / 340282366920938463463374607431768211456 % 65536), (W.numD (W.sq (W.addG l m) l 16) % 57896044618658097711785492504343953926634992332820282019728792003956564819949 / 22300745198530623141535718272648361505980416 % 65536), (W.numD (W.sq (W.addG l m) l 16) % 57896044618658097711785492504343953926634992332820282019728792003956564819949 / 1461501637330902918203684832716283019655932542976 % 65536), (W.numD (W.sq (W.addG l m) l 16) % 57896044618658097711785492504343953926634992332820282019728792003956564819949 / 95780971304118053647396689196894323976171195136475136 % 65536), (W.numD (W.sq (W.addG l m) l 16) % 57896044618658097711785492504343953926634992332820282019728792003956564819949 / 6277101735386680763835789423207666416102355444464034512896 % 65536), (W.numD (W.sq (W.addG l m) l 16) % 57896044618658097711785492504343953926634992332820282019728792003956564819949 / 411376139330301510538742295639337626245683966408394965837152256 % 65536), (W.numD (W.sq (W.addG l m) l 16) % 57896044618658097711785492504343953926634992332820282019728792003956564819949 / 26959946667150639794667015087019630673637144422540572481103610249216 % 65536), (W.numD (W.sq (W.addG l m) l 16) % 57896044618658097711785492504343953926634992332820282019728792003956564819949 / 1766847064778384329583297500742918515827483896875618958121606201292619776 % 65536)])) (up := []) (res' := (.aggi .u64 (W.d16 (W.numD (W.sq (W.addG l m) l 16) % W.pn)))) (up' := []) (by rfl) (by rfl) (Contract0.of_frun (res := (.aggi .u64 [(W.numD (W.sq (W.addG l m) l 16) % 57896044618658097711785492504343953926634992332820282019728792003956564819949 % 65536), (W.numD (W.sq (W.addG l m) l 16) % 57896044618658097711785492504343953926634992332820282019728792003956564819949 / 65536 % 65536), (W.numD (W.sq (W.addG l m) l 16) % 57896044618658097711785492504343953926634992332820282019728792003956564819949 / 4294967296 % 65536), (W.numD (W.sq (W.addG l m) l 16) % 57896044618658097711785492504343953926634992332820282019728792003956564819949 / 281474976710656 % 65536), (W.numD (W.sq (W.addG l m) l 16) % 57896044618658097711785492504343953926634992332820282019728792003956564819949 / 18446744073709551616 % 65536), (W.numD (W.sq (W.addG l m) l 16) % 57896044618658097711785492504343953926634992332820282019728792003956564819949 / 1208925819614629174706176 % 65536), (W.numD (W.sq (W.addG l m) l 16) % 57896044618658097711785492504343953926634992332820282019728792003956564819949 / 79228162514264337593543950336 % 65536), (W.numD (W.sq (W.addG l m) l 16) % 57896044618658097711785492504343953926634992332820282019728792003956564819949 / 5192296858534827628530496329220096 % 65536), (W.numD (W.sq (W.addG l m) l 16) % 57896044618658097711785492504343953926634992332820282019728792003956564819949 / 340282366920938463463374607431768211456 % 65536), (W.numD (W.sq (W.addG l m) l 16) % 57896044618658097711785492504343953926634992332820282019728792003956564819949 / 22300745198530623141535718272648361505980416 % 65536), (W.numD (W.sq (W.addG l m) l 16) % 57896044618658097711785492504343953926634992332820282019728792003956564819949 / 1461501637330902918203684832716283019655932542976 % 65536), (W.numD (W.sq (W.addG l m) l 16) % 57896044618658097711785492504343953926634992332820282019728792003956564819949 / 95780971304118053647396689196894323976171195136475136 % 65536), (W.numD (W.sq (W.addG l m) l 16) % 57896044618658097711785492504343953926634992332820282019728792003956564819949 / 6277101735386680763835789423207666416102355444464034512896 % 65536), (W.numD (W.sq (W.addG l m) l 16) % 57896044618658097711785492504343953926634992332820282019728792003956564819949 / 411376139330301510538742295639337626245683966408394965837152256 % 65536), (W.numD (W.sq (W.addG l m) l 16) % 57896044618658097711785492504343953926634992332820282019728792003956564819949 / 26959946667150639794667015087019630673637144422540572481103610249216 % 65536), (W.numD (W.sq (W.addG l m) l 16) % 57896044618658097711785492504343953926634992332820282019728792003956564819949 / 1766847064778384329583297500742918515827483896875618958121606201292619776 % 65536)])) (up := []) (kill := []) (n0 := 2) (m := [(0, (.one ⟨false, false, (.ints .u64 (W.pr))⟩))]) (args := [(.aggi .u64 l), (.aggi .u64 m)]) (fn := Tryd.f18) (c := bodyOf Tryd.f18) (fuel := 300) (k := kOf Tryd.prog Tryd.f18) (outs := []) (hs := [(4, ⟨.sum ⟨[2, 3, 4, 5], [0, 2, 18, 34], [], 66⟩ (.exit 0) (LDI m 16 (W.sq (W.addG l m) l 16)), none⟩), (5, ⟨.ask, some (.aggi .u64 (W.sq (W.addG l m) l 16))⟩), (6, ⟨.call [0] (.aggi .u64 (W.d16 (W.numD (W.sq (W.addG l m) l 16) % 57896044618658097711785492504343953926634992332820282019728792003956564819949))) [] [], none⟩)])
    (cs := [Contract Tryd.prog 35 [(.aggi .u64 (W.sq (W.addG l m) l 16))] [(0, (.one ⟨false, false, (.ints .u64 (W.pr))⟩))] 82 (.aggi .u64 (W.d16 (W.numD (W.sq (W.addG l m) l 16) % 57896044618658097711785492504343953926634992332820282019728792003956564819949))) [] [],
      ((.aggi .u64 (List.take 16 (W.sq (W.addG l m) l 16))) : V) = (.aggi .u64 (W.sq (W.addG l m) l 16)),
      ((16 : Nat) ≤ List.length (W.sq (W.addG l m) l (16 : Nat))),
      CodeOk Tryd.prog 21 66 (kAt (kOf Tryd.prog Tryd.f18) [true, false, true, false]) (LD0 l m) (.exit 0) (LDI m 16 (W.sq (W.addG l m) l 16))])
    mixed Tryd.func18 (by kernel_rfl) (by kernel_rfl) (by kernel_rfl) (by kernel_rfl) (by kernel_rfl) ⟨Contract0.glob (frz_ok (W.sq (W.addG l m) l 16) (by omega) (by omega)) pr_glob (by kernel_rfl) (by kernel_rfl) (by kernel_rfl) (by kernel_rfl) 82, EV.aggi (List.take_of_length_le (by omega)), (by omega), (adl l m (by omega) (by omega) (by omega) (by omega)), trivial⟩)


theorem subr (l m : List Int)
    (hl : l.length = 16)
    (hm : m.length = 16)
    (hd : W.dg 65536 l)
    (he : W.dg 65536 m)
    (hs : ∀ j, m.getD j 0 ≤ 2 * W.pr.getD j 0)
    (hq : (W.sl (W.sq (W.subG l m) W.z16 16)).length = 16)
    (hr : W.dg 1099511627776 (W.sl (W.sq (W.subG l m) W.z16 16))) :
    Contract0 Tryd.prog 20 [(.aggi .u64 l), (.aggi .u64 m)] [(0, (.one ⟨false, false, (.ints .u64 (W.pr))⟩))] 2 (.aggi .u64 (W.d16 (W.numD (W.sl (W.sq (W.subG l m) W.z16 16)) % W.pn))) [] [] :=
  Contract0.told (res := (.aggi .u64 [(W.numD (W.sl (W.sq (W.subG l m) W.z16 16)) % 57896044618658097711785492504343953926634992332820282019728792003956564819949 % 65536), (W.numD (W.sl (W.sq (W.subG l m) W.z16 16)) % 57896044618658097711785492504343953926634992332820282019728792003956564819949 / 65536 % 65536), (W.numD (W.sl (W.sq (W.subG l m) W.z16 16)) % 57896044618658097711785492504343953926634992332820282019728792003956564819949 / 4294967296 % 65536), (W.numD (W.sl (W.sq (W.subG l m) W.z16 16)) % 57896044618658097711785492504343953926634992332820282019728792003956564819949 / 281474976710656 % 65536), (W.numD (W.sl (W.sq (W.subG l m) W.z16 16)) % 57896044618658097711785492504343953926634992332820282019728792003956564819949 / 18446744073709551616 % 65536), (W.numD (W.sl (W.sq (W.subG l m) W.z16 16)) % 57896044618658097711785492504343953926634992332820282019728792003956564819949 / 1208925819614629174706176 % 65536), (W.numD (W.sl (W.sq (W.subG l m) W.z16 16)) % 57896044618658097711785492504343953926634992332820282019728792003956564819949 / 79228162514264337593543950336 % 65536), (W.numD (W.sl (W.sq (W.subG l m) W.z16 16)) % 57896044618658097711785492504343953926634992332820282019728792003956564819949 / 5192296858534827628530496329220096 % 65536), (W.numD (W.sl (W.sq (W.subG l m) W.z16 16)) % 57896044618658097711785492504343953926634992332820282019728792003956564819949 / 340282366920938463463374607431768211456 % 65536), (W.numD (W.sl (W.sq (W.subG l m) W.z16 16)) % 57896044618658097711785492504343953926634992332820282019728792003956564819949 / 22300745198530623141535718272648361505980416 % 65536), (W.numD (W.sl (W.sq (W.subG l m) W.z16 16)) % 57896044618658097711785492504343953926634992332820282019728792003956564819949 / 1461501637330902918203684832716283019655932542976 % 65536), (W.numD (W.sl (W.sq (W.subG l m) W.z16 16)) % 57896044618658097711785492504343953926634992332820282019728792003956564819949 / 95780971304118053647396689196894323976171195136475136 % 65536), (W.numD (W.sl (W.sq (W.subG l m) W.z16 16)) % 57896044618658097711785492504343953926634992332820282019728792003956564819949 / 6277101735386680763835789423207666416102355444464034512896 % 65536), (W.numD (W.sl (W.sq (W.subG l m) W.z16 16)) % 57896044618658097711785492504343953926634992332820282019728792003956564819949 / 411376139330301510538742295639337626245683966408394965837152256 % 65536), (W.numD (W.sl (W.sq (W.subG l m) W.z16 16)) % 57896044618658097711785492504343953926634992332820282019728792003956564819949 / 26959946667150639794667015087019630673637144422540572481103610249216 % 65536), (W.numD (W.sl (W.sq (W.subG l m) W.z16 16)) % 57896044618658097711785492504343953926634992332820282019728792003956564819949 / 1766847064778384329583297500742918515827483896875618958121606201292619776 % 65536)])) (up := []) (res' := (.aggi .u64 (W.d16 (W.numD (W.sl (W.sq (W.subG l m) W.z16 16)) % W.pn)))) (up' := []) (by rfl) (by rfl) (Contract0.of_frun (res := (.aggi .u64 [(W.numD (W.sl (W.sq (W.subG l m) W.z16 16)) % 57896044618658097711785492504343953926634992332820282019728792003956564819949 % 65536), (W.numD (W.sl (W.sq (W.subG l m) W.z16 16)) % 57896044618658097711785492504343953926634992332820282019728792003956564819949 / 65536 % 65536), (W.numD (W.sl (W.sq (W.subG l m) W.z16 16)) % 57896044618658097711785492504343953926634992332820282019728792003956564819949 / 4294967296 % 65536), (W.numD (W.sl (W.sq (W.subG l m) W.z16 16)) % 57896044618658097711785492504343953926634992332820282019728792003956564819949 / 281474976710656 % 65536), (W.numD (W.sl (W.sq (W.subG l m) W.z16 16)) % 57896044618658097711785492504343953926634992332820282019728792003956564819949 / 18446744073709551616 % 65536), (W.numD (W.sl (W.sq (W.subG l m) W.z16 16)) % 57896044618658097711785492504343953926634992332820282019728792003956564819949 / 1208925819614629174706176 % 65536), (W.numD (W.sl (W.sq (W.subG l m) W.z16 16)) % 57896044618658097711785492504343953926634992332820282019728792003956564819949 / 79228162514264337593543950336 % 65536), (W.numD (W.sl (W.sq (W.subG l m) W.z16 16)) % 57896044618658097711785492504343953926634992332820282019728792003956564819949 / 5192296858534827628530496329220096 % 65536), (W.numD (W.sl (W.sq (W.subG l m) W.z16 16)) % 57896044618658097711785492504343953926634992332820282019728792003956564819949 / 340282366920938463463374607431768211456 % 65536), (W.numD (W.sl (W.sq (W.subG l m) W.z16 16)) % 57896044618658097711785492504343953926634992332820282019728792003956564819949 / 22300745198530623141535718272648361505980416 % 65536), (W.numD (W.sl (W.sq (W.subG l m) W.z16 16)) % 57896044618658097711785492504343953926634992332820282019728792003956564819949 / 1461501637330902918203684832716283019655932542976 % 65536), (W.numD (W.sl (W.sq (W.subG l m) W.z16 16)) % 57896044618658097711785492504343953926634992332820282019728792003956564819949 / 95780971304118053647396689196894323976171195136475136 % 65536), (W.numD (W.sl (W.sq (W.subG l m) W.z16 16)) % 57896044618658097711785492504343953926634992332820282019728792003956564819949 / 6277101735386680763835789423207666416102355444464034512896 % 65536), (W.numD (W.sl (W.sq (W.subG l m) W.z16 16)) % 57896044618658097711785492504343953926634992332820282019728792003956564819949 / 411376139330301510538742295639337626245683966408394965837152256 % 65536), (W.numD (W.sl (W.sq (W.subG l m) W.z16 16)) % 57896044618658097711785492504343953926634992332820282019728792003956564819949 / 26959946667150639794667015087019630673637144422540572481103610249216 % 65536), (W.numD (W.sl (W.sq (W.subG l m) W.z16 16)) % 57896044618658097711785492504343953926634992332820282019728792003956564819949 / 1766847064778384329583297500742918515827483896875618958121606201292619776 % 65536)])) (up := []) (kill := []) (n0 := 2) (m := [(0, (.one ⟨false, false, (.ints .u64 (W.pr))⟩))]) (args := [(.aggi .u64 l), (.aggi .u64 m)]) (fn := Tryd.f20) (c := bodyOf Tryd.f20) (fuel := 300) (k := kOf Tryd.prog Tryd.f20) (outs := []) (hs := [(6, ⟨.sum ⟨[2, 3, 4, 6, 5, 7], [0, 2, 18, 34, 66], [], 98⟩ (.exit 0) (LSI l m 16 (W.sl (W.sq (W.subG l m) W.z16 16))), none⟩), (7, ⟨.ask, some (.aggi .u64 (W.sl (W.sq (W.subG l m) W.z16 16)))⟩), (8, ⟨.call [0] (.aggi .u64 (W.d16 (W.numD (W.sl (W.sq (W.subG l m) W.z16 16)) % 57896044618658097711785492504343953926634992332820282019728792003956564819949))) [] [], none⟩)])
    (cs := [Contract Tryd.prog 35 [(.aggi .u64 (W.sl (W.sq (W.subG l m) W.z16 16)))] [(0, (.one ⟨false, false, (.ints .u64 (W.pr))⟩))] 114 (.aggi .u64 (W.d16 (W.numD (W.sl (W.sq (W.subG l m) W.z16 16)) % 57896044618658097711785492504343953926634992332820282019728792003956564819949))) [] [],
      ((.aggi .u64 (List.take 16 (W.sl (W.sq (W.subG l m) W.z16 16)))) : V) = (.aggi .u64 (W.sl (W.sq (W.subG l m) W.z16 16))),
      ((16 : Nat) ≤ List.length (W.sl (W.sq (W.subG l m) W.z16 (16 : Nat)))),
      CodeOk Tryd.prog 41 98 (kAt (kOf Tryd.prog Tryd.f20) [true, true, true, false, true, false]) (LS0 l m) (.exit 0) (LSI l m 16 (W.sl (W.sq (W.subG l m) W.z16 16)))])
    mixed Tryd.func20 (by kernel_rfl) (by kernel_rfl) (by kernel_rfl) (by kernel_rfl) (by kernel_rfl) ⟨Contract0.glob (frz_ok (W.sl (W.sq (W.subG l m) W.z16 16)) (by omega) (by omega)) pr_glob (by kernel_rfl) (by kernel_rfl) (by kernel_rfl) (by kernel_rfl) 114, EV.aggi (List.take_of_length_le (by omega)), (by omega), (sbl l m (by omega) (by omega) (by omega) (by omega) (by omega)), trivial⟩)


theorem fromr (b : List Int)
    (hb : b.length = 32)
    (hd : W.dg 256 b)
    (hq : (W.sl (W.sq (W.frG b) W.z16 16)).length = 16)
    (hx : 0 ≤ (List.getD (W.sl (W.sq (W.frG b) W.z16 16)) 15 0) ∧ (List.getD (W.sl (W.sq (W.frG b) W.z16 16)) 15 0) < 65536)
    (hr : W.dg 1099511627776 ((W.sl (W.sq (W.frG b) W.z16 16)).set 15 (Int.tmod (List.getD (W.sl (W.sq (W.frG b) W.z16 16)) 15 0) 32768))) :
    Contract0 Tryd.prog 9 [(.aggi .u8 b)] [(0, (.one ⟨false, false, (.ints .u64 (W.pr))⟩))] 2 (.aggi .u64 (W.d16 (W.numD ((W.sl (W.sq (W.frG b) W.z16 16)).set 15 (Int.tmod (List.getD (W.sl (W.sq (W.frG b) W.z16 16)) 15 0) 32768)) % W.pn))) [] [] :=
  Contract0.told (res := (.aggi .u64 [(W.numD (splice (W.sl (W.sq (W.frG b) W.z16 16)) 15 [Int.tmod (List.getD (W.sl (W.sq (W.frG b) W.z16 16)) 15 0) 32768]) % 57896044618658097711785492504343953926634992332820282019728792003956564819949 % 65536), (W.numD (splice (W.sl (W.sq (W.frG b) W.z16 16)) 15 [Int.tmod (List.getD (W.sl (W.sq (W.frG b) W.z16 16)) 15 0) 32768]) % 57896044618658097711785492504343953926634992332820282019728792003956564819949 / 65536 % 65536), (W.numD (splice (W.sl (W.sq (W.frG b) W.z16 16)) 15 [Int.tmod (List.getD (W.sl (W.sq (W.frG b) W.z16 16)) 15 0) 32768]) % 57896044618658097711785492504343953926634992332820282019728792003956564819949 / 4294967296 % 65536), (W.numD (splice (W.sl (W.sq (W.frG b) W.z16 16)) 15 [Int.tmod (List.getD (W.sl (W.sq (W.frG b) W.z16 16)) 15 0) 32768]) % 57896044618658097711785492504343953926634992332820282019728792003956564819949 / 281474976710656 % 65536), (W.numD (splice (W.sl (W.sq (W.frG b) W.z16 16)) 15 [Int.tmod (List.getD (W.sl (W.sq (W.frG b) W.z16 16)) 15 0) 32768]) % 57896044618658097711785492504343953926634992332820282019728792003956564819949 / 18446744073709551616 % 65536), (W.numD (splice (W.sl (W.sq (W.frG b) W.z16 16)) 15 [Int.tmod (List.getD (W.sl (W.sq (W.frG b) W.z16 16)) 15 0) 32768]) % 57896044618658097711785492504343953926634992332820282019728792003956564819949 / 1208925819614629174706176 % 65536), (W.numD (splice (W.sl (W.sq (W.frG b) W.z16 16)) 15 [Int.tmod (List.getD (W.sl (W.sq (W.frG b) W.z16 16)) 15 0) 32768]) % 57896044618658097711785492504343953926634992332820282019728792003956564819949 / 79228162514264337593543950336 % 65536), (W.numD (splice (W.sl (W.sq (W.frG b) W.z16 16)) 15 [Int.tmod (List.getD (W.sl (W.sq (W.frG b) W.z16 16)) 15 0) 32768]) % 57896044618658097711785492504343953926634992332820282019728792003956564819949 / 5192296858534827628530496329220096 % 65536), (W.numD (splice (W.sl (W.sq (W.frG b) W.z16 16)) 15 [Int.tmod (List.getD (W.sl (W.sq (W.frG b) W.z16 16)) 15 0) 32768]) % 57896044618658097711785492504343953926634992332820282019728792003956564819949 / 340282366920938463463374607431768211456 % 65536), (W.numD (splice (W.sl (W.sq (W.frG b) W.z16 16)) 15 [Int.tmod (List.getD (W.sl (W.sq (W.frG b) W.z16 16)) 15 0) 32768]) % 57896044618658097711785492504343953926634992332820282019728792003956564819949 / 22300745198530623141535718272648361505980416 % 65536), (W.numD (splice (W.sl (W.sq (W.frG b) W.z16 16)) 15 [Int.tmod (List.getD (W.sl (W.sq (W.frG b) W.z16 16)) 15 0) 32768]) % 57896044618658097711785492504343953926634992332820282019728792003956564819949 / 1461501637330902918203684832716283019655932542976 % 65536), (W.numD (splice (W.sl (W.sq (W.frG b) W.z16 16)) 15 [Int.tmod (List.getD (W.sl (W.sq (W.frG b) W.z16 16)) 15 0) 32768]) % 57896044618658097711785492504343953926634992332820282019728792003956564819949 / 95780971304118053647396689196894323976171195136475136 % 65536), (W.numD (splice (W.sl (W.sq (W.frG b) W.z16 16)) 15 [Int.tmod (List.getD (W.sl (W.sq (W.frG b) W.z16 16)) 15 0) 32768]) % 57896044618658097711785492504343953926634992332820282019728792003956564819949 / 6277101735386680763835789423207666416102355444464034512896 % 65536), (W.numD (splice (W.sl (W.sq (W.frG b) W.z16 16)) 15 [Int.tmod (List.getD (W.sl (W.sq (W.frG b) W.z16 16)) 15 0) 32768]) % 57896044618658097711785492504343953926634992332820282019728792003956564819949 / 411376139330301510538742295639337626245683966408394965837152256 % 65536), (W.numD (splice (W.sl (W.sq (W.frG b) W.z16 16)) 15 [Int.tmod (List.getD (W.sl (W.sq (W.frG b) W.z16 16)) 15 0) 32768]) % 57896044618658097711785492504343953926634992332820282019728792003956564819949 / 26959946667150639794667015087019630673637144422540572481103610249216 % 65536), (W.numD (splice (W.sl (W.sq (W.frG b) W.z16 16)) 15 [Int.tmod (List.getD (W.sl (W.sq (W.frG b) W.z16 16)) 15 0) 32768]) % 57896044618658097711785492504343953926634992332820282019728792003956564819949 / 1766847064778384329583297500742918515827483896875618958121606201292619776 % 65536)])) (up := []) (res' := (.aggi .u64 (W.d16 (W.numD ((W.sl (W.sq (W.frG b) W.z16 16)).set 15 (Int.tmod (List.getD (W.sl (W.sq (W.frG b) W.z16 16)) 15 0) 32768)) % W.pn)))) (up' := []) (by rfl) (by rfl) (Contract0.of_frun (res := (.aggi .u64 [(W.numD (splice (W.sl (W.sq (W.frG b) W.z16 16)) 15 [Int.tmod (List.getD (W.sl (W.sq (W.frG b) W.z16 16)) 15 0) 32768]) % 57896044618658097711785492504343953926634992332820282019728792003956564819949 % 65536), (W.numD (splice (W.sl (W.sq (W.frG b) W.z16 16)) 15 [Int.tmod (List.getD (W.sl (W.sq (W.frG b) W.z16 16)) 15 0) 32768]) % 57896044618658097711785492504343953926634992332820282019728792003956564819949 / 65536 % 65536), (W.numD (splice (W.sl (W.sq (W.frG b) W.z16 16)) 15 [Int.tmod (List.getD (W.sl (W.sq (W.frG b) W.z16 16)) 15 0) 32768]) % 57896044618658097711785492504343953926634992332820282019728792003956564819949 / 4294967296 % 65536), (W.numD (splice (W.sl (W.sq (W.frG b) W.z16 16)) 15 [Int.tmod (List.getD (W.sl (W.sq (W.frG b) W.z16 16)) 15 0) 32768]) % 57896044618658097711785492504343953926634992332820282019728792003956564819949 / 281474976710656 % 65536), (W.numD (splice (W.sl (W.sq (W.frG b) W.z16 16)) 15 [Int.tmod (List.getD (W.sl (W.sq (W.frG b) W.z16 16)) 15 0) 32768]) % 57896044618658097711785492504343953926634992332820282019728792003956564819949 / 18446744073709551616 % 65536), (W.numD (splice (W.sl (W.sq (W.frG b) W.z16 16)) 15 [Int.tmod (List.getD (W.sl (W.sq (W.frG b) W.z16 16)) 15 0) 32768]) % 57896044618658097711785492504343953926634992332820282019728792003956564819949 / 1208925819614629174706176 % 65536), (W.numD (splice (W.sl (W.sq (W.frG b) W.z16 16)) 15 [Int.tmod (List.getD (W.sl (W.sq (W.frG b) W.z16 16)) 15 0) 32768]) % 57896044618658097711785492504343953926634992332820282019728792003956564819949 / 79228162514264337593543950336 % 65536), (W.numD (splice (W.sl (W.sq (W.frG b) W.z16 16)) 15 [Int.tmod (List.getD (W.sl (W.sq (W.frG b) W.z16 16)) 15 0) 32768]) % 57896044618658097711785492504343953926634992332820282019728792003956564819949 / 5192296858534827628530496329220096 % 65536), (W.numD (splice (W.sl (W.sq (W.frG b) W.z16 16)) 15 [Int.tmod (List.getD (W.sl (W.sq (W.frG b) W.z16 16)) 15 0) 32768]) % 57896044618658097711785492504343953926634992332820282019728792003956564819949 / 340282366920938463463374607431768211456 % 65536), (W.numD (splice (W.sl (W.sq (W.frG b) W.z16 16)) 15 [Int.tmod (List.getD (W.sl (W.sq (W.frG b) W.z16 16)) 15 0) 32768]) % 57896044618658097711785492504343953926634992332820282019728792003956564819949 / 22300745198530623141535718272648361505980416 % 65536), (W.numD (splice (W.sl (W.sq (W.frG b) W.z16 16)) 15 [Int.tmod (List.getD (W.sl (W.sq (W.frG b) W.z16 16)) 15 0) 32768]) % 57896044618658097711785492504343953926634992332820282019728792003956564819949 / 1461501637330902918203684832716283019655932542976 % 65536), (W.numD (splice (W.sl (W.sq (W.frG b) W.z16 16)) 15 [Int.tmod (List.getD (W.sl (W.sq (W.frG b) W.z16 16)) 15 0) 32768]) % 57896044618658097711785492504343953926634992332820282019728792003956564819949 / 95780971304118053647396689196894323976171195136475136 % 65536), (W.numD (splice (W.sl (W.sq (W.frG b) W.z16 16)) 15 [Int.tmod (List.getD (W.sl (W.sq (W.frG b) W.z16 16)) 15 0) 32768]) % 57896044618658097711785492504343953926634992332820282019728792003956564819949 / 6277101735386680763835789423207666416102355444464034512896 % 65536), (W.numD (splice (W.sl (W.sq (W.frG b) W.z16 16)) 15 [Int.tmod (List.getD (W.sl (W.sq (W.frG b) W.z16 16)) 15 0) 32768]) % 57896044618658097711785492504343953926634992332820282019728792003956564819949 / 411376139330301510538742295639337626245683966408394965837152256 % 65536), (W.numD (splice (W.sl (W.sq (W.frG b) W.z16 16)) 15 [Int.tmod (List.getD (W.sl (W.sq (W.frG b) W.z16 16)) 15 0) 32768]) % 57896044618658097711785492504343953926634992332820282019728792003956564819949 / 26959946667150639794667015087019630673637144422540572481103610249216 % 65536), (W.numD (splice (W.sl (W.sq (W.frG b) W.z16 16)) 15 [Int.tmod (List.getD (W.sl (W.sq (W.frG b) W.z16 16)) 15 0) 32768]) % 57896044618658097711785492504343953926634992332820282019728792003956564819949 / 1766847064778384329583297500742918515827483896875618958121606201292619776 % 65536)])) (up := []) (kill := []) (n0 := 2) (m := [(0, (.one ⟨false, false, (.ints .u64 (W.pr))⟩))]) (args := [(.aggi .u8 b)]) (fn := Tryd.f9) (c := bodyOf Tryd.f9) (fuel := 300) (k := kOf Tryd.prog Tryd.f9) (outs := []) (hs := [(4, ⟨.sum ⟨[1, 2, 3, 4], [0, 2, 18, 34], [], 66⟩ (.exit 0) (LQI b 16 (W.sl (W.sq (W.frG b) W.z16 16))), none⟩), (6, ⟨.ask, none⟩), (9, ⟨.ask, none⟩), (10, ⟨.ask, some (.aggi .u64 (splice (W.sl (W.sq (W.frG b) W.z16 16)) 15 [Int.tmod (List.getD (W.sl (W.sq (W.frG b) W.z16 16)) 15 0) 32768]))⟩), (11, ⟨.call [0] (.aggi .u64 (W.d16 (W.numD (splice (W.sl (W.sq (W.frG b) W.z16 16)) 15 [Int.tmod (List.getD (W.sl (W.sq (W.frG b) W.z16 16)) 15 0) 32768]) % 57896044618658097711785492504343953926634992332820282019728792003956564819949))) [] [], none⟩)])
    (cs := [Contract Tryd.prog 35 [(.aggi .u64 (splice (W.sl (W.sq (W.frG b) W.z16 16)) 15 [Int.tmod (List.getD (W.sl (W.sq (W.frG b) W.z16 16)) 15 0) 32768]))] [(0, (.one ⟨false, false, (.ints .u64 (W.pr))⟩))] 162 (.aggi .u64 (W.d16 (W.numD (splice (W.sl (W.sq (W.frG b) W.z16 16)) 15 [Int.tmod (List.getD (W.sl (W.sq (W.frG b) W.z16 16)) 15 0) 32768]) % 57896044618658097711785492504343953926634992332820282019728792003956564819949))) [] [],
      ((.aggi .u64 (List.take 16 (splice (W.sl (W.sq (W.frG b) W.z16 16)) 15 [Int.tmod (List.getD (W.sl (W.sq (W.frG b) W.z16 16)) 15 0) 32768]))) : V) = (.aggi .u64 (splice (W.sl (W.sq (W.frG b) W.z16 16)) 15 [Int.tmod (List.getD (W.sl (W.sq (W.frG b) W.z16 16)) 15 0) 32768])),
      ((16 : Nat) ≤ List.length (splice (W.sl (W.sq (W.frG b) W.z16 (16 : Nat))) (15 : Nat) [Int.tmod (List.getD (W.sl (W.sq (W.frG b) W.z16 (16 : Nat))) (15 : Nat) (0 : Int)) (32768 : Int)])),
      ((16 : Nat) ≤ List.length (W.sl (W.sq (W.frG b) W.z16 (16 : Nat))) ∧ (1 : Nat) = (1 : Nat)),
      ((16 : Nat) ≤ List.length (W.sl (W.sq (W.frG b) W.z16 (16 : Nat)))),
      CodeOk Tryd.prog 30 66 (kAt (kOf Tryd.prog Tryd.f9) [true, true, false, true, false]) (LQ0 b) (.exit 0) (LQI b 16 (W.sl (W.sq (W.frG b) W.z16 16)))])
    mixed Tryd.func9 (by kernel_rfl) (by kernel_rfl) (by kernel_rfl) (by kernel_rfl) (by kernel_rfl) ⟨Contract0.glob (frz_ok (splice (W.sl (W.sq (W.frG b) W.z16 16)) 15 [Int.tmod (List.getD (W.sl (W.sq (W.frG b) W.z16 16)) 15 0) 32768]) (by simp only [and_true, List.length_set, List.length_append, List.length_replicate, List.length_take, List.length_drop, List.length_map, List.length_cons, List.length_nil, List.length_zipWith, splice_len1, W.le_len, W.bts_len, Int.toNat_natCast, addO_eq, mulE_eq, mulE_one]; omega) (by exact hr)) pr_glob (by kernel_rfl) (by kernel_rfl) (by kernel_rfl) (by kernel_rfl) 162, EV.aggi (List.take_of_length_le (by simp only [and_true, List.length_set, List.length_append, List.length_replicate, List.length_take, List.length_drop, List.length_map, List.length_cons, List.length_nil, List.length_zipWith, splice_len1, W.le_len, W.bts_len, Int.toNat_natCast, addO_eq, mulE_eq, mulE_one]; omega)), (by simp only [and_true, List.length_set, List.length_append, List.length_replicate, List.length_take, List.length_drop, List.length_map, List.length_cons, List.length_nil, List.length_zipWith, splice_len1, W.le_len, W.bts_len, Int.toNat_natCast, addO_eq, mulE_eq, mulE_one]; omega), (by omega), (by omega), (frml b (by omega) (by omega)), trivial⟩)


def LNI (l m : List Int) (a : Nat) (v : List Int) : S0 :=
  ⟨[(2, (.c (.ptr 2 0 0))), (3, (.c (.ptr 18 0 0))), (4, (.c (.ptr 34 0 0))), (5, (.c (.ptr 50 0 0))), (6, (.c (.int .i64 ((↑a : Int)))))], [(0, (.one ⟨false, false, (.ints .u64 (W.pr))⟩)), (2, (.one ⟨true, true, (.ints .u64 l)⟩)), (18, (.one ⟨true, true, (.ints .u64 m)⟩)), (34, (.one ⟨true, true, (.ints .u64 [0, 0, 0, 0, 0, 0, 0, 0, 0, 0, 0, 0, 0, 0, 0, 0])⟩)), (50, (.one ⟨true, true, (.ints .u64 v)⟩))], 82⟩
theorem LN_by {α : Type} (I : α → S0) (Inv : α → Prop) (μ : α → Nat) {ex : Ex} {s' : S0} (hex : ex ≠ .normal)
    (step : ∀ x, Inv x → (∃ y, Inv y ∧ μ y < μ x ∧ CodeOk Tryd.prog 75 82 (kAt (kOf Tryd.prog Tryd.f14) [true, true, false, true, false, false]) (I x) .normal (I y)) ∨ CodeOk Tryd.prog 75 82 (kAt (kOf Tryd.prog Tryd.f14) [true, true, false, true, false, false]) (I x) ex s') (x : α) (hx : Inv x) :
    CodeOk Tryd.prog 75 82 (kAt (kOf Tryd.prog Tryd.f14) [true, true, false, true, false]) (I x) ex s' := by
  have hk : (kAt (kOf Tryd.prog Tryd.f14) [true, true, false, true, false]) = .loop (kAt (kOf Tryd.prog Tryd.f14) [true, true, false, true, false, false]) := by kernel_rfl
  rw [hk]
  exact CodeOk.loop I Inv μ hex step x hx
def LN0 (l m : List Int) : S0 :=
  ⟨[(2, (.c (.ptr 2 0 0))), (3, (.c (.ptr 18 0 0))), (4, (.c (.ptr 34 0 0))), (5, (.c (.ptr 50 0 0))), (6, (.c (.int .i64 0)))], [(0, (.one ⟨false, false, (.ints .u64 (W.pr))⟩)), (2, (.one ⟨true, true, (.ints .u64 l)⟩)), (18, (.one ⟨true, true, (.ints .u64 m)⟩)), (34, (.one ⟨true, true, (.ints .u64 [0, 0, 0, 0, 0, 0, 0, 0, 0, 0, 0, 0, 0, 0, 0, 0])⟩)), (50, (.one ⟨true, true, (.ints .u64 [0, 0, 0, 0, 0, 0, 0, 0, 0, 0, 0, 0, 0, 0, 0, 0, 0, 0, 0, 0, 0, 0, 0, 0, 0, 0, 0, 0, 0, 0, 0, 0])⟩))], 82⟩
theorem LN_rt (l m : List Int) (a : Nat) (v : List Int)
    (hl : l.length = 16)
    (hm : m.length = 16)
    (hd : W.dg 65536 l)
    (he : W.dg 65536 m)
    (ha : a ≤ 16)
    (hv : v.length = 32)
    (hb : W.dg 68719476736 v)
    (h1 : ((↑a : Int) < (16 : Int))) :
    CodeOk Tryd.prog 75 82 (kAt (kOf Tryd.prog Tryd.f14) [true, true, false, true, false, false]) (LNI l m a v) .normal (LNI l m (a + 1) (W.mi l m a v 16)) :=
  CodeOk.of_runs (fuel := 300) (v := ⟨[2, 3, 4, 5, 6], [0, 2, 18, 34, 50], [], 82⟩) (hs := [(1, ⟨.auto, some (.c (.bool (true)))⟩), (4, ⟨.sum ⟨[2, 3, 4, 5, 6, 7], [0, 2, 18, 34, 50], [], 130⟩ (.exit 2) (LMI l m a 16 (W.mi l m a v 16)), none⟩), (6, ⟨.auto, some (.c (.int .i64 (↑(a + 1))))⟩)])
    (cs := [EI .i64 (IntKind.wrap IntKind.i64 ((↑a : Int) + 1)) ((↑(a + 1) : Int)),
      CodeOk Tryd.prog 75 130 (kAt (kOf Tryd.prog Tryd.f14) [true, true, false, true, false, false, true, false, false, true, false]) (LMI l m a 0 v) (.exit 2) (LMI l m a 16 (W.mi l m a v 16)),
      EB (decide ((↑a : Int) < 16)) true])
    mixed (by kernel_rfl) ⟨.mk (by simp only [addO_eq, mulE_eq, mulE_one, Int.toNat_natCast, IntKind.wrap_i64, mmin, mmax]; omega), (mil l m v a (by omega) (by omega) (by omega) (by omega) (by omega) (by omega) (by omega)), .mk (decide_eq_true h1), trivial⟩
theorem LN_xf (l m : List Int) (a : Nat) (v : List Int)
    (hl : l.length = 16)
    (hm : m.length = 16)
    (hd : W.dg 65536 l)
    (he : W.dg 65536 m)
    (ha : a ≤ 16)
    (hv : v.length = 32)
    (hb : W.dg 68719476736 v)
    (h1 : (¬(↑a : Int) < (16 : Int))) :
    CodeOk Tryd.prog 75 82 (kAt (kOf Tryd.prog Tryd.f14) [true, true, false, true, false, false]) (LNI l m a v) (.exit 0) (LNI l m a v) :=
  CodeOk.of_runs (fuel := 300) (v := ⟨[2, 3, 4, 5, 6], [0, 2, 18, 34, 50], [], 82⟩) (hs := [(1, ⟨.auto, some (.c (.bool (false)))⟩)])
    (cs := [EB (decide ((↑a : Int) < 16)) false])
    mixed (by kernel_rfl) ⟨.mk (decide_eq_false h1), trivial⟩

end Go.Proofs.YtkjbjgkjplmkhaaDoor.Vm

namespace Go.Proofs.YtkjbjgkjplmkhaaDoor.Vm
open Go Go.Proofs Go.Proofs.YtkjbjgkjplmkhaaDoor
theorem mol (l m : List Int) (hl : l.length = 16) (hm : m.length = 16) (hd : W.dg 65536 l) (he : W.dg 65536 m) :
    CodeOk Tryd.prog 75 82 (kAt (kOf Tryd.prog Tryd.f14) [true, true, false, true, false]) (LN0 l m) (.exit 0) (LNI l m 16 (W.sl (W.mo l m 16))) := by
  rw [W.sl_eq]
  refine LN_by (fun a : Nat => LNI l m a (W.mo l m a)) (fun a => a ≤ 16) (fun a => 16 - a) (by simp) ?_ 0 (by decide)
  intro a ha
  have o := W.mo_ok hl hm hd he a ha
  have hb : W.dg 68719476736 (W.mo l m a) := fun j => by have := o.dg j; omega
  by_cases h : a < 16
  · exact .inl ⟨a + 1, h, by omega, LN_rt l m a (W.mo l m a) hl hm hd he ha o.len hb (by omega)⟩
  · have e : a = 16 := by omega
    subst e
    exact .inr (LN_xf l m 16 (W.mo l m 16) hl hm hd he ha o.len hb (by omega))
end Go.Proofs.YtkjbjgkjplmkhaaDoor.Vm

namespace Go.Proofs.YtkjbjgkjplmkhaaDoor.Vm
open Go Go.Proofs Go.Proofs.YtkjbjgkjplmkhaaDoor
set_option maxRecDepth 100000
noncomputable def LOI (i : Nat) (v : List Int) : S0 :=
  ⟨[(4, (.c (.ptr 34 0 0))), (5, (.c (.ptr 50 0 0))), (8, (.c (.int .i64 ((↑i : Int)))))], [(0, (.one ⟨false, false, (.ints .u64 (W.pr))⟩)), (34, (.one ⟨true, true, (.ints .u64 [0, 0, 0, 0, 0, 0, 0, 0, 0, 0, 0, 0, 0, 0, 0, 0])⟩)), (50, (.one ⟨true, true, (.ints .u64 v)⟩))], 98⟩
theorem LO_by {α : Type} (I : α → S0) (Inv : α → Prop) (μ : α → Nat) {ex : Ex} {s' : S0} (hex : ex ≠ .normal)
    (step : ∀ x, Inv x → (∃ y, Inv y ∧ μ y < μ x ∧ CodeOk Tryd.prog 75 98 (kAt (kOf Tryd.prog Tryd.f14) [true, true, true, false, true, false, false]) (I x) .normal (I y)) ∨ CodeOk Tryd.prog 75 98 (kAt (kOf Tryd.prog Tryd.f14) [true, true, true, false, true, false, false]) (I x) ex s') (x : α) (hx : Inv x) :
    CodeOk Tryd.prog 75 98 (kAt (kOf Tryd.prog Tryd.f14) [true, true, true, false, true, false]) (I x) ex s' := by
  have hk : (kAt (kOf Tryd.prog Tryd.f14) [true, true, true, false, true, false]) = .loop (kAt (kOf Tryd.prog Tryd.f14) [true, true, true, false, true, false, false]) := by kernel_rfl
  rw [hk]
  exact CodeOk.loop I Inv μ hex step x hx
noncomputable def LO0 (l m : List Int) : S0 :=
  ⟨[(4, (.c (.ptr 34 0 0))), (5, (.c (.ptr 50 0 0))), (8, (.c (.int .i64 0)))], [(0, (.one ⟨false, false, (.ints .u64 (W.pr))⟩)), (34, (.one ⟨true, true, (.ints .u64 [0, 0, 0, 0, 0, 0, 0, 0, 0, 0, 0, 0, 0, 0, 0, 0])⟩)), (50, (.one ⟨true, true, (.ints .u64 (W.sl (W.mo l m 16)))⟩))], 98⟩
theorem LO_rt (l m : List Int) (i : Nat) (v : List Int)
    (hl : l.length = 16)
    (hm : m.length = 16)
    (hd : W.dg 65536 l)
    (he : W.dg 65536 m)
    (hmo : (W.sl (W.mo l m 16)).length = 32)
    (hi : i ≤ 31)
    (hv : v.length = 32)
    (hx : 0 ≤ (List.getD v i 0) ∧ (List.getD v i 0) < 137438953472)
    (hy : 0 ≤ (List.getD v (i + 1) 0) ∧ (List.getD v (i + 1) 0) < 137438953472)
    (h1 : ((↑i : Int) < (31 : Int))) :
    CodeOk Tryd.prog 75 98 (kAt (kOf Tryd.prog Tryd.f14) [true, true, true, false, true, false, false]) (LOI i v) .normal (LOI (i + 1) (splice (splice v (i + 1) [List.getD v (i + 1) 0 + List.getD v i 0 / 65536]) i [bAnd IntKind.u64 (List.getD (splice v (i + 1) [List.getD v (i + 1) 0 + List.getD v i 0 / 65536]) i 0) 65535])) :=
  CodeOk.of_runs (fuel := 300) (v := ⟨[4, 5, 8], [0, 34, 50], [], 98⟩) (hs := [(1, ⟨.auto, some (.c (.bool (true)))⟩), (4, ⟨.auto, some (.c (.int .i64 (↑(i + 1))))⟩), (6, ⟨.auto, some (.c (.int .i64 (↑(i + 1))))⟩), (7, ⟨.ask, none⟩), (8, ⟨.ask, none⟩), (10, ⟨.ask, none⟩), (11, ⟨.ask, none⟩), (13, ⟨.auto, some (.c (.int .u64 (List.getD v (i + 1) 0 + List.getD v i 0 / 65536)))⟩), (14, ⟨.ask, none⟩), (15, ⟨.ask, none⟩), (18, ⟨.ask, none⟩), (19, ⟨.ask, none⟩), (21, ⟨.ask, none⟩), (22, ⟨.ask, none⟩), (24, ⟨.auto, some (.c (.int .i64 (↑(i + 1))))⟩)])
    (cs := [EI .i64 (IntKind.wrap IntKind.i64 ((↑i : Int) + 1)) ((↑(i + 1) : Int)),
      (i + (1 : Nat) ≤ List.length (splice v (i + (1 : Nat)) [List.getD v (i + (1 : Nat)) (0 : Int) + List.getD v i (0 : Int) / (65536 : Int)]) ∧ (1 : Nat) = (1 : Nat)),
      ((0 : Int) ≤ (↑i : Int) ∧ (↑i : Int) < (32 : Int)),
      (i + (1 : Nat) ≤ List.length (splice v (i + (1 : Nat)) [List.getD v (i + (1 : Nat)) (0 : Int) + List.getD v i (0 : Int) / (65536 : Int)])),
      ((0 : Int) ≤ (↑i : Int) ∧ (↑i : Int) < (32 : Int)),
      (i + (1 : Nat) + (1 : Nat) ≤ List.length v ∧ (1 : Nat) = (1 : Nat)),
      ((0 : Int) ≤ (↑(i + (1 : Nat)) : Int) ∧ (↑(i + (1 : Nat)) : Int) < (32 : Int)),
      EI .u64 ((List.getD v (i + 1) 0 + List.getD v i 0 / 65536) % 18446744073709551616) (List.getD v (i + 1) 0 + List.getD v i 0 / 65536),
      (i + (1 : Nat) ≤ List.length v),
      ((0 : Int) ≤ (↑i : Int) ∧ (↑i : Int) < (32 : Int)),
      (i + (1 : Nat) + (1 : Nat) ≤ List.length v),
      ((0 : Int) ≤ (↑(i + (1 : Nat)) : Int) ∧ (↑(i + (1 : Nat)) : Int) < (32 : Int)),
      EI .i64 (IntKind.wrap IntKind.i64 ((↑i : Int) + 1)) ((↑(i + 1) : Int)),
      EI .i64 (IntKind.wrap IntKind.i64 ((↑i : Int) + 1)) ((↑(i + 1) : Int)),
      EB (decide ((↑i : Int) < 31)) true])
    mixed (by kernel_rfl) ⟨.mk (by simp only [addO_eq, mulE_eq, mulE_one, Int.toNat_natCast, IntKind.wrap_i64, mmin, mmax]; omega), (by simp only [and_true, List.length_set, List.length_append, List.length_replicate, List.length_take, List.length_drop, List.length_map, List.length_cons, List.length_nil, List.length_zipWith, splice_len1, W.le_len, W.bts_len, Int.toNat_natCast, addO_eq, mulE_eq, mulE_one]; omega), (by omega), (by simp only [and_true, List.length_set, List.length_append, List.length_replicate, List.length_take, List.length_drop, List.length_map, List.length_cons, List.length_nil, List.length_zipWith, splice_len1, W.le_len, W.bts_len, Int.toNat_natCast, addO_eq, mulE_eq, mulE_one]; omega), (by omega), (by omega), (by omega), .mk (by omega), (by omega), (by omega), (by omega), (by omega), .mk (by simp only [addO_eq, mulE_eq, mulE_one, Int.toNat_natCast, IntKind.wrap_i64, mmin, mmax]; omega), .mk (by simp only [addO_eq, mulE_eq, mulE_one, Int.toNat_natCast, IntKind.wrap_i64, mmin, mmax]; omega), .mk (decide_eq_true h1), trivial⟩
theorem LO_xf (l m : List Int) (i : Nat) (v : List Int)
    (hl : l.length = 16)
    (hm : m.length = 16)
    (hd : W.dg 65536 l)
    (he : W.dg 65536 m)
    (hmo : (W.sl (W.mo l m 16)).length = 32)
    (hi : i ≤ 31)
    (hv : v.length = 32)
    (hx : 0 ≤ (List.getD v i 0) ∧ (List.getD v i 0) < 137438953472)
    (hy : 0 ≤ (List.getD v (i + 1) 0) ∧ (List.getD v (i + 1) 0) < 137438953472)
    (h1 : (¬(↑i : Int) < (31 : Int))) :
    CodeOk Tryd.prog 75 98 (kAt (kOf Tryd.prog Tryd.f14) [true, true, true, false, true, false, false]) (LOI i v) (.exit 4) (LOI i v) :=
  CodeOk.of_runs (fuel := 300) (v := ⟨[4, 5, 8], [0, 34, 50], [], 98⟩) (hs := [(1, ⟨.auto, some (.c (.bool (false)))⟩)])
    (cs := [EB (decide ((↑i : Int) < 31)) false])
    mixed (by kernel_rfl) ⟨.mk (decide_eq_false h1), trivial⟩

end Go.Proofs.YtkjbjgkjplmkhaaDoor.Vm

namespace Go.Proofs.YtkjbjgkjplmkhaaDoor.Vm
open Go Go.Proofs Go.Proofs.YtkjbjgkjplmkhaaDoor
theorem mo_b {l m : List Int} (hl : l.length = 16) (hm : m.length = 16) (hd : W.dg 65536 l) (he : W.dg 65536 m) : (W.mo l m 16).length = 32 ∧ ∀ j, 0 ≤ (W.mo l m 16).getD j 0 ∧ (W.mo l m 16).getD j 0 < 68719476736 := by
  have o := W.mo_ok hl hm hd he 16 (by decide)
  exact ⟨o.len, fun j => by have := o.dg j; omega⟩
theorem col (l m : List Int) (hl : l.length = 16) (hm : m.length = 16) (hd : W.dg 65536 l) (he : W.dg 65536 m) :
    CodeOk Tryd.prog 75 98 (kAt (kOf Tryd.prog Tryd.f14) [true, true, true, false, true, false]) (LO0 l m) (.exit 4) (LOI 31 (W.sl (W.ca (W.sl (W.mo l m 16)) 31))) := by
  obtain ⟨len, hb⟩ := mo_b hl hm hd he
  have hs : (W.sl (W.mo l m 16)).length = 32 := by rw [W.sl_eq]; exact len
  have hc : ∀ j, 0 ≤ (W.sl (W.mo l m 16)).getD j 0 ∧ (W.sl (W.mo l m 16)).getD j 0 < 68719476736 := by rw [W.sl_eq]; exact hb
  rw [W.sl_eq (W.ca _ _)]
  unfold LO0
  generalize hg : W.sl (W.mo l m 16) = w at *
  refine LO_by (fun i : Nat => LOI i (W.ca w i)) (fun i => i ≤ 31) (fun i => 31 - i) (by simp) ?_ 0 (by decide)
  intro i hi
  have o := W.ca_ok hs hc i hi
  have hy : 0 ≤ (W.ca w i).getD (i + 1) 0 ∧ (W.ca w i).getD (i + 1) 0 < 137438953472 := by
    rw [o.hi (i + 1) (by omega)]; have := hc (i + 1); omega
  have hl2 : (W.ca w i).length = 32 := by rw [o.len, hs]
  by_cases h : i < 31
  · refine .inl ⟨i + 1, h, by omega, ?_⟩
    have r := LO_rt l m i (W.ca w i) hl hm hd he (by rw [hg]; exact hs) hi hl2 o.at_ hy (by omega)
    have a := o.at_
    rw [splice1, splice1, W.getD_out (by omega), mask16 (by omega) (by omega)] at r
    exact r
  · have e : i = 31 := by omega
    subst e
    exact .inr (LO_xf l m 31 (W.ca w 31) hl hm hd he (by rw [hg]; exact hs) hi hl2 o.at_ hy (by omega))
end Go.Proofs.YtkjbjgkjplmkhaaDoor.Vm

namespace Go.Proofs.YtkjbjgkjplmkhaaDoor.Vm
open Go Go.Proofs Go.Proofs.YtkjbjgkjplmkhaaDoor
set_option maxRecDepth 100000
noncomputable def LPI (l m : List Int) (i : Nat) (l1 : List Int) : S0 :=
  ⟨[(4, (.c (.ptr 34 0 0))), (5, (.c (.ptr 50 0 0))), (9, (.c (.ptr 98 0 0))), (10, (.c (.int .i64 ((↑i : Int)))))], [(0, (.one ⟨false, false, (.ints .u64 (W.pr))⟩)), (34, (.one ⟨true, true, (.ints .u64 [0, 0, 0, 0, 0, 0, 0, 0, 0, 0, 0, 0, 0, 0, 0, 0])⟩)), (50, (.one ⟨true, true, (.ints .u64 (W.sl (W.ca (W.sl (W.mo l m 16)) 31)))⟩)), (98, (.one ⟨true, true, (.ints .u64 l1)⟩))], 130⟩
theorem LP_by {α : Type} (I : α → S0) (Inv : α → Prop) (μ : α → Nat) {ex : Ex} {s' : S0} (hex : ex ≠ .normal)
    (step : ∀ x, Inv x → (∃ y, Inv y ∧ μ y < μ x ∧ CodeOk Tryd.prog 75 130 (kAt (kOf Tryd.prog Tryd.f14) [true, true, true, true, true, false, true, false, false]) (I x) .normal (I y)) ∨ CodeOk Tryd.prog 75 130 (kAt (kOf Tryd.prog Tryd.f14) [true, true, true, true, true, false, true, false, false]) (I x) ex s') (x : α) (hx : Inv x) :
    CodeOk Tryd.prog 75 130 (kAt (kOf Tryd.prog Tryd.f14) [true, true, true, true, true, false, true, false]) (I x) ex s' := by
  have hk : (kAt (kOf Tryd.prog Tryd.f14) [true, true, true, true, true, false, true, false]) = .loop (kAt (kOf Tryd.prog Tryd.f14) [true, true, true, true, true, false, true, false, false]) := by kernel_rfl
  rw [hk]
  exact CodeOk.loop I Inv μ hex step x hx
noncomputable def LP0 (l m : List Int) : S0 :=
  ⟨[(4, (.c (.ptr 34 0 0))), (5, (.c (.ptr 50 0 0))), (9, (.c (.ptr 98 0 0))), (10, (.c (.int .i64 0)))], [(0, (.one ⟨false, false, (.ints .u64 (W.pr))⟩)), (34, (.one ⟨true, true, (.ints .u64 [0, 0, 0, 0, 0, 0, 0, 0, 0, 0, 0, 0, 0, 0, 0, 0])⟩)), (50, (.one ⟨true, true, (.ints .u64 (W.sl (W.ca (W.sl (W.mo l m 16)) 31)))⟩)), (98, (.one ⟨true, true, (.ints .u64 [0, 0, 0, 0, 0, 0, 0, 0, 0, 0, 0, 0, 0, 0, 0, 0])⟩))], 130⟩
theorem LP_rt (l m : List Int) (i : Nat) (l1 : List Int)
    (hl : l.length = 16)
    (hm : m.length = 16)
    (hd : W.dg 65536 l)
    (he : W.dg 65536 m)
    (hmo : (W.sl (W.mo l m 16)).length = 32)
    (hca : (W.sl (W.ca (W.sl (W.mo l m 16)) 31)).length = 32)
    (hi : i ≤ 16)
    (hx : 0 ≤ (List.getD (W.sl (W.ca (W.sl (W.mo l m 16)) 31)) i 0) ∧ (List.getD (W.sl (W.ca (W.sl (W.mo l m 16)) 31)) i 0) < 65536)
    (hy : 0 ≤ (List.getD (W.sl (W.ca (W.sl (W.mo l m 16)) 31)) (i + 16) 0) ∧ (List.getD (W.sl (W.ca (W.sl (W.mo l m 16)) 31)) (i + 16) 0) < 65536)
    (h2 : ((↑i : Int) < (16 : Int)))
    (c3 : (i + (1 : Nat) ≤ List.length l1 ∧ (1 : Nat) = (1 : Nat))) :
    CodeOk Tryd.prog 75 130 (kAt (kOf Tryd.prog Tryd.f14) [true, true, true, true, true, false, true, false, false]) (LPI l m i l1) .normal (LPI l m (i + 1) (splice l1 i [List.getD (W.sl (W.ca (W.sl (W.mo l m 16)) 31)) i 0 + 38 * List.getD (W.sl (W.ca (W.sl (W.mo l m 16)) 31)) (i + 16) 0])) :=
  CodeOk.of_runs (fuel := 300) (v := ⟨[4, 5, 9, 10], [0, 34, 50, 98], [], 130⟩) (hs := [(1, ⟨.auto, some (.c (.bool (true)))⟩), (5, ⟨.ask, none⟩), (6, ⟨.ask, none⟩), (8, ⟨.auto, some (.c (.int .i64 (↑(i + 16))))⟩), (9, ⟨.ask, none⟩), (10, ⟨.ask, none⟩), (11, ⟨.auto, some (.c (.int .u64 (38 * List.getD (W.sl (W.ca (W.sl (W.mo l m 16)) 31)) (i + 16) 0)))⟩), (12, ⟨.auto, some (.c (.int .u64 (List.getD (W.sl (W.ca (W.sl (W.mo l m 16)) 31)) i 0 + 38 * List.getD (W.sl (W.ca (W.sl (W.mo l m 16)) 31)) (i + 16) 0)))⟩), (13, ⟨.ask, none⟩), (14, ⟨.ask, none⟩), (16, ⟨.auto, some (.c (.int .i64 (↑(i + 1))))⟩)])
    (cs := [EI .i64 (IntKind.wrap IntKind.i64 ((↑i : Int) + 1)) ((↑(i + 1) : Int)),
      (i + (1 : Nat) ≤ List.length l1 ∧ (1 : Nat) = (1 : Nat)),
      ((0 : Int) ≤ (↑i : Int) ∧ (↑i : Int) < (16 : Int)),
      EI .u64 ((List.getD (W.sl (W.ca (W.sl (W.mo l m 16)) 31)) i 0 + 38 * List.getD (W.sl (W.ca (W.sl (W.mo l m 16)) 31)) (i + 16) 0) % 18446744073709551616) (List.getD (W.sl (W.ca (W.sl (W.mo l m 16)) 31)) i 0 + 38 * List.getD (W.sl (W.ca (W.sl (W.mo l m 16)) 31)) (i + 16) 0),
      EI .u64 (38 * List.getD (W.sl (W.ca (W.sl (W.mo l m 16)) 31)) (i + 16) 0 % 18446744073709551616) (38 * List.getD (W.sl (W.ca (W.sl (W.mo l m 16)) 31)) (i + 16) 0),
      (i + (16 : Nat) + (1 : Nat) ≤ List.length (W.sl (W.ca (W.sl (W.mo l m (16 : Nat))) (31 : Nat)))),
      ((0 : Int) ≤ (↑(i + (16 : Nat)) : Int) ∧ (↑(i + (16 : Nat)) : Int) < (32 : Int)),
      EI .i64 (IntKind.wrap IntKind.i64 ((↑i : Int) + 16)) ((↑(i + 16) : Int)),
      (i + (1 : Nat) ≤ List.length (W.sl (W.ca (W.sl (W.mo l m (16 : Nat))) (31 : Nat)))),
      ((0 : Int) ≤ (↑i : Int) ∧ (↑i : Int) < (32 : Int)),
      EB (decide ((↑i : Int) < 16)) true])
    mixed (by kernel_rfl) ⟨.mk (by simp only [addO_eq, mulE_eq, mulE_one, Int.toNat_natCast, IntKind.wrap_i64, mmin, mmax]; omega), c3, (by omega), .mk (by omega), .mk (by omega), (by omega), (by omega), .mk (by simp only [addO_eq, mulE_eq, mulE_one, Int.toNat_natCast, IntKind.wrap_i64, mmin, mmax]; omega), (by omega), (by omega), .mk (decide_eq_true h2), trivial⟩
theorem LP_xf (l m : List Int) (i : Nat) (l1 : List Int)
    (hl : l.length = 16)
    (hm : m.length = 16)
    (hd : W.dg 65536 l)
    (he : W.dg 65536 m)
    (hmo : (W.sl (W.mo l m 16)).length = 32)
    (hca : (W.sl (W.ca (W.sl (W.mo l m 16)) 31)).length = 32)
    (hi : i ≤ 16)
    (hx : 0 ≤ (List.getD (W.sl (W.ca (W.sl (W.mo l m 16)) 31)) i 0) ∧ (List.getD (W.sl (W.ca (W.sl (W.mo l m 16)) 31)) i 0) < 65536)
    (hy : 0 ≤ (List.getD (W.sl (W.ca (W.sl (W.mo l m 16)) 31)) (i + 16) 0) ∧ (List.getD (W.sl (W.ca (W.sl (W.mo l m 16)) 31)) (i + 16) 0) < 65536)
    (h2 : (¬(↑i : Int) < (16 : Int))) :
    CodeOk Tryd.prog 75 130 (kAt (kOf Tryd.prog Tryd.f14) [true, true, true, true, true, false, true, false, false]) (LPI l m i l1) (.exit 6) (LPI l m i l1) :=
  CodeOk.of_runs (fuel := 300) (v := ⟨[4, 5, 9, 10], [0, 34, 50, 98], [], 130⟩) (hs := [(1, ⟨.auto, some (.c (.bool (false)))⟩)])
    (cs := [EB (decide ((↑i : Int) < 16)) false])
    mixed (by kernel_rfl) ⟨.mk (decide_eq_false h2), trivial⟩

end Go.Proofs.YtkjbjgkjplmkhaaDoor.Vm

namespace Go.Proofs.YtkjbjgkjplmkhaaDoor.Vm
open Go Go.Proofs Go.Proofs.YtkjbjgkjplmkhaaDoor
theorem fol (l m : List Int) (hl : l.length = 16) (hm : m.length = 16) (hd : W.dg 65536 l) (he : W.dg 65536 m) :
    CodeOk Tryd.prog 75 130 (kAt (kOf Tryd.prog Tryd.f14) [true, true, true, true, true, false, true, false]) (LP0 l m) (.exit 6) (LPI l m 16 (W.sl (W.sq (W.foG (W.sl (W.ca (W.sl (W.mo l m 16)) 31))) W.z16 16))) := by
  have hs : (W.sl (W.mo l m 16)).length = 32 := by rw [W.sl_eq]; exact (mo_b hl hm hd he).1
  have hca : (W.sl (W.ca (W.sl (W.mo l m 16)) 31)).length = 32 := by rw [W.sl_eq, W.sl_eq]; exact (W.mul_bound hl hm hd he).1
  have hg : W.dg 65536 (W.sl (W.ca (W.sl (W.mo l m 16)) 31)) := by rw [W.sl_eq, W.sl_eq]; exact (W.mul_bound hl hm hd he).2.2
  rw [W.sl_eq (W.sq _ _ _)]
  have key := LP_rt l m
  have key2 := LP_xf l m
  have ini : LP0 l m = LPI l m 0 W.z16 := rfl
  rw [ini]
  generalize hq : W.foG (W.sl (W.ca (W.sl (W.mo l m 16)) 31)) = g at *
  refine LP_by (fun i : Nat => LPI l m i (W.sq g W.z16 i)) (fun i => i ≤ 16) (fun i => 16 - i) (by simp) ?_ 0 (by decide)
  intro i hi
  have hv : (W.sq g W.z16 i).length = 16 := by rw [W.sq_len]; rfl
  by_cases h : i < 16
  · refine .inl ⟨i + 1, h, by omega, ?_⟩
    have r := key i (W.sq g W.z16 i) hl hm hd he hs hca hi (hg i) (hg (i + 16)) (by omega) ⟨by omega, rfl⟩
    rw [splice1] at r
    have e : List.getD (W.sl (W.ca (W.sl (W.mo l m 16)) 31)) i 0 + 38 * List.getD (W.sl (W.ca (W.sl (W.mo l m 16)) 31)) (i + 16) 0 = g i := by rw [← hq]; rfl
    rw [e] at r
    exact r
  · have e : i = 16 := by omega
    subst e
    exact .inr (key2 16 (W.sq g W.z16 16) hl hm hd he hs hca hi (hg 16) (hg (16 + 16)) (by omega))
end Go.Proofs.YtkjbjgkjplmkhaaDoor.Vm

namespace Go.Proofs.YtkjbjgkjplmkhaaDoor.Vm
open Go Go.Proofs Go.Proofs.YtkjbjgkjplmkhaaDoor
set_option maxRecDepth 100000
theorem mulr (l m : List Int)
    (hl : l.length = 16)
    (hm : m.length = 16)
    (hd : W.dg 65536 l)
    (he : W.dg 65536 m)
    (hmo : (W.sl (W.mo l m 16)).length = 32)
    (hca : (W.sl (W.ca (W.sl (W.mo l m 16)) 31)).length = 32)
    (hq : (W.sl (W.sq (W.foG (W.sl (W.ca (W.sl (W.mo l m 16)) 31))) W.z16 16)).length = 16)
    (hr : W.dg 1099511627776 (W.sl (W.sq (W.foG (W.sl (W.ca (W.sl (W.mo l m 16)) 31))) W.z16 16))) :
    Contract0 Tryd.prog 14 [(.aggi .u64 l), (.aggi .u64 m)] [(0, (.one ⟨false, false, (.ints .u64 (W.pr))⟩))] 2 (.aggi .u64 (W.d16 (W.numD (W.sl (W.sq (W.foG (W.sl (W.ca (W.sl (W.mo l m 16)) 31))) W.z16 16)) % W.pn))) [] [] :=
  Contract0.told (res := (.aggi .u64 [(W.numD (W.sl (W.sq (W.foG (W.sl (W.ca (W.sl (W.mo l m 16)) 31))) W.z16 16)) % 57896044618658097711785492504343953926634992332820282019728792003956564819949 % 65536), (W.numD (W.sl (W.sq (W.foG (W.sl (W.ca (W.sl (W.mo l m 16)) 31))) W.z16 16)) % 57896044618658097711785492504343953926634992332820282019728792003956564819949 / 65536 % 65536), (W.numD (W.sl (W.sq (W.foG (W.sl (W.ca (W.sl (W.mo l m 16)) 31))) W.z16 16)) % 57896044618658097711785492504343953926634992332820282019728792003956564819949 / 4294967296 % 65536), (W.numD (W.sl (W.sq (W.foG (W.sl (W.ca (W.sl (W.mo l m 16)) 31))) W.z16 16)) % 57896044618658097711785492504343953926634992332820282019728792003956564819949 / 281474976710656 % 65536), (W.numD (W.sl (W.sq (W.foG (W.sl (W.ca (W.sl (W.mo l m 16)) 31))) W.z16 16)) % 57896044618658097711785492504343953926634992332820282019728792003956564819949 / 18446744073709551616 % 65536), (W.numD (W.sl (W.sq (W.foG (W.sl (W.ca (W.sl (W.mo l m 16)) 31))) W.z16 16)) % 57896044618658097711785492504343953926634992332820282019728792003956564819949 / 1208925819614629174706176 % 65536), (W.numD (W.sl (W.sq (W.foG (W.sl (W.ca (W.sl (W.mo l m 16)) 31))) W.z16 16)) % 57896044618658097711785492504343953926634992332820282019728792003956564819949 / 79228162514264337593543950336 % 65536), (W.numD (W.sl (W.sq (W.foG (W.sl (W.ca (W.sl (W.mo l m 16)) 31))) W.z16 16)) % 57896044618658097711785492504343953926634992332820282019728792003956564819949 / 5192296858534827628530496329220096 % 65536), (W.numD (W.sl (W.sq (W.foG (W.sl (W.ca (W.sl (W.mo l m 16)) 31))) W.z16 16)) % 57896044618658097711785492504343953926634992332820282019728792003956564819949 / 340282366920938463463374607431768211456 % 65536), (W.numD (W.sl (W.sq (W.foG (W.sl (W.ca (W.sl (W.mo l m 16)) 31))) W.z16 16)) % 57896044618658097711785492504343953926634992332820282019728792003956564819949 / 22300745198530623141535718272648361505980416 % 65536), (W.numD (W.sl (W.sq (W.foG (W.sl (W.ca (W.sl (W.mo l m 16)) 31))) W.z16 16)) % 57896044618658097711785492504343953926634992332820282019728792003956564819949 / 1461501637330902918203684832716283019655932542976 % 65536), (W.numD (W.sl (W.sq (W.foG (W.sl (W.ca (W.sl (W.mo l m 16)) 31))) W.z16 16)) % 57896044618658097711785492504343953926634992332820282019728792003956564819949 / 95780971304118053647396689196894323976171195136475136 % 65536), (W.numD (W.sl (W.sq (W.foG (W.sl (W.ca (W.sl (W.mo l m 16)) 31))) W.z16 16)) % 57896044618658097711785492504343953926634992332820282019728792003956564819949 / 6277101735386680763835789423207666416102355444464034512896 % 65536), (W.numD (W.sl (W.sq (W.foG (W.sl (W.ca (W.sl (W.mo l m 16)) 31))) W.z16 16)) % 57896044618658097711785492504343953926634992332820282019728792003956564819949 / 411376139330301510538742295639337626245683966408394965837152256 % 65536), (W.numD (W.sl (W.sq (W.foG (W.sl (W.ca (W.sl (W.mo l m 16)) 31))) W.z16 16)) % 57896044618658097711785492504343953926634992332820282019728792003956564819949 / 26959946667150639794667015087019630673637144422540572481103610249216 % 65536), (W.numD (W.sl (W.sq (W.foG (W.sl (W.ca (W.sl (W.mo l m 16)) 31))) W.z16 16)) % 57896044618658097711785492504343953926634992332820282019728792003956564819949 / 1766847064778384329583297500742918515827483896875618958121606201292619776 % 65536)])) (up := []) (res' := (.aggi .u64 (W.d16 (W.numD (W.sl (W.sq (W.foG (W.sl (W.ca (W.sl (W.mo l m 16)) 31))) W.z16 16)) % W.pn)))) (up' := []) (by rfl) (by rfl) (Contract0.of_frun (res := (.aggi .u64 [(W.numD (W.sl (W.sq (W.foG (W.sl (W.ca (W.sl (W.mo l m 16)) 31))) W.z16 16)) % 57896044618658097711785492504343953926634992332820282019728792003956564819949 % 65536), (W.numD (W.sl (W.sq (W.foG (W.sl (W.ca (W.sl (W.mo l m 16)) 31))) W.z16 16)) % 57896044618658097711785492504343953926634992332820282019728792003956564819949 / 65536 % 65536), (W.numD (W.sl (W.sq (W.foG (W.sl (W.ca (W.sl (W.mo l m 16)) 31))) W.z16 16)) % 57896044618658097711785492504343953926634992332820282019728792003956564819949 / 4294967296 % 65536), (W.numD (W.sl (W.sq (W.foG (W.sl (W.ca (W.sl (W.mo l m 16)) 31))) W.z16 16)) % 57896044618658097711785492504343953926634992332820282019728792003956564819949 / 281474976710656 % 65536), (W.numD (W.sl (W.sq (W.foG (W.sl (W.ca (W.sl (W.mo l m 16)) 31))) W.z16 16)) % 57896044618658097711785492504343953926634992332820282019728792003956564819949 / 18446744073709551616 % 65536), (W.numD (W.sl (W.sq (W.foG (W.sl (W.ca (W.sl (W.mo l m 16)) 31))) W.z16 16)) % 57896044618658097711785492504343953926634992332820282019728792003956564819949 / 1208925819614629174706176 % 65536), (W.numD (W.sl (W.sq (W.foG (W.sl (W.ca (W.sl (W.mo l m 16)) 31))) W.z16 16)) % 57896044618658097711785492504343953926634992332820282019728792003956564819949 / 79228162514264337593543950336 % 65536), (W.numD (W.sl (W.sq (W.foG (W.sl (W.ca (W.sl (W.mo l m 16)) 31))) W.z16 16)) % 57896044618658097711785492504343953926634992332820282019728792003956564819949 / 5192296858534827628530496329220096 % 65536), (W.numD (W.sl (W.sq (W.foG (W.sl (W.ca (W.sl (W.mo l m 16)) 31))) W.z16 16)) % 57896044618658097711785492504343953926634992332820282019728792003956564819949 / 340282366920938463463374607431768211456 % 65536), (W.numD (W.sl (W.sq (W.foG (W.sl (W.ca (W.sl (W.mo l m 16)) 31))) W.z16 16)) % 57896044618658097711785492504343953926634992332820282019728792003956564819949 / 22300745198530623141535718272648361505980416 % 65536), (W.numD (W.sl (W.sq (W.foG (W.sl (W.ca (W.sl (W.mo l m 16)) 31))) W.z16 16)) % 57896044618658097711785492504343953926634992332820282019728792003956564819949 / 1461501637330902918203684832716283019655932542976 % 65536), (W.numD (W.sl (W.sq (W.foG (W.sl (W.ca (W.sl (W.mo l m 16)) 31))) W.z16 16)) % 57896044618658097711785492504343953926634992332820282019728792003956564819949 / 95780971304118053647396689196894323976171195136475136 % 65536), (W.numD (W.sl (W.sq (W.foG (W.sl (W.ca (W.sl (W.mo l m 16)) 31))) W.z16 16)) % 57896044618658097711785492504343953926634992332820282019728792003956564819949 / 6277101735386680763835789423207666416102355444464034512896 % 65536), (W.numD (W.sl (W.sq (W.foG (W.sl (W.ca (W.sl (W.mo l m 16)) 31))) W.z16 16)) % 57896044618658097711785492504343953926634992332820282019728792003956564819949 / 411376139330301510538742295639337626245683966408394965837152256 % 65536), (W.numD (W.sl (W.sq (W.foG (W.sl (W.ca (W.sl (W.mo l m 16)) 31))) W.z16 16)) % 57896044618658097711785492504343953926634992332820282019728792003956564819949 / 26959946667150639794667015087019630673637144422540572481103610249216 % 65536), (W.numD (W.sl (W.sq (W.foG (W.sl (W.ca (W.sl (W.mo l m 16)) 31))) W.z16 16)) % 57896044618658097711785492504343953926634992332820282019728792003956564819949 / 1766847064778384329583297500742918515827483896875618958121606201292619776 % 65536)])) (up := []) (kill := []) (n0 := 2) (m := [(0, (.one ⟨false, false, (.ints .u64 (W.pr))⟩))]) (args := [(.aggi .u64 l), (.aggi .u64 m)]) (fn := Tryd.f14) (c := bodyOf Tryd.f14) (fuel := 300) (k := kOf Tryd.prog Tryd.f14) (outs := []) (hs := [(5, ⟨.sum ⟨[2, 3, 4, 5, 6], [0, 2, 18, 34, 50], [], 82⟩ (.exit 0) (LNI l m 16 (W.sl (W.mo l m 16))), none⟩), (7, ⟨.sum ⟨[4, 5, 8], [0, 34, 50], [], 98⟩ (.exit 4) (LOI 31 (W.sl (W.ca (W.sl (W.mo l m 16)) 31))), none⟩), (10, ⟨.sum ⟨[4, 5, 9, 10], [0, 34, 50, 98], [], 130⟩ (.exit 6) (LPI l m 16 (W.sl (W.sq (W.foG (W.sl (W.ca (W.sl (W.mo l m 16)) 31))) W.z16 16))), none⟩), (11, ⟨.ask, some (.aggi .u64 (W.sl (W.sq (W.foG (W.sl (W.ca (W.sl (W.mo l m 16)) 31))) W.z16 16)))⟩), (12, ⟨.call [0] (.aggi .u64 (W.d16 (W.numD (W.sl (W.sq (W.foG (W.sl (W.ca (W.sl (W.mo l m 16)) 31))) W.z16 16)) % 57896044618658097711785492504343953926634992332820282019728792003956564819949))) [] [], none⟩)])
    (cs := [Contract Tryd.prog 35 [(.aggi .u64 (W.sl (W.sq (W.foG (W.sl (W.ca (W.sl (W.mo l m 16)) 31))) W.z16 16)))] [(0, (.one ⟨false, false, (.ints .u64 (W.pr))⟩))] 146 (.aggi .u64 (W.d16 (W.numD (W.sl (W.sq (W.foG (W.sl (W.ca (W.sl (W.mo l m 16)) 31))) W.z16 16)) % 57896044618658097711785492504343953926634992332820282019728792003956564819949))) [] [],
      ((.aggi .u64 (List.take 16 (W.sl (W.sq (W.foG (W.sl (W.ca (W.sl (W.mo l m 16)) 31))) W.z16 16)))) : V) = (.aggi .u64 (W.sl (W.sq (W.foG (W.sl (W.ca (W.sl (W.mo l m 16)) 31))) W.z16 16))),
      ((16 : Nat) ≤ List.length (W.sl (W.sq (W.foG (W.sl (W.ca (W.sl (W.mo l m (16 : Nat))) (31 : Nat)))) W.z16 (16 : Nat)))),
      CodeOk Tryd.prog 75 130 (kAt (kOf Tryd.prog Tryd.f14) [true, true, true, true, true, false, true, false]) (LP0 l m) (.exit 6) (LPI l m 16 (W.sl (W.sq (W.foG (W.sl (W.ca (W.sl (W.mo l m 16)) 31))) W.z16 16))),
      CodeOk Tryd.prog 75 98 (kAt (kOf Tryd.prog Tryd.f14) [true, true, true, false, true, false]) (LO0 l m) (.exit 4) (LOI 31 (W.sl (W.ca (W.sl (W.mo l m 16)) 31))),
      CodeOk Tryd.prog 75 82 (kAt (kOf Tryd.prog Tryd.f14) [true, true, false, true, false]) (LN0 l m) (.exit 0) (LNI l m 16 (W.sl (W.mo l m 16)))])
    mixed Tryd.func14 (by kernel_rfl) (by kernel_rfl) (by kernel_rfl) (by kernel_rfl) (by kernel_rfl) ⟨Contract0.glob (frz_ok (W.sl (W.sq (W.foG (W.sl (W.ca (W.sl (W.mo l m 16)) 31))) W.z16 16)) (by omega) (by omega)) pr_glob (by kernel_rfl) (by kernel_rfl) (by kernel_rfl) (by kernel_rfl) 146, EV.aggi (List.take_of_length_le (by omega)), (by omega), (fol l m (by omega) (by omega) (by omega) (by omega)), (col l m (by omega) (by omega) (by omega) (by omega)), (mol l m (by omega) (by omega) (by omega) (by omega)), trivial⟩)


end Go.Proofs.YtkjbjgkjplmkhaaDoor.Vm
