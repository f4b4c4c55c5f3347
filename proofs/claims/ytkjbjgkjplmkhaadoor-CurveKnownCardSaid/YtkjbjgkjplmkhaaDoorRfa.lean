/- What functions of the program come to: parts of the walk (Rfa). -/
import Derived.Test.YtkjbjgkjplmkhaaDoorWa
import Derived.KernelRfl
import Derived.Test.YtkjbjgkjplmkhaaDoorProg
set_option linter.unusedSimpArgs false
set_option linter.unusedVariables false
namespace Go.Proofs.YtkjbjgkjplmkhaaDoor.Vm
open Go Go.Proofs Go.Proofs.YtkjbjgkjplmkhaaDoor
set_option maxRecDepth 100000
def LAI (l : List Int) (k : Nat) : S0 :=
  ⟨[(1, (.c (.ptr 2 0 0))), (2, (.c (.bool false))), (3, (.c (.int .i64 ((↑k : Int) - 1))))], [(0, (.one ⟨false, false, (.ints .u64 (W.pr))⟩)), (2, (.one ⟨true, true, (.ints .u64 l)⟩))], 50⟩
theorem LA_by {α : Type} (I : α → S0) (Inv : α → Prop) (μ : α → Nat) {ex : Ex} {s' : S0} (hex : ex ≠ .normal)
    (step : ∀ x, Inv x → (∃ y, Inv y ∧ μ y < μ x ∧ CodeOk Tryd.prog 22 50 (kAt (kOf Tryd.prog Tryd.f45) [true, false, true, false, false]) (I x) .normal (I y)) ∨ CodeOk Tryd.prog 22 50 (kAt (kOf Tryd.prog Tryd.f45) [true, false, true, false, false]) (I x) ex s') (x : α) (hx : Inv x) :
    CodeOk Tryd.prog 22 50 (kAt (kOf Tryd.prog Tryd.f45) [true, false, true, false]) (I x) ex s' := by
  have hk : (kAt (kOf Tryd.prog Tryd.f45) [true, false, true, false]) = .loop (kAt (kOf Tryd.prog Tryd.f45) [true, false, true, false, false]) := by kernel_rfl
  rw [hk]
  exact CodeOk.loop I Inv μ hex step x hx
def LA0 (l : List Int) : S0 :=
  ⟨[(1, (.c (.ptr 2 0 0))), (2, (.c (.bool (false)))), (3, (.c (.int .i64 15)))], [(0, (.one ⟨false, false, (.ints .u64 (W.pr))⟩)), (2, (.one ⟨true, true, (.ints .u64 l)⟩))], 50⟩
theorem LA_xtt (l : List Int) (k : Nat)
    (hl : l.length = 16)
    (hk : k ≤ 16)
    (h1 : ((↑k : Int) - (1 : Int) ≥ (0 : Int)))
    (h2 : (¬List.getD l (k - (1 : Nat)) (0 : Int) = List.getD W.pr (k - (1 : Nat)) (0 : Int))) :
    CodeOk Tryd.prog 22 50 (kAt (kOf Tryd.prog Tryd.f45) [true, false, true, false, false]) (LAI l k) .ret ⟨[(1, (.c (.ptr 2 0 0))), (2, (.c (.bool (decide (List.getD l (k - 1) 0 > List.getD W.pr (k - 1) 0))))), (3, (.c (.int .i64 (↑k - 1))))], [(0, (.one ⟨false, false, (.ints .u64 (W.pr))⟩)), (2, (.one ⟨true, true, (.ints .u64 l)⟩))], 50⟩ :=
  CodeOk.of_runs (fuel := 300) (v := ⟨[1, 2, 3], [0, 2], [], 50⟩) (hs := [(1, ⟨.auto, some (.c (.bool (true)))⟩), (3, ⟨.auto, some (.c (.int .i64 (↑(k - 1))))⟩), (4, ⟨.ask, none⟩), (5, ⟨.ask, none⟩), (6, ⟨.auto, some (.c (.int .i64 (↑(k - 1))))⟩), (7, ⟨.ask, none⟩), (8, ⟨.ask, none⟩), (9, ⟨.auto, some (.c (.bool (true)))⟩), (11, ⟨.auto, some (.c (.int .i64 (↑(k - 1))))⟩), (12, ⟨.ask, none⟩), (13, ⟨.ask, none⟩), (14, ⟨.auto, some (.c (.int .i64 (↑(k - 1))))⟩), (15, ⟨.ask, none⟩), (16, ⟨.ask, none⟩)])
    (cs := [(k - (1 : Nat) + (1 : Nat) ≤ (16 : Nat)),
      ((0 : Int) ≤ (↑(k - (1 : Nat)) : Int) ∧ (↑(k - (1 : Nat)) : Int) < (16 : Int)),
      EI .i64 ((↑k : Int) - 1) ((↑(k - 1) : Int)),
      (k - (1 : Nat) + (1 : Nat) ≤ List.length l),
      ((0 : Int) ≤ (↑(k - (1 : Nat)) : Int) ∧ (↑(k - (1 : Nat)) : Int) < (16 : Int)),
      EI .i64 ((↑k : Int) - 1) ((↑(k - 1) : Int)),
      EB (List.getD l (k - 1) 0 != List.getD W.pr (k - 1) 0) true,
      (k - (1 : Nat) + (1 : Nat) ≤ (16 : Nat)),
      ((0 : Int) ≤ (↑(k - (1 : Nat)) : Int) ∧ (↑(k - (1 : Nat)) : Int) < (16 : Int)),
      EI .i64 ((↑k : Int) - 1) ((↑(k - 1) : Int)),
      (k - (1 : Nat) + (1 : Nat) ≤ List.length l),
      ((0 : Int) ≤ (↑(k - (1 : Nat)) : Int) ∧ (↑(k - (1 : Nat)) : Int) < (16 : Int)),
      EI .i64 ((↑k : Int) - 1) ((↑(k - 1) : Int)),
      EB (decide ((↑k : Int) - 1 ≥ 0)) true])
    mixed (by kernel_rfl) ⟨(by omega), (by omega), .mk (by omega), (by omega), (by omega), .mk (by omega), .mk (bne_t h2), (by omega), (by omega), .mk (by omega), (by omega), (by omega), .mk (by omega), .mk (decide_eq_true h1), trivial⟩
theorem LA_rtf (l : List Int) (k : Nat)
    (hl : l.length = 16)
    (hk : k ≤ 16)
    (h1 : ((↑k : Int) - (1 : Int) ≥ (0 : Int)))
    (h2 : (¬¬List.getD l (k - (1 : Nat)) (0 : Int) = List.getD W.pr (k - (1 : Nat)) (0 : Int))) :
    CodeOk Tryd.prog 22 50 (kAt (kOf Tryd.prog Tryd.f45) [true, false, true, false, false]) (LAI l k) .normal (LAI l (k - 1)) :=
  CodeOk.of_runs (fuel := 300) (v := ⟨[1, 2, 3], [0, 2], [], 50⟩) (hs := [(1, ⟨.auto, some (.c (.bool (true)))⟩), (3, ⟨.auto, some (.c (.int .i64 (↑(k - 1))))⟩), (4, ⟨.ask, none⟩), (5, ⟨.ask, none⟩), (6, ⟨.auto, some (.c (.int .i64 (↑(k - 1))))⟩), (7, ⟨.ask, none⟩), (8, ⟨.ask, none⟩), (9, ⟨.auto, some (.c (.bool (false)))⟩), (11, ⟨.auto, some (.c (.int .i64 (↑(k - 1))))⟩), (12, ⟨.auto, some (.c (.int .i64 (↑(k - 1) - 1)))⟩)])
    (cs := [EI .i64 (IntKind.wrap IntKind.i64 ((↑(k - 1) : Int) - 1)) ((↑(k - 1) : Int) - 1),
      EI .i64 ((↑k : Int) - 1) ((↑(k - 1) : Int)),
      EB (List.getD l (k - 1) 0 != List.getD W.pr (k - 1) 0) false,
      (k - (1 : Nat) + (1 : Nat) ≤ (16 : Nat)),
      ((0 : Int) ≤ (↑(k - (1 : Nat)) : Int) ∧ (↑(k - (1 : Nat)) : Int) < (16 : Int)),
      EI .i64 ((↑k : Int) - 1) ((↑(k - 1) : Int)),
      (k - (1 : Nat) + (1 : Nat) ≤ List.length l),
      ((0 : Int) ≤ (↑(k - (1 : Nat)) : Int) ∧ (↑(k - (1 : Nat)) : Int) < (16 : Int)),
      EI .i64 ((↑k : Int) - 1) ((↑(k - 1) : Int)),
      EB (decide ((↑k : Int) - 1 ≥ 0)) true])
    mixed (by kernel_rfl) ⟨.mk (by simp only [addO_eq, mulE_eq, mulE_one, Int.toNat_natCast, IntKind.wrap_i64, mmin, mmax]; omega), .mk (by omega), .mk (bne_f (Decidable.of_not_not h2)), (by omega), (by omega), .mk (by omega), (by omega), (by omega), .mk (by omega), .mk (decide_eq_true h1), trivial⟩
theorem LA_xf (l : List Int) (k : Nat)
    (hl : l.length = 16)
    (hk : k ≤ 16)
    (h1 : (¬(↑k : Int) - (1 : Int) ≥ (0 : Int))) :
    CodeOk Tryd.prog 22 50 (kAt (kOf Tryd.prog Tryd.f45) [true, false, true, false, false]) (LAI l k) (.exit 0) (LAI l k) :=
  CodeOk.of_runs (fuel := 300) (v := ⟨[1, 2, 3], [0, 2], [], 50⟩) (hs := [(1, ⟨.auto, some (.c (.bool (false)))⟩)])
    (cs := [EB (decide ((↑k : Int) - 1 ≥ 0)) false])
    mixed (by kernel_rfl) ⟨.mk (decide_eq_false h1), trivial⟩

end Go.Proofs.YtkjbjgkjplmkhaaDoor.Vm

namespace Go.Proofs.YtkjbjgkjplmkhaaDoor.Vm
open Go Go.Proofs Go.Proofs.YtkjbjgkjplmkhaaDoor
set_option maxRecDepth 100000
def LFI (q c : Int) (i : Nat) (v : List Int) : S0 :=
  ⟨[(1, (.c (.ptr 2 0 0))), (2, (.c (.ptr 18 0 0))), (3, (.c (.int .i64 q))), (4, (.c (.int .u64 c))), (5, (.c (.int .i64 ((↑i : Int)))))], [(0, (.one ⟨false, false, (.ints .u64 (W.pr))⟩)), (2, (.one ⟨true, true, (.ints .u64 v)⟩)), (18, (.one ⟨true, true, (.ints .u64 [0, 0, 0, 0, 0, 0, 0, 0, 0, 0, 0, 0, 0, 0, 0, 0])⟩))], 114⟩
theorem LF_by {α : Type} (I : α → S0) (Inv : α → Prop) (μ : α → Nat) {ex : Ex} {s' : S0} (hex : ex ≠ .normal)
    (step : ∀ x, Inv x → (∃ y, Inv y ∧ μ y < μ x ∧ CodeOk Tryd.prog 64 114 (kAt (kOf Tryd.prog Tryd.f35) [true, false, true, false, false, true, false, false, true, false, true, false, false]) (I x) .normal (I y)) ∨ CodeOk Tryd.prog 64 114 (kAt (kOf Tryd.prog Tryd.f35) [true, false, true, false, false, true, false, false, true, false, true, false, false]) (I x) ex s') (x : α) (hx : Inv x) :
    CodeOk Tryd.prog 64 114 (kAt (kOf Tryd.prog Tryd.f35) [true, false, true, false, false, true, false, false, true, false, true, false]) (I x) ex s' := by
  have hk : (kAt (kOf Tryd.prog Tryd.f35) [true, false, true, false, false, true, false, false, true, false, true, false]) = .loop (kAt (kOf Tryd.prog Tryd.f35) [true, false, true, false, false, true, false, false, true, false, true, false, false]) := by kernel_rfl
  rw [hk]
  exact CodeOk.loop I Inv μ hex step x hx
theorem LF_rt (l : List Int) (q c : Int) (i : Nat) (v : List Int)
    (hl : l.length = 16)
    (hi : i ≤ 16)
    (hv : v.length = 16)
    (hc : 0 ≤ c ∧ c < 1099511627776)
    (hx : 0 ≤ (List.getD v i 0) ∧ (List.getD v i 0) < 1099511627776)
    (h1 : ((↑i : Int) < (16 : Int))) :
    CodeOk Tryd.prog 64 114 (kAt (kOf Tryd.prog Tryd.f35) [true, false, true, false, false, true, false, false, true, false, true, false, false]) (LFI q c i v) .normal (LFI q (List.getD (splice v i [List.getD v i 0 + c]) i 0 / 65536) (i + 1) (splice (splice v i [List.getD v i 0 + c]) i [bAnd IntKind.u64 (List.getD (splice v i [List.getD v i 0 + c]) i 0) 65535])) :=
  CodeOk.of_runs (fuel := 300) (v := ⟨[1, 2, 3, 4, 5], [0, 2, 18], [], 114⟩) (hs := [(1, ⟨.auto, some (.c (.bool (true)))⟩), (5, ⟨.ask, none⟩), (6, ⟨.ask, none⟩), (8, ⟨.auto, some (.c (.int .u64 (List.getD v i 0 + c)))⟩), (9, ⟨.ask, none⟩), (10, ⟨.ask, none⟩), (12, ⟨.ask, none⟩), (13, ⟨.ask, none⟩), (18, ⟨.ask, none⟩), (19, ⟨.ask, none⟩), (21, ⟨.ask, none⟩), (22, ⟨.ask, none⟩), (24, ⟨.auto, some (.c (.int .i64 (↑(i + 1))))⟩)])
    (cs := [EI .i64 (IntKind.wrap IntKind.i64 ((↑i : Int) + 1)) ((↑(i + 1) : Int)),
      (i + (1 : Nat) ≤ List.length (splice v i [List.getD v i (0 : Int) + c]) ∧ (1 : Nat) = (1 : Nat)),
      ((0 : Int) ≤ (↑i : Int) ∧ (↑i : Int) < (16 : Int)),
      (i + (1 : Nat) ≤ List.length (splice v i [List.getD v i (0 : Int) + c])),
      ((0 : Int) ≤ (↑i : Int) ∧ (↑i : Int) < (16 : Int)),
      (i + (1 : Nat) ≤ List.length (splice v i [List.getD v i (0 : Int) + c])),
      ((0 : Int) ≤ (↑i : Int) ∧ (↑i : Int) < (16 : Int)),
      (i + (1 : Nat) ≤ List.length v ∧ (1 : Nat) = (1 : Nat)),
      ((0 : Int) ≤ (↑i : Int) ∧ (↑i : Int) < (16 : Int)),
      EI .u64 ((List.getD v i 0 + c) % 18446744073709551616) (List.getD v i 0 + c),
      (i + (1 : Nat) ≤ List.length v),
      ((0 : Int) ≤ (↑i : Int) ∧ (↑i : Int) < (16 : Int)),
      EB (decide ((↑i : Int) < 16)) true])
    mixed (by kernel_rfl) ⟨.mk (by simp only [addO_eq, mulE_eq, mulE_one, Int.toNat_natCast, IntKind.wrap_i64, mmin, mmax]; omega), (by simp only [and_true, List.length_set, List.length_append, List.length_replicate, List.length_take, List.length_drop, List.length_map, List.length_cons, List.length_nil, List.length_zipWith, splice_len1, W.le_len, W.bts_len, Int.toNat_natCast, addO_eq, mulE_eq, mulE_one, W.pr_len]; omega), (by omega), (by simp only [and_true, List.length_set, List.length_append, List.length_replicate, List.length_take, List.length_drop, List.length_map, List.length_cons, List.length_nil, List.length_zipWith, splice_len1, W.le_len, W.bts_len, Int.toNat_natCast, addO_eq, mulE_eq, mulE_one, W.pr_len]; omega), (by omega), (by simp only [and_true, List.length_set, List.length_append, List.length_replicate, List.length_take, List.length_drop, List.length_map, List.length_cons, List.length_nil, List.length_zipWith, splice_len1, W.le_len, W.bts_len, Int.toNat_natCast, addO_eq, mulE_eq, mulE_one, W.pr_len]; omega), (by omega), (by omega), (by omega), .mk (by omega), (by omega), (by omega), .mk (decide_eq_true h1), trivial⟩
theorem LF_xf (l : List Int) (q c : Int) (i : Nat) (v : List Int)
    (hl : l.length = 16)
    (hi : i ≤ 16)
    (hv : v.length = 16)
    (hc : 0 ≤ c ∧ c < 1099511627776)
    (hx : 0 ≤ (List.getD v i 0) ∧ (List.getD v i 0) < 1099511627776)
    (h1 : (¬(↑i : Int) < (16 : Int))) :
    CodeOk Tryd.prog 64 114 (kAt (kOf Tryd.prog Tryd.f35) [true, false, true, false, false, true, false, false, true, false, true, false, false]) (LFI q c i v) (.exit 2) (LFI q c i v) :=
  CodeOk.of_runs (fuel := 300) (v := ⟨[1, 2, 3, 4, 5], [0, 2, 18], [], 114⟩) (hs := [(1, ⟨.auto, some (.c (.bool (false)))⟩)])
    (cs := [EB (decide ((↑i : Int) < 16)) false])
    mixed (by kernel_rfl) ⟨.mk (decide_eq_false h1), trivial⟩

end Go.Proofs.YtkjbjgkjplmkhaaDoor.Vm

namespace Go.Proofs.YtkjbjgkjplmkhaaDoor.Vm
open Go Go.Proofs Go.Proofs.YtkjbjgkjplmkhaaDoor
theorem frl (v : List Int) (q : Int) (hv : v.length = 16) (hd : W.dg 1099511627776 v) :
    CodeOk Tryd.prog 64 114 (kAt (kOf Tryd.prog Tryd.f35) [true, false, true, false, false, true, false, false, true, false, true, false]) (LFI q 0 0 v) (.exit 2) (LFI q (W.cc v 16) 16 (W.cv v 16)) := by
  refine LF_by (fun i : Nat => LFI q (W.cc v i) i (W.cv v i)) (fun i => i ≤ 16) (fun i => 16 - i) (by simp) ?_ 0 (by decide)
  intro i hi
  have o := W.cv_ok hd i (by omega)
  have hl : (W.cv v i).length = 16 := by rw [o.len, hv]
  have hc := o.c
  by_cases h : i < 16
  · have hx := hd i
    rw [← o.hi i (Nat.le_refl i)] at hx
    refine .inl ⟨i + 1, h, by omega, ?_⟩
    have r := LF_rt v q (W.cc v i) i (W.cv v i) hv hi hl ⟨hc.1, by omega⟩ hx (by omega)
    rw [splice1, splice1, W.getD_in (by omega), mask16 (by omega) (by omega)] at r
    exact r
  · have e : i = 16 := by omega
    subst e
    exact .inr (LF_xf v q (W.cc v 16) 16 (W.cv v 16) hv hi hl ⟨hc.1, by omega⟩ (by rw [o.hi 16 (by decide)]; exact hd 16) (by omega))
end Go.Proofs.YtkjbjgkjplmkhaaDoor.Vm

namespace Go.Proofs.YtkjbjgkjplmkhaaDoor.Vm
open Go Go.Proofs Go.Proofs.YtkjbjgkjplmkhaaDoor
set_option maxRecDepth 100000
def LEI (k : Nat) (v : List Int) : S0 :=
  ⟨[(1, (.c (.ptr 2 0 0))), (2, (.c (.ptr 18 0 0))), (3, (.c (.int .i64 ((↑k : Int)))))], [(0, (.one ⟨false, false, (.ints .u64 (W.pr))⟩)), (2, (.one ⟨true, true, (.ints .u64 v)⟩)), (18, (.one ⟨true, true, (.ints .u64 [0, 0, 0, 0, 0, 0, 0, 0, 0, 0, 0, 0, 0, 0, 0, 0])⟩))], 50⟩
theorem LE_by {α : Type} (I : α → S0) (Inv : α → Prop) (μ : α → Nat) {ex : Ex} {s' : S0} (hex : ex ≠ .normal)
    (step : ∀ x, Inv x → (∃ y, Inv y ∧ μ y < μ x ∧ CodeOk Tryd.prog 64 50 (kAt (kOf Tryd.prog Tryd.f35) [true, false, true, false, false]) (I x) .normal (I y)) ∨ CodeOk Tryd.prog 64 50 (kAt (kOf Tryd.prog Tryd.f35) [true, false, true, false, false]) (I x) ex s') (x : α) (hx : Inv x) :
    CodeOk Tryd.prog 64 50 (kAt (kOf Tryd.prog Tryd.f35) [true, false, true, false]) (I x) ex s' := by
  have hk : (kAt (kOf Tryd.prog Tryd.f35) [true, false, true, false]) = .loop (kAt (kOf Tryd.prog Tryd.f35) [true, false, true, false, false]) := by kernel_rfl
  rw [hk]
  exact CodeOk.loop I Inv μ hex step x hx
def LE0 (l : List Int) : S0 :=
  ⟨[(1, (.c (.ptr 2 0 0))), (2, (.c (.ptr 18 0 0))), (3, (.c (.int .i64 0)))], [(0, (.one ⟨false, false, (.ints .u64 (W.pr))⟩)), (2, (.one ⟨true, true, (.ints .u64 l)⟩)), (18, (.one ⟨true, true, (.ints .u64 [0, 0, 0, 0, 0, 0, 0, 0, 0, 0, 0, 0, 0, 0, 0, 0])⟩))], 50⟩
theorem LE_rt (l : List Int) (k : Nat) (v : List Int)
    (hl : l.length = 16)
    (hd : W.dg 1099511627776 l)
    (hk : k ≤ 3)
    (hv : v.length = 16)
    (hb : W.dg 1099511627776 v)
    (hc : 0 ≤ (W.cc v 16) ∧ (W.cc v 16) < 33554432)
    (hx : 0 ≤ (List.getD (W.cv v 16) 0 0) ∧ (List.getD (W.cv v 16) 0 0) < 65536)
    (hy : (W.cv v 16).length = 16)
    (h1 : ((↑k : Int) < (3 : Int))) :
    CodeOk Tryd.prog 64 50 (kAt (kOf Tryd.prog Tryd.f35) [true, false, true, false, false]) (LEI k v) .normal (LEI (k + 1) (splice (W.cv v 16) 0 [List.getD (W.cv v 16) 0 0 + 38 * W.cc v 16])) :=
  CodeOk.of_runs (fuel := 300) (v := ⟨[1, 2, 3], [0, 2, 18], [], 50⟩) (hs := [(1, ⟨.auto, some (.c (.bool (true)))⟩), (5, ⟨.sum ⟨[1, 2, 3, 4, 5], [0, 2, 18], [], 114⟩ (.exit 2) (LFI (↑k : Int) (W.cc v 16) 16 (W.cv v 16)), none⟩), (7, ⟨.ask, none⟩), (9, ⟨.auto, some (.c (.int .u64 (38 * W.cc v 16)))⟩), (10, ⟨.auto, some (.c (.int .u64 (List.getD (W.cv v 16) 0 0 + 38 * W.cc v 16)))⟩), (12, ⟨.ask, none⟩), (14, ⟨.auto, some (.c (.int .i64 (↑(k + 1))))⟩)])
    (cs := [EI .i64 (IntKind.wrap IntKind.i64 ((↑k : Int) + 1)) ((↑(k + 1) : Int)),
      ((1 : Nat) ≤ List.length (W.cv v (16 : Nat)) ∧ (1 : Nat) = (1 : Nat)),
      EI .u64 ((List.getD (W.cv v 16) 0 0 + 38 * W.cc v 16) % 18446744073709551616) (List.getD (W.cv v 16) 0 0 + 38 * W.cc v 16),
      EI .u64 (38 * W.cc v 16 % 18446744073709551616) (38 * W.cc v 16),
      ((1 : Nat) ≤ List.length (W.cv v (16 : Nat))),
      CodeOk Tryd.prog 64 114 (kAt (kOf Tryd.prog Tryd.f35) [true, false, true, false, false, true, false, false, true, false, true, false]) (LFI (↑k : Int) 0 0 v) (.exit 2) (LFI (↑k : Int) (W.cc v 16) 16 (W.cv v 16)),
      EB (decide ((↑k : Int) < 3)) true])
    mixed (by kernel_rfl) ⟨.mk (by simp only [addO_eq, mulE_eq, mulE_one, Int.toNat_natCast, IntKind.wrap_i64, mmin, mmax]; omega), (by omega), .mk (by omega), .mk (by omega), (by omega), (frl v ((↑k : Int)) (by omega) (by omega)), .mk (decide_eq_true h1), trivial⟩
theorem LE_xf (l : List Int) (k : Nat) (v : List Int)
    (hl : l.length = 16)
    (hd : W.dg 1099511627776 l)
    (hk : k ≤ 3)
    (hv : v.length = 16)
    (hb : W.dg 1099511627776 v)
    (hc : 0 ≤ (W.cc v 16) ∧ (W.cc v 16) < 33554432)
    (hx : 0 ≤ (List.getD (W.cv v 16) 0 0) ∧ (List.getD (W.cv v 16) 0 0) < 65536)
    (hy : (W.cv v 16).length = 16)
    (h1 : (¬(↑k : Int) < (3 : Int))) :
    CodeOk Tryd.prog 64 50 (kAt (kOf Tryd.prog Tryd.f35) [true, false, true, false, false]) (LEI k v) (.exit 0) (LEI k v) :=
  CodeOk.of_runs (fuel := 300) (v := ⟨[1, 2, 3], [0, 2, 18], [], 50⟩) (hs := [(1, ⟨.auto, some (.c (.bool (false)))⟩)])
    (cs := [EB (decide ((↑k : Int) < 3)) false])
    mixed (by kernel_rfl) ⟨.mk (decide_eq_false h1), trivial⟩

end Go.Proofs.YtkjbjgkjplmkhaaDoor.Vm

namespace Go.Proofs.YtkjbjgkjplmkhaaDoor.W
theorem fzk_ok {l : List Int} (hv : l.length = 16) (hd : dg 1099511627776 l) : ∀ k, (fzk l k).length = 16 ∧ dg 1099511627776 (fzk l k)
  | 0 => ⟨hv, hd⟩
  | k + 1 => by
    obtain ⟨h1, h2⟩ := fzk_ok hv hd k
    exact ⟨fz1_len h1 h2, dg_mono (fz1_dg h1 h2) (by decide)⟩
end Go.Proofs.YtkjbjgkjplmkhaaDoor.W
namespace Go.Proofs.YtkjbjgkjplmkhaaDoor.Vm
open Go Go.Proofs Go.Proofs.YtkjbjgkjplmkhaaDoor
theorem fel (l : List Int) (hl : l.length = 16) (hd : W.dg 1099511627776 l) :
    CodeOk Tryd.prog 64 50 (kAt (kOf Tryd.prog Tryd.f35) [true, false, true, false]) (LE0 l) (.exit 0) (LEI 3 (W.fz l)) := by
  refine LE_by (fun k : Nat => LEI k (W.fzk l k)) (fun k => k ≤ 3) (fun k => 3 - k) (by simp) ?_ 0 (by decide)
  intro k hk
  obtain ⟨hv, hb⟩ := W.fzk_ok hl hd k
  have o := W.cv_ok hb 16 (by omega)
  have hy : (W.cv (W.fzk l k) 16).length = 16 := by rw [o.len, hv]
  by_cases h : k < 3
  · exact .inl ⟨k + 1, h, by omega, LE_rt l k (W.fzk l k) hl hd hk hv hb o.c (o.lo 0 (by decide)) hy (by omega)⟩
  · have e : k = 3 := by omega
    subst e
    exact .inr (LE_xf l 3 (W.fzk l 3) hl hd hk hv hb o.c (o.lo 0 (by decide)) hy (by omega))
end Go.Proofs.YtkjbjgkjplmkhaaDoor.Vm

namespace Go.Proofs.YtkjbjgkjplmkhaaDoor.Vm
open Go Go.Proofs Go.Proofs.YtkjbjgkjplmkhaaDoor
set_option maxRecDepth 100000
def LGI (b : Int) (i : Nat) (v : List Int) : S0 :=
  ⟨[(1, (.c (.ptr 2 0 0))), (2, (.c (.ptr 18 0 0))), (6, (.c (.int .u64 b))), (7, (.c (.int .i64 ((↑i : Int)))))], [(0, (.one ⟨false, false, (.ints .u64 (W.pr))⟩)), (2, (.one ⟨true, true, (.ints .u64 v)⟩)), (18, (.one ⟨true, true, (.ints .u64 [0, 0, 0, 0, 0, 0, 0, 0, 0, 0, 0, 0, 0, 0, 0, 0])⟩))], 114⟩
theorem LG_by {α : Type} (I : α → S0) (Inv : α → Prop) (μ : α → Nat) {ex : Ex} {s' : S0} (hex : ex ≠ .normal)
    (step : ∀ x, Inv x → (∃ y, Inv y ∧ μ y < μ x ∧ CodeOk Tryd.prog 64 114 (kAt (kOf Tryd.prog Tryd.f35) [true, true, false, false, false, true, false, true, true, false, false]) (I x) .normal (I y)) ∨ CodeOk Tryd.prog 64 114 (kAt (kOf Tryd.prog Tryd.f35) [true, true, false, false, false, true, false, true, true, false, false]) (I x) ex s') (x : α) (hx : Inv x) :
    CodeOk Tryd.prog 64 114 (kAt (kOf Tryd.prog Tryd.f35) [true, true, false, false, false, true, false, true, true, false]) (I x) ex s' := by
  have hk : (kAt (kOf Tryd.prog Tryd.f35) [true, true, false, false, false, true, false, true, true, false]) = .loop (kAt (kOf Tryd.prog Tryd.f35) [true, true, false, false, false, true, false, true, true, false, false]) := by kernel_rfl
  rw [hk]
  exact CodeOk.loop I Inv μ hex step x hx
theorem LG_rt (l : List Int) (b : Int) (i : Nat) (v : List Int)
    (hl : l.length = 16)
    (hd : W.dg 1099511627776 l)
    (hf : (W.fz l).length = 16)
    (hg : W.dg 65536 (W.fz l))
    (h0 : ((57896044618658097711785492504343953926634992332820282019728792003956564819949 : Int) ≤ W.numD (W.fz l)))
    (hi : i ≤ 16)
    (hv : v.length = 16)
    (hb : 0 ≤ b ∧ b < 2)
    (hx : 0 ≤ (List.getD v i 0) ∧ (List.getD v i 0) < 65536)
    (hp : 0 ≤ (List.getD W.pr i 0) ∧ (List.getD W.pr i 0) < 65536)
    (h2 : ((↑i : Int) < (16 : Int))) :
    CodeOk Tryd.prog 64 114 (kAt (kOf Tryd.prog Tryd.f35) [true, true, false, false, false, true, false, true, true, false, false]) (LGI b i v) .normal (LGI (1 - (List.getD v i 0 + 65536 - List.getD W.pr i 0 - b) / 65536) (i + 1) (splice v i [bAnd IntKind.u64 (List.getD v i 0 + 65536 - List.getD W.pr i 0 - b) 65535])) :=
  CodeOk.of_runs (fuel := 300) (v := ⟨[1, 2, 6, 7], [0, 2, 18], [], 114⟩) (hs := [(1, ⟨.auto, some (.c (.bool (true)))⟩), (4, ⟨.ask, none⟩), (5, ⟨.ask, none⟩), (6, ⟨.auto, some (.c (.int .u64 (List.getD v i 0 + 65536)))⟩), (8, ⟨.ask, none⟩), (9, ⟨.ask, none⟩), (10, ⟨.auto, some (.c (.int .u64 (List.getD v i 0 + 65536 - List.getD W.pr i 0)))⟩), (12, ⟨.auto, some (.c (.int .u64 (List.getD v i 0 + 65536 - List.getD W.pr i 0 - b)))⟩), (17, ⟨.ask, none⟩), (18, ⟨.ask, none⟩), (21, ⟨.auto, some (.c (.int .u64 (1 - (List.getD v i 0 + 65536 - List.getD W.pr i 0 - b) / 65536)))⟩), (24, ⟨.auto, some (.c (.int .i64 (↑(i + 1))))⟩)])
    (cs := [EI .i64 (IntKind.wrap IntKind.i64 ((↑i : Int) + 1)) ((↑(i + 1) : Int)),
      EI .u64 ((1 - (List.getD v i 0 + 65536 - List.getD W.pr i 0 - b) / 65536) % 18446744073709551616) (1 - (List.getD v i 0 + 65536 - List.getD W.pr i 0 - b) / 65536),
      (i + (1 : Nat) ≤ List.length v ∧ (1 : Nat) = (1 : Nat)),
      ((0 : Int) ≤ (↑i : Int) ∧ (↑i : Int) < (16 : Int)),
      EI .u64 ((List.getD v i 0 + 65536 - List.getD W.pr i 0 - b) % 18446744073709551616) (List.getD v i 0 + 65536 - List.getD W.pr i 0 - b),
      EI .u64 ((List.getD v i 0 + 65536 - List.getD W.pr i 0) % 18446744073709551616) (List.getD v i 0 + 65536 - List.getD W.pr i 0),
      (i + (1 : Nat) ≤ (16 : Nat)),
      ((0 : Int) ≤ (↑i : Int) ∧ (↑i : Int) < (16 : Int)),
      EI .u64 ((List.getD v i 0 + 65536) % 18446744073709551616) (List.getD v i 0 + 65536),
      (i + (1 : Nat) ≤ List.length v),
      ((0 : Int) ≤ (↑i : Int) ∧ (↑i : Int) < (16 : Int)),
      EB (decide ((↑i : Int) < 16)) true])
    mixed (by kernel_rfl) ⟨.mk (by simp only [addO_eq, mulE_eq, mulE_one, Int.toNat_natCast, IntKind.wrap_i64, mmin, mmax]; omega), .mk (by omega), (by omega), (by omega), .mk (by omega), .mk (by omega), (by omega), (by omega), .mk (by omega), (by omega), (by omega), .mk (decide_eq_true h2), trivial⟩
theorem LG_xf (l : List Int) (b : Int) (i : Nat) (v : List Int)
    (hl : l.length = 16)
    (hd : W.dg 1099511627776 l)
    (hf : (W.fz l).length = 16)
    (hg : W.dg 65536 (W.fz l))
    (h0 : ((57896044618658097711785492504343953926634992332820282019728792003956564819949 : Int) ≤ W.numD (W.fz l)))
    (hi : i ≤ 16)
    (hv : v.length = 16)
    (hb : 0 ≤ b ∧ b < 2)
    (hx : 0 ≤ (List.getD v i 0) ∧ (List.getD v i 0) < 65536)
    (hp : 0 ≤ (List.getD W.pr i 0) ∧ (List.getD W.pr i 0) < 65536)
    (h2 : (¬(↑i : Int) < (16 : Int))) :
    CodeOk Tryd.prog 64 114 (kAt (kOf Tryd.prog Tryd.f35) [true, true, false, false, false, true, false, true, true, false, false]) (LGI b i v) (.exit 6) (LGI b i v) :=
  CodeOk.of_runs (fuel := 300) (v := ⟨[1, 2, 6, 7], [0, 2, 18], [], 114⟩) (hs := [(1, ⟨.auto, some (.c (.bool (false)))⟩)])
    (cs := [EB (decide ((↑i : Int) < 16)) false])
    mixed (by kernel_rfl) ⟨.mk (decide_eq_false h2), trivial⟩

end Go.Proofs.YtkjbjgkjplmkhaaDoor.Vm

namespace Go.Proofs.YtkjbjgkjplmkhaaDoor.Vm
open Go Go.Proofs Go.Proofs.YtkjbjgkjplmkhaaDoor
theorem fsl (v : List Int) (hl : v.length = 16) (hd : W.dg 65536 v) :
    CodeOk Tryd.prog 64 114 (kAt (kOf Tryd.prog Tryd.f35) [true, true, false, false, false, true, false, true, true, false]) (LGI 0 0 v) (.exit 6) (LGI (W.bb v 16) 16 (W.bv v 16)) := by
  obtain ⟨p1, p2, p3⟩ := W.pr_fz
  refine LG_by (fun k : Nat => LGI (W.bb v k) k (W.bv v k)) (fun k => k ≤ 16) (fun k => 16 - k) (by simp) ?_ 0 (by decide)
  intro k hk
  have o := W.bv_ok hl hd k hk
  have hy : (W.bv v k).length = 16 := by rw [o.len, hl]
  have hx := o.dg k
  have hp := W.pr_dg k
  have hb := o.b
  by_cases h : k < 16
  · refine .inl ⟨k + 1, h, by omega, ?_⟩
    have r := LG_rt W.pr (W.bb v k) k (W.bv v k) W.pr_len (W.dg_mono W.pr_dg (by decide)) p1 p2 p3 hk hy hb hx hp (by omega)
    rw [splice1, mask16 (by omega) (by omega)] at r
    exact r
  · have e : k = 16 := by omega
    subst e
    exact .inr (LG_xf W.pr (W.bb v 16) 16 (W.bv v 16) W.pr_len (W.dg_mono W.pr_dg (by decide)) p1 p2 p3 hk hy hb hx hp (by omega))
end Go.Proofs.YtkjbjgkjplmkhaaDoor.Vm

namespace Go.Proofs.YtkjbjgkjplmkhaaDoor.Vm
open Go Go.Proofs Go.Proofs.YtkjbjgkjplmkhaaDoor
def LAR (l : List Int) (k : Nat) : S0 := ⟨[(1, (.c (.ptr 2 0 0))), (2, (.c (.bool (decide (List.getD l (k - 1) 0 > List.getD W.pr (k - 1) 0))))), (3, (.c (.int .i64 ((↑k : Int) - 1))))], [(0, (.one ⟨false, false, (.ints .u64 (W.pr))⟩)), (2, (.one ⟨true, true, (.ints .u64 l)⟩))], 50⟩
theorem atl_l1 (l : List Int) (hl : l.length = 16) (he : l = W.pr) :
    CodeOk Tryd.prog 22 50 (kAt (kOf Tryd.prog Tryd.f45) [true, false, true, false]) (LA0 l) (.exit 0) (LAI l 0) := by
  refine LA_by (fun k : Nat => LAI l k) (fun k => k ≤ 16) (fun k => k) (by simp) ?_ 16 (by decide)
  intro k hk
  by_cases h : k = 0
  · subst h; exact .inr (LA_xf l 0 hl hk (by omega))
  · exact .inl ⟨k - 1, by omega, by omega, LA_rtf l k hl hk (by omega) (fun q => q (by rw [he]))⟩
theorem atl_l2 (l : List Int) (hl : l.length = 16) (hj : W.tp l < 16) (hne : ¬ l.getD (W.tp l) 0 = W.pr.getD (W.tp l) 0) (heq : ∀ m, W.tp l < m → l.getD m 0 = W.pr.getD m 0) :
    CodeOk Tryd.prog 22 50 (kAt (kOf Tryd.prog Tryd.f45) [true, false, true, false]) (LA0 l) .ret (LAR l (W.tp l + 1)) := by
  generalize W.tp l = j at *
  refine LA_by (fun k : Nat => LAI l k) (fun k => k ≤ 16 ∧ j < k) (fun k => k) (by simp) ?_ 16 ⟨by decide, hj⟩
  rintro k ⟨hk, hjk⟩
  by_cases h : k = j + 1
  · subst h; exact .inr (LA_xtt l (j + 1) hl hk (by omega) hne)
  · exact .inl ⟨k - 1, ⟨by omega, by omega⟩, by omega, LA_rtf l k hl hk (by omega) (fun q => q (heq (k - 1) (by omega)))⟩
end Go.Proofs.YtkjbjgkjplmkhaaDoor.Vm

namespace Go.Proofs.YtkjbjgkjplmkhaaDoor.Vm
open Go Go.Proofs Go.Proofs.YtkjbjgkjplmkhaaDoor
set_option maxRecDepth 100000
theorem atl_eq (l : List Int)
    (hl : l.length = 16)
    (he : l = W.pr) :
    Contract0 Tryd.prog 45 [(.aggi .u64 l)] [(0, (.one ⟨false, false, (.ints .u64 (W.pr))⟩))] 2 (.c (.bool (true))) [] [] :=
  Contract0.of_frun (res := (.c (.bool (true)))) (up := []) (kill := []) (n0 := 2) (m := [(0, (.one ⟨false, false, (.ints .u64 (W.pr))⟩))]) (args := [(.aggi .u64 l)]) (fn := Tryd.f45) (c := bodyOf Tryd.f45) (fuel := 300) (k := kOf Tryd.prog Tryd.f45) (outs := []) (hs := [(3, ⟨.sum ⟨[1, 2, 3], [0, 2], [], 50⟩ (.exit 0) (LAI l 0), none⟩)])
    (cs := [CodeOk Tryd.prog 22 50 (kAt (kOf Tryd.prog Tryd.f45) [true, false, true, false]) (LA0 l) (.exit 0) (LAI l 0)])
    mixed Tryd.func45 (by kernel_rfl) (by kernel_rfl) (by kernel_rfl) (by kernel_rfl) (by kernel_rfl) ⟨(atl_l1 l (by omega) (by omega)), trivial⟩


theorem atl_ne (l : List Int)
    (hl : l.length = 16)
    (hj : W.tp l < 16)
    (hne : ¬ l.getD (W.tp l) 0 = W.pr.getD (W.tp l) 0)
    (heq : ∀ m, W.tp l < m → l.getD m 0 = W.pr.getD m 0) :
    Contract0 Tryd.prog 45 [(.aggi .u64 l)] [(0, (.one ⟨false, false, (.ints .u64 (W.pr))⟩))] 2 (.c (.bool (decide (List.getD l (W.tp l + 1 - 1) 0 > List.getD W.pr (W.tp l + 1 - 1) 0)))) [] [] :=
  Contract0.of_frun (res := (.c (.bool (decide (List.getD l (W.tp l + 1 - 1) 0 > List.getD W.pr (W.tp l + 1 - 1) 0))))) (up := []) (kill := []) (n0 := 2) (m := [(0, (.one ⟨false, false, (.ints .u64 (W.pr))⟩))]) (args := [(.aggi .u64 l)]) (fn := Tryd.f45) (c := bodyOf Tryd.f45) (fuel := 300) (k := kOf Tryd.prog Tryd.f45) (outs := []) (hs := [(3, ⟨.sum ⟨[1, 2, 3], [0, 2], [], 50⟩ (.ret) (LAR l (W.tp l + 1)), none⟩)])
    (cs := [CodeOk Tryd.prog 22 50 (kAt (kOf Tryd.prog Tryd.f45) [true, false, true, false]) (LA0 l) (.ret) (LAR l (W.tp l + 1))])
    mixed Tryd.func45 (by kernel_rfl) (by kernel_rfl) (by kernel_rfl) (by kernel_rfl) (by kernel_rfl) ⟨(atl_l2 l (by omega) (by omega) (by omega) (by omega)), trivial⟩


end Go.Proofs.YtkjbjgkjplmkhaaDoor.Vm

namespace Go.Proofs.YtkjbjgkjplmkhaaDoor.Vm
open Go Go.Proofs Go.Proofs.YtkjbjgkjplmkhaaDoor
theorem atl_ok (l : List Int) (hl : l.length = 16) (hd : W.dg 65536 l) :
    Contract0 Tryd.prog 45 [(.aggi .u64 l)] [(0, (.one ⟨false, false, (.ints .u64 (W.pr))⟩))] 2 (.c (.bool (decide (W.pn ≤ W.numD l)))) [] [] := by
  rcases W.tp_ok hl with h | ⟨h1, h2, h3⟩
  · have r := atl_eq l hl h
    have e : decide (W.pn ≤ W.numD l) = true := decide_eq_true (by rw [h, W.pr_num]; exact Int.le_refl _)
    rw [e]; exact r
  · have r := atl_ne l hl h1 h2 h3
    have e : decide (W.pn ≤ W.numD l) = decide (List.getD l (W.tp l + 1 - 1) 0 > List.getD W.pr (W.tp l + 1 - 1) 0) := decide_eq_decide.mpr (W.tp_cmp hl hd h1 h2 h3).symm
    rw [e]; exact r
end Go.Proofs.YtkjbjgkjplmkhaaDoor.Vm

namespace Go.Proofs.YtkjbjgkjplmkhaaDoor.Vm
open Go Go.Proofs Go.Proofs.YtkjbjgkjplmkhaaDoor
set_option maxRecDepth 100000
def LHI (v : List Int) : S0 :=
  ⟨[(1, (.c (.ptr 2 0 0))), (2, (.c (.ptr 18 0 0)))], [(0, (.one ⟨false, false, (.ints .u64 (W.pr))⟩)), (2, (.one ⟨true, true, (.ints .u64 v)⟩)), (18, (.one ⟨true, true, (.ints .u64 [0, 0, 0, 0, 0, 0, 0, 0, 0, 0, 0, 0, 0, 0, 0, 0])⟩))], 50⟩
theorem LH_by {α : Type} (I : α → S0) (Inv : α → Prop) (μ : α → Nat) {ex : Ex} {s' : S0} (hex : ex ≠ .normal)
    (step : ∀ x, Inv x → (∃ y, Inv y ∧ μ y < μ x ∧ CodeOk Tryd.prog 64 50 (kAt (kOf Tryd.prog Tryd.f35) [true, true, false, false, false]) (I x) .normal (I y)) ∨ CodeOk Tryd.prog 64 50 (kAt (kOf Tryd.prog Tryd.f35) [true, true, false, false, false]) (I x) ex s') (x : α) (hx : Inv x) :
    CodeOk Tryd.prog 64 50 (kAt (kOf Tryd.prog Tryd.f35) [true, true, false, false]) (I x) ex s' := by
  have hk : (kAt (kOf Tryd.prog Tryd.f35) [true, true, false, false]) = .loop (kAt (kOf Tryd.prog Tryd.f35) [true, true, false, false, false]) := by kernel_rfl
  rw [hk]
  exact CodeOk.loop I Inv μ hex step x hx
def LH0 (l : List Int) : S0 :=
  ⟨[(1, (.c (.ptr 2 0 0))), (2, (.c (.ptr 18 0 0)))], [(0, (.one ⟨false, false, (.ints .u64 (W.pr))⟩)), (2, (.one ⟨true, true, (.ints .u64 (W.fz l))⟩)), (18, (.one ⟨true, true, (.ints .u64 [0, 0, 0, 0, 0, 0, 0, 0, 0, 0, 0, 0, 0, 0, 0, 0])⟩))], 50⟩
theorem LH_rt (l v : List Int)
    (hl : l.length = 16)
    (hd : W.dg 1099511627776 l)
    (hf : (W.fz l).length = 16)
    (hg : W.dg 65536 (W.fz l))
    (hv : v.length = 16)
    (hw : W.dg 65536 v)
    (h1 : ((57896044618658097711785492504343953926634992332820282019728792003956564819949 : Int) ≤ W.numD v)) :
    CodeOk Tryd.prog 64 50 (kAt (kOf Tryd.prog Tryd.f35) [true, true, false, false, false]) (LHI v) .normal (LHI (W.bv v 16)) :=
  CodeOk.of_runs (fuel := 300) (v := ⟨[1, 2], [0, 2, 18], [], 50⟩) (hs := [(0, ⟨.ask, some (.aggi .u64 v)⟩), (1, ⟨.call [0] (.c (.bool (decide (57896044618658097711785492504343953926634992332820282019728792003956564819949 ≤ W.numD v)))) [] [], none⟩), (2, ⟨.auto, some (.c (.bool true))⟩), (5, ⟨.sum ⟨[1, 2, 6, 7], [0, 2, 18], [], 114⟩ (.exit 6) (LGI (W.bb v 16) 16 (W.bv v 16)), none⟩)])
    (cs := [CodeOk Tryd.prog 64 114 (kAt (kOf Tryd.prog Tryd.f35) [true, true, false, false, false, true, false, true, true, false]) (LGI 0 0 v) (.exit 6) (LGI (W.bb v 16) 16 (W.bv v 16)),
      (decide (57896044618658097711785492504343953926634992332820282019728792003956564819949 ≤ W.numD v)) = true,
      Contract Tryd.prog 45 [(.aggi .u64 v)] [(0, (.one ⟨false, false, (.ints .u64 (W.pr))⟩))] 66 (.c (.bool (decide (57896044618658097711785492504343953926634992332820282019728792003956564819949 ≤ W.numD v)))) [] [],
      ((.aggi .u64 (List.take 16 v)) : V) = (.aggi .u64 v),
      ((16 : Nat) ≤ List.length v)])
    mixed (by kernel_rfl) ⟨(fsl v (by omega) (by omega)), (decide_eq_true h1), Contract0.glob (atl_ok v (by omega) (by omega)) pr_glob (by kernel_rfl) (by kernel_rfl) (by kernel_rfl) (by kernel_rfl) 66, EV.aggi (List.take_of_length_le (by omega)), (by omega), trivial⟩
theorem LH_xf (l v : List Int)
    (hl : l.length = 16)
    (hd : W.dg 1099511627776 l)
    (hf : (W.fz l).length = 16)
    (hg : W.dg 65536 (W.fz l))
    (hv : v.length = 16)
    (hw : W.dg 65536 v)
    (h1 : (¬(57896044618658097711785492504343953926634992332820282019728792003956564819949 : Int) ≤ W.numD v)) :
    CodeOk Tryd.prog 64 50 (kAt (kOf Tryd.prog Tryd.f35) [true, true, false, false, false]) (LHI v) (.exit 4) (LHI v) :=
  CodeOk.of_runs (fuel := 300) (v := ⟨[1, 2], [0, 2, 18], [], 50⟩) (hs := [(0, ⟨.ask, some (.aggi .u64 v)⟩), (1, ⟨.call [0] (.c (.bool (decide (57896044618658097711785492504343953926634992332820282019728792003956564819949 ≤ W.numD v)))) [] [], none⟩), (2, ⟨.auto, some (.c (.bool false))⟩)])
    (cs := [(decide (57896044618658097711785492504343953926634992332820282019728792003956564819949 ≤ W.numD v)) = false,
      Contract Tryd.prog 45 [(.aggi .u64 v)] [(0, (.one ⟨false, false, (.ints .u64 (W.pr))⟩))] 66 (.c (.bool (decide (57896044618658097711785492504343953926634992332820282019728792003956564819949 ≤ W.numD v)))) [] [],
      ((.aggi .u64 (List.take 16 v)) : V) = (.aggi .u64 v),
      ((16 : Nat) ≤ List.length v)])
    mixed (by kernel_rfl) ⟨(decide_eq_false h1), Contract0.glob (atl_ok v (by omega) (by omega)) pr_glob (by kernel_rfl) (by kernel_rfl) (by kernel_rfl) (by kernel_rfl) 66, EV.aggi (List.take_of_length_le (by omega)), (by omega), trivial⟩

end Go.Proofs.YtkjbjgkjplmkhaaDoor.Vm

namespace Go.Proofs.YtkjbjgkjplmkhaaDoor.Vm
open Go Go.Proofs Go.Proofs.YtkjbjgkjplmkhaaDoor
theorem fhl (l : List Int) (hl : l.length = 16) (hd : W.dg 1099511627776 l) :
    CodeOk Tryd.prog 64 50 (kAt (kOf Tryd.prog Tryd.f35) [true, true, false, false]) (LH0 l) (.exit 4) (LHI (W.d16 (W.numD l % W.pn))) := by
  obtain ⟨hf, hg, c, hc⟩ := W.fz_ok hl hd
  have hp : (0 : Int) < W.pn := by decide
  refine LH_by (fun v : List Int => LHI v) (fun v => v.length = 16 ∧ W.dg 65536 v ∧ W.numD v % W.pn = W.numD l % W.pn) (fun v => (W.numD v).toNat) (by simp) ?_ (W.fz l) ⟨hf, hg, ?_⟩
  · rintro v ⟨hv, hw, he⟩
    by_cases h : W.pn ≤ W.numD v
    · left
      have o := W.bv_ok hv hw 16 (by decide)
      have n := W.bv_num hv hw h
      have z := W.numD_nn o.dg
      refine ⟨W.bv v 16, ⟨by rw [o.len, hv], o.dg, ?_⟩, ?_, LH_rt l v hl hd hf hg hv hw h⟩
      · rw [← he, n, Int.sub_emod_right]
      · omega
    · right
      have r := LH_xf l v hl hd hf hg hv hw h
      have e : v = W.d16 (W.numD l % W.pn) := by
        rw [← he, Int.emod_eq_of_lt (W.numD_nn hw) (by omega)]
        exact W.d16_of hv hw
      rw [← e]
      exact r
  · rw [hc, show W.numD l - c * (2 * W.pn) = W.numD l + W.pn * (-(2 * c)) by grind, Int.add_mul_emod_self_left]
end Go.Proofs.YtkjbjgkjplmkhaaDoor.Vm
