/- What functions of the program come to: parts of the walk (Rfe). -/
import Derived.Test.YtkjbjgkjplmkhaaDoorRfd
import Derived.KernelRfl
import Derived.Test.YtkjbjgkjplmkhaaDoorProg
set_option linter.unusedSimpArgs false
set_option linter.unusedVariables false
namespace Go.Proofs.YtkjbjgkjplmkhaaDoor.Vm
open Go Go.Proofs Go.Proofs.YtkjbjgkjplmkhaaDoor
set_option maxRecDepth 100000
theorem rinv (x : Fp) :
    Contract0 Tryd.prog 16 [(.aggi .u64 (W.fd x))] [(0, (.one ⟨false, false, (.ints .u64 (W.pr))⟩))] 2 (.aggi .u64 (W.fd (finv x))) [] [] :=
  Contract0.told (res := (.aggi .u64 (W.fd (finv x)))) (up := []) (res' := (.aggi .u64 (W.fd (finv x)))) (up' := []) (by rfl) (by rfl) (Contract0.of_frun (res := (.aggi .u64 (W.fd (finv x)))) (up := []) (kill := []) (n0 := 2) (m := [(0, (.one ⟨false, false, (.ints .u64 (W.pr))⟩))]) (args := [(.aggi .u64 (W.fd x))]) (fn := Tryd.f16) (c := bodyOf Tryd.f16) (fuel := 300) (k := kOf Tryd.prog Tryd.f16) (outs := []) (hs := [(6, ⟨.sum ⟨[1, 2, 3, 4], [0, 2, 18, 50], [], 98⟩ (.exit 0) (LRI x (-1) (finv x)), none⟩)])
    (cs := [CodeOk Tryd.prog 23 98 (kAt (kOf Tryd.prog Tryd.f16) [true, true, false, true, false]) (LR0 x) (.exit 0) (LRI x (-1) (finv x))])
    mixed Tryd.func16 (by kernel_rfl) (by kernel_rfl) (by kernel_rfl) (by kernel_rfl) (by kernel_rfl) ⟨(rinvl x), trivial⟩)


end Go.Proofs.YtkjbjgkjplmkhaaDoor.Vm

namespace Go.Proofs.YtkjbjgkjplmkhaaDoor.Vm
open Go Go.Proofs Go.Proofs.YtkjbjgkjplmkhaaDoor
end Go.Proofs.YtkjbjgkjplmkhaaDoor.Vm

namespace Go.Proofs.YtkjbjgkjplmkhaaDoor.Vm
open Go Go.Proofs Go.Proofs.YtkjbjgkjplmkhaaDoor
set_option maxRecDepth 100000
end Go.Proofs.YtkjbjgkjplmkhaaDoor.Vm

namespace Go.Proofs.YtkjbjgkjplmkhaaDoor.W
open Go.Proofs.YtkjbjgkjplmkhaaDoor.Vm
theorem xs_ex (k u : Int) : ∃ y : Int, y = xF (clampN k) (toF (u % 57896044618658097711785492504343953926634992332820282019728792003956564819968)) := ⟨_, rfl⟩
/-- What X comes to; sealed. -/
noncomputable def xs (k u : Int) : Int := Classical.choose (xs_ex k u)
noncomputable def edN (b e : Int) : Int := open Classical in if h : I64 e then Classical.choose (edge_ok b h) else 0
noncomputable def frE (n : Int) : El := Classical.choose (from_el n)
end Go.Proofs.YtkjbjgkjplmkhaaDoor.W
namespace Go.Proofs.YtkjbjgkjplmkhaaDoor.Vm
open Go Go.Proofs Go.Proofs.YtkjbjgkjplmkhaaDoor
theorem edge_c (b e : Int) (h : -9223372036854775808 ≤ e ∧ e < 9223372036854775808) : PureF Tryd.prog 7 [(.aggi .u8 (W.bts b)), (.c (.int .i64 e))] (.aggi .u8 (W.bts (W.edN b e))) := by
  have h' : I64 e := by unfold I64; omega
  unfold W.edN
  rw [dif_pos h']
  exact Classical.choose_spec (edge_ok b h')
theorem from_c (n : Int) : PureF Tryd.prog 8 [(.aggi .u8 (W.bts n))] (.aggi .u64 (W.el (W.frE n))) := (Classical.choose_spec (from_el n)).1
theorem frE_ok (n : Int) : (W.frE n).ok := (Classical.choose_spec (from_el n)).2.1
theorem frE_f (n : Int) : (W.frE n).f = toF (n % 57896044618658097711785492504343953926634992332820282019728792003956564819968) := congrArg toF (Classical.choose_spec (from_el n)).2.2
noncomputable def W.muE (m n : Int) : W.El := Classical.choose (mul_el (frE_ok m) (frE_ok n))
noncomputable def W.inE (m : Int) : W.El := Classical.choose (inv_el (frE_ok m))
noncomputable def W.adE (m n : Int) : W.El := Classical.choose (add_el (frE_ok m) (frE_ok n))
noncomputable def W.suE (m n : Int) : W.El := Classical.choose (sub_el (frE_ok m) (frE_ok n))
noncomputable def W.smE (m s : Int) : W.El := open Classical in if h : 0 ≤ s ∧ s < 4294967296 then Classical.choose (small_el (frE_ok m) h) else W.frE m
theorem mul_c (m n : Int) : PureF Tryd.prog 11 [(.aggi .u64 (W.el (W.frE m))), (.aggi .u64 (W.el (W.frE n)))] (.aggi .u64 (W.el (W.muE m n))) := (Classical.choose_spec (mul_el (frE_ok m) (frE_ok n))).1
theorem inv_c (m : Int) : PureF Tryd.prog 15 [(.aggi .u64 (W.el (W.frE m)))] (.aggi .u64 (W.el (W.inE m))) := (Classical.choose_spec (inv_el (frE_ok m))).1
theorem add_c (m n : Int) : PureF Tryd.prog 17 [(.aggi .u64 (W.el (W.frE m))), (.aggi .u64 (W.el (W.frE n)))] (.aggi .u64 (W.el (W.adE m n))) := (Classical.choose_spec (add_el (frE_ok m) (frE_ok n))).1
theorem sub_c (m n : Int) : PureF Tryd.prog 19 [(.aggi .u64 (W.el (W.frE m))), (.aggi .u64 (W.el (W.frE n)))] (.aggi .u64 (W.el (W.suE m n))) := (Classical.choose_spec (sub_el (frE_ok m) (frE_ok n))).1
theorem small_c (m s : Int) (h : 0 ≤ s ∧ s < 4294967296) : PureF Tryd.prog 21 [(.aggi .u64 (W.el (W.frE m))), (.c (.int .u32 s))] (.aggi .u64 (W.el (W.smE m s))) := by
  unfold W.smE
  rw [dif_pos h]
  exact (Classical.choose_spec (small_el (frE_ok m) h)).1
theorem smE_ok (m s : Int) (h : 0 ≤ s ∧ s < 4294967296) : (W.smE m s).ok ∧ (W.smE m s).f = (W.frE m).f * toF s := by
  unfold W.smE
  rw [dif_pos h]
  exact (Classical.choose_spec (small_el (frE_ok m) h)).2
theorem bytes_c {e : W.El} {x : Fp} (h : e.ok) (hx : e.f = x) : PureF Tryd.prog 12 [(.aggi .u64 (W.el e))] (.aggi .u8 (W.bts (W.vl x))) := by
  have r := bytes_el h
  have q : e.v % pP = W.vl x := by rw [W.vl_eq, ← hx]; exact (toF_val _).symm
  rw [q] at r
  exact r
theorem from_b (m : Int) : PureF Tryd.prog 12 [(.aggi .u64 (W.el (W.frE m)))] (.aggi .u8 (W.bts (W.vl (toF (m % 57896044618658097711785492504343953926634992332820282019728792003956564819968))))) := bytes_c (frE_ok m) (frE_f m)
theorem mul_b (m n : Int) : PureF Tryd.prog 12 [(.aggi .u64 (W.el (W.muE m n)))] (.aggi .u8 (W.bts (W.vl (toF (m % 57896044618658097711785492504343953926634992332820282019728792003956564819968) * toF (n % 57896044618658097711785492504343953926634992332820282019728792003956564819968))))) := by
  have h := (Classical.choose_spec (mul_el (frE_ok m) (frE_ok n))).2
  exact bytes_c h.1 (by rw [← frE_f, ← frE_f]; exact h.2)
theorem inv_b (m : Int) : PureF Tryd.prog 12 [(.aggi .u64 (W.el (W.inE m)))] (.aggi .u8 (W.bts (W.vl (finv (toF (m % 57896044618658097711785492504343953926634992332820282019728792003956564819968)))))) := by
  have h := (Classical.choose_spec (inv_el (frE_ok m))).2
  exact bytes_c h.1 (by rw [← frE_f]; exact h.2)
theorem add_b (m n : Int) : PureF Tryd.prog 12 [(.aggi .u64 (W.el (W.adE m n)))] (.aggi .u8 (W.bts (W.vl (toF (m % 57896044618658097711785492504343953926634992332820282019728792003956564819968) + toF (n % 57896044618658097711785492504343953926634992332820282019728792003956564819968))))) := by
  have h := (Classical.choose_spec (add_el (frE_ok m) (frE_ok n))).2
  exact bytes_c h.1 (by rw [← frE_f, ← frE_f]; exact h.2)
theorem sub_b (m n : Int) : PureF Tryd.prog 12 [(.aggi .u64 (W.el (W.suE m n)))] (.aggi .u8 (W.bts (W.vl (toF (m % 57896044618658097711785492504343953926634992332820282019728792003956564819968) - toF (n % 57896044618658097711785492504343953926634992332820282019728792003956564819968))))) := by
  have h := (Classical.choose_spec (sub_el (frE_ok m) (frE_ok n))).2
  exact bytes_c h.1 (by rw [← frE_f, ← frE_f]; exact h.2)
theorem small_b (m s : Int) (hs : 0 ≤ s ∧ s < 4294967296) : PureF Tryd.prog 12 [(.aggi .u64 (W.el (W.smE m s)))] (.aggi .u8 (W.bts (W.vl (toF (m % 57896044618658097711785492504343953926634992332820282019728792003956564819968) * toF s)))) := by
  have h := smE_ok m s hs
  exact bytes_c h.1 (by rw [← frE_f]; exact h.2)
/-- The number times a small one: its two digits. -/
theorem rmuls (x : Fp) (s : Int) (hs : 0 ≤ s ∧ s < 4294967296) : Contract0 Tryd.prog 14 [(.aggi .u64 (W.fd x)), (.aggi .u64 [s % 65536, s / 65536, 0, 0, 0, 0, 0, 0, 0, 0, 0, 0, 0, 0, 0, 0])] [(0, (.one ⟨false, false, (.ints .u64 (W.pr))⟩))] 2 (.aggi .u64 (W.fd (x * toF s))) [] [] := by
  have e : ([s % 65536, s / 65536, 0, 0, 0, 0, 0, 0, 0, 0, 0, 0, 0, 0, 0, 0] : List Int) = W.d16 s := by
    unfold W.d16
    simp only [List.cons.injEq, and_true, true_and]
    refine ⟨?_, ?_, ?_, ?_, ?_, ?_, ?_, ?_, ?_, ?_, ?_, ?_, ?_, ?_, ?_⟩ <;> omega
  have r := rmul_l (W.fd x) (W.d16 s) (W.fd_len x) rfl (W.fd_dg x) (W.d16_dg s)
  rw [W.fd_num, W.d16_num ⟨hs.1, by omega⟩, val_toF] at r
  rw [e]
  exact r
theorem eq_t (m n : Int) (h : toF (m % 57896044618658097711785492504343953926634992332820282019728792003956564819968) = toF (n % 57896044618658097711785492504343953926634992332820282019728792003956564819968)) : PureF Tryd.prog 22 [(.aggi .u64 (W.el (W.frE m))), (.aggi .u64 (W.el (W.frE n)))] (.c (.bool true)) :=
  equal_yes (frE_ok m) (frE_ok n) (by rw [frE_f, frE_f]; exact h)
theorem eq_f (m n : Int) (h : ¬ toF (m % 57896044618658097711785492504343953926634992332820282019728792003956564819968) = toF (n % 57896044618658097711785492504343953926634992332820282019728792003956564819968)) : PureF Tryd.prog 22 [(.aggi .u64 (W.el (W.frE m))), (.aggi .u64 (W.el (W.frE n)))] (.c (.bool false)) :=
  equal_no (frE_ok m) (frE_ok n) (by rw [frE_f, frE_f]; exact h)
theorem rmuls2 (x : Fp) (s : Int) (hs : 0 ≤ s ∧ s < 4294967296) : Contract0 Tryd.prog 14 [(.aggi .u64 (W.fd x)), (.aggi .u64 [Int.tmod s 65536 % 18446744073709551616, Int.tdiv s 65536 % 4294967296 % 18446744073709551616, 0, 0, 0, 0, 0, 0, 0, 0, 0, 0, 0, 0, 0, 0])] [(0, (.one ⟨false, false, (.ints .u64 (W.pr))⟩))] 2 (.aggi .u64 (W.fd (x * toF s))) [] [] := by
  have h1 : Int.tmod s 65536 % 18446744073709551616 = s % 65536 := by rw [Int.tmod_eq_emod_of_nonneg hs.1]; omega
  have h2 : Int.tdiv s 65536 % 4294967296 % 18446744073709551616 = s / 65536 := by rw [Int.tdiv_eq_ediv_of_nonneg hs.1]; omega
  rw [h1, h2]
  exact rmuls x s hs
end Go.Proofs.YtkjbjgkjplmkhaaDoor.Vm
