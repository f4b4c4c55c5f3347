/- FieldKnown holds of the given program: for all its arguments the law answers true, no argument is changed, and nothing panics; there are no further conditions. -/
import Derived.Test.YtkjbjgkjplmkhaaFg
import Derived.Test.YtkjbjgkjplmkhaaFf
import Derived.Test.YtkjbjgkjplmkhaaRows
import Derived.WalkKit
import Derived.ProofKit
import Derived.OpenShut
import Derived.ChangeOld
import Derived.SizedLaws
namespace Go.Proofs.Ytkjbjgkjplmkhaa.Vm
open Go Go.Proofs Go.Proofs.Ytkjbjgkjplmkhaa
theorem fieldKnown_ok : PureF Try.prog 9 [] (.c (.bool true)) := by
  have c1 := prime_ok 0
  rw [prime0] at c1
  obtain ⟨r28_2e, c3, ok_r28_2e, f_r28_2e⟩ := one_el
  obtain ⟨r28_4e, c5, ok_r28_4e, f_r28_4e⟩ := one_el
  obtain ⟨r22_6e, c7, ok_r22_6e, f_r22_6e⟩ := add_el ok_r28_2e ok_r28_4e
  have c8 := known_ok
  obtain ⟨r14_9e, c10, ok_r14_9e, v_r14_9e⟩ := from_el 115792089237316195423570985008687907853269984665640564039457584007913129639917
  obtain ⟨r16_11n, v_r16_11n⟩ : ∃ z : Int, r14_9e.v % pP = z := ⟨_, rfl⟩
  have c12 : PureF Try.prog 16 [(.aggi .u64 (W.el r14_9e))] (.aggi .u8 (W.bts r16_11n)) := v_r16_11n ▸ bytes_el ok_r14_9e
  have h13 : (W.bts r16_11n == [0, 0, 0, 0, 0, 0, 0, 0, 0, 0, 0, 0, 0, 0, 0, 0, 0, 0, 0, 0, 0, 0, 0, 0, 0, 0, 0, 0, 0, 0, 0, 0]) = true := by
    rw [← v_r16_11n, v_r14_9e]; decide +kernel
  obtain ⟨r24_14e, c15, ok_r24_14e, f_r24_14e⟩ := zero_el
  obtain ⟨r27_16e, c17, ok_r27_16e, f_r27_16e⟩ := inv_el ok_r24_14e
  obtain ⟨r16_18n, v_r16_18n⟩ : ∃ z : Int, r27_16e.v % pP = z := ⟨_, rfl⟩
  have c19 : PureF Try.prog 16 [(.aggi .u64 (W.el r27_16e))] (.aggi .u8 (W.bts r16_18n)) := v_r16_18n ▸ bytes_el ok_r27_16e
  have h20 : (W.bts r16_18n == [0, 0, 0, 0, 0, 0, 0, 0, 0, 0, 0, 0, 0, 0, 0, 0, 0, 0, 0, 0, 0, 0, 0, 0, 0, 0, 0, 0, 0, 0, 0, 0]) = true := by
    have e : r27_16e.f = toF 0 := by rw [f_r27_16e, f_r24_14e, finv_zero, toF_zero]
    rw [← v_r16_18n, toF_iff.mp e]; decide +kernel
  obtain ⟨r27_21e, c22, ok_r27_21e, f_r27_21e⟩ := inv_el ok_r22_6e
  obtain ⟨r21_23e, c24, ok_r21_23e, f_r21_23e⟩ := mul_el ok_r22_6e ok_r27_21e
  obtain ⟨r16_25n, v_r16_25n⟩ : ∃ z : Int, r21_23e.v % pP = z := ⟨_, rfl⟩
  have c26 : PureF Try.prog 16 [(.aggi .u64 (W.el r21_23e))] (.aggi .u8 (W.bts r16_25n)) := v_r16_25n ▸ bytes_el ok_r21_23e
  have h27 : (W.bts r16_25n == [1, 0, 0, 0, 0, 0, 0, 0, 0, 0, 0, 0, 0, 0, 0, 0, 0, 0, 0, 0, 0, 0, 0, 0, 0, 0, 0, 0, 0, 0, 0, 0]) = true := by
    have e : r21_23e.f = toF 1 := by
      rw [f_r21_23e, f_r27_21e, toF_one]
      exact finv_cancel (by rw [f_r22_6e, f_r28_2e, f_r28_4e]; decide)
    rw [← v_r16_25n, toF_iff.mp e]; decide +kernel
  obtain ⟨r28_28e, c29, ok_r28_28e, f_r28_28e⟩ := one_el
  obtain ⟨r26_30e, c31, ok_r26_30e, f_r26_30e⟩ := small_el ok_r28_28e (n := 2) (by decide)
  have c32 := equal_yes ok_r26_30e ok_r22_6e (by rw [f_r26_30e, f_r28_28e, f_r22_6e, f_r28_2e, f_r28_4e]; decide)
  obtain ⟨r28_33e, c34, ok_r28_33e, f_r28_33e⟩ := one_el
  have c35 := equal_no ok_r22_6e ok_r28_33e (by rw [f_r22_6e, f_r28_2e, f_r28_4e, f_r28_33e]; decide)
  exact run9 pP r28_2e r28_4e r22_6e r14_9e r16_11n r24_14e r27_16e r16_18n r27_21e r21_23e r16_25n r28_28e r26_30e r28_33e c1 c3 c5 c7 c8 c10 c12 h13 c15 c17 c19 h20 c22 c24 c26 h27 c29 c31 c32 c34 c35
end Go.Proofs.Ytkjbjgkjplmkhaa.Vm

namespace Go.Proofs.Ytkjbjgkjplmkhaa.fieldKnown
open Go.ChangeShapes Go.WideShapes Go.ChangeAt Go.RowKit Go.Proofs.Ytkjbjgkjplmkhaa Go.Proofs.Ytkjbjgkjplmkhaa.Vm
theorem own : ownKnob Try.prog.godebug = none := by kernel_rfl
theorem laidOut : laidOutB Try.prog = true := by kernel_rfl
set_option maxRecDepth 100000 in
theorem lifted (os : Os) (started : os.Started) (H : Type) (enc : TypeId × Value → H) :
    ReturnsInHanded {} Try.checked os 9 .any (Rows.fieldKnownSpec.pre6 enc Try.prog Try.f9 Rows.fieldKnownRow.domain false) (Rows.fieldKnownSpec.post enc Try.prog Try.f9 false true false false) := by
  refine returnsInHanded_of_change_sized (C := Try.checked) own started (by kernel_rfl) Try.func9
    (ChangeSpec.witness6 (enc := enc) (C := Try.checked) false ⟨#[], #[], []⟩ 8 (by kernel_rfl) (by kernel_rfl) (by kernel_rfl) (by kernel_rfl)) ?_
  intro W base args ds gs before hval0 hW hcnd hsz0 _
  have hval : ∀ (j : Nat) t v, Try.f9.params[j]? = some t → args[j]? = some v → Value.okWide Try.prog W .any base t v := hval0
  have hW' := hW
  obtain ⟨p, q, hA0, hV, rfl, hfz, hnd⟩ := hW
  have hA : DataW.TrodAll enc Try.prog W 0 (fun _ => true) true Try.f9.params.toList args.toList ds p := hA0
  rw [Try.params9] at hA hval
  obtain ⟨hargs, rfl, rfl⟩ := trodAll_nil hA
  obtain rfl : args = #[] := by cases args; simp_all
  obtain ⟨rfl, rfl⟩ := trodVars_none hV
  clear hA0 hval0 hsz0
  refine ((fieldKnown_ok ).law W (vals := []) (fun φ => .nil)).mono fun e W' ⟨he, bel⟩ => ?_
  · subst he
    exact ⟨_, rfl, _, _, _, [], _, [], hW', trodAll_mk1 (shut_bool Try.underlying4 _), trodAll_mk0, rfl, bel.frame _, fun h => by cases h⟩
theorem over : Rows.fieldKnownRow.holds Try.pinned (OpenSpec.ofChange Rows.fieldKnownSpec) :=
  OpenClaim.holds_of_wide 9 Try.f9 rfl rfl rfl rfl rfl rfl rfl ⟨rfl, rfl, rfl, rfl, rfl⟩ rfl rfl rfl rfl rfl (by kernel_rfl) Try.func9 (by kernel_rfl)
    (of_decide_eq_true (by kernel_rfl)) (by unfold Func.isWrapper; first | (rw [if_pos (by decide +kernel)]; kernel_rfl) | (rw [if_neg (by decide +kernel)]; exact ⟨rfl, rfl⟩))
    (fun os started H enc _ => lifted os started H enc)
theorem proved : Rows.FieldKnownSaid := over
#print axioms proved
end Go.Proofs.Ytkjbjgkjplmkhaa.fieldKnown
