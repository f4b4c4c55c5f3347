/- FieldLaws holds of the given program: for all its arguments the law answers true, no argument is changed, and nothing panics; there are no further conditions. -/
import Derived.Test.YtkjbjgkjplmkhaaFg
import Derived.Test.YtkjbjgkjplmkhaaFf
import Derived.Test.YtkjbjgkjplmkhaaRows
import Derived.WalkKit
import Derived.ProofKit
import Derived.OpenShut
import Derived.ChangeOld
import Derived.SizedLaws
namespace Go.Proofs.Ytkjbjgkjplmkhaa.Vm
open Go Go.Proofs Go.Proofs.Ytkjbjgkjplmkhaa
theorem fieldLaws_ok (a b c : Int) {h o : Int} (i_h : I64 h) (i_o : I64 o) : PureF Try.prog 8 [(.aggi .u8 (W.bts a)), (.aggi .u8 (W.bts b)), (.aggi .u8 (W.bts c)), (.c (.int .i64 h)), (.c (.int .i64 o))] (.c (.bool true)) := by
  obtain ⟨r15_0n, c1⟩ := edge_ok a i_h
  obtain ⟨r14_2e, c3, ok_r14_2e, v_r14_2e⟩ := from_el r15_0n
  have f_r14_2e := congrArg toF v_r14_2e
  change r14_2e.f = _ at f_r14_2e
  by_cases hz : r14_2e.f = 0
  · obtain ⟨r15_4n, c5⟩ := edge_ok b i_o
    obtain ⟨r14_6e, c7, ok_r14_6e, v_r14_6e⟩ := from_el r15_4n
    have f_r14_6e := congrArg toF v_r14_6e
    change r14_6e.f = _ at f_r14_6e
    obtain ⟨r14_8e, c9, ok_r14_8e, v_r14_8e⟩ := from_el c
    have f_r14_8e := congrArg toF v_r14_8e
    change r14_8e.f = _ at f_r14_8e
    obtain ⟨r27_10e, c11, ok_r27_10e, f_r27_10e⟩ := inv_el ok_r14_2e
    obtain ⟨r21_12e, c13, ok_r21_12e, f_r21_12e⟩ := mul_el ok_r14_2e ok_r27_10e
    obtain ⟨r24_14e, c15, ok_r24_14e, f_r24_14e⟩ := zero_el
    have c16 := equal_yes ok_r14_2e ok_r24_14e (by rw [f_r24_14e]; exact hz)
    have c17 := known_ok
    obtain ⟨r22_18e, c19, ok_r22_18e, f_r22_18e⟩ := add_el ok_r14_2e ok_r14_6e
    obtain ⟨r22_20e, c21, ok_r22_20e, f_r22_20e⟩ := add_el ok_r14_6e ok_r14_2e
    have c22 := equal_yes ok_r22_18e ok_r22_20e (by simp only [f_r14_2e, f_r14_6e, f_r22_18e, f_r22_20e]; grind)
    obtain ⟨r21_23e, c24, ok_r21_23e, f_r21_23e⟩ := mul_el ok_r14_2e ok_r14_6e
    obtain ⟨r21_25e, c26, ok_r21_25e, f_r21_25e⟩ := mul_el ok_r14_6e ok_r14_2e
    have c27 := equal_yes ok_r21_23e ok_r21_25e (by simp only [f_r14_2e, f_r14_6e, f_r21_23e, f_r21_25e]; grind)
    obtain ⟨r22_28e, c29, ok_r22_28e, f_r22_28e⟩ := add_el ok_r14_2e ok_r14_6e
    obtain ⟨r22_30e, c31, ok_r22_30e, f_r22_30e⟩ := add_el ok_r22_28e ok_r14_8e
    obtain ⟨r22_32e, c33, ok_r22_32e, f_r22_32e⟩ := add_el ok_r14_6e ok_r14_8e
    obtain ⟨r22_34e, c35, ok_r22_34e, f_r22_34e⟩ := add_el ok_r14_2e ok_r22_32e
    have c36 := equal_yes ok_r22_30e ok_r22_34e (by simp only [f_r14_2e, f_r14_6e, f_r22_28e, f_r14_8e, f_r22_30e, f_r22_32e, f_r22_34e]; grind)
    obtain ⟨r21_37e, c38, ok_r21_37e, f_r21_37e⟩ := mul_el ok_r14_2e ok_r14_6e
    obtain ⟨r21_39e, c40, ok_r21_39e, f_r21_39e⟩ := mul_el ok_r21_37e ok_r14_8e
    obtain ⟨r21_41e, c42, ok_r21_41e, f_r21_41e⟩ := mul_el ok_r14_6e ok_r14_8e
    obtain ⟨r21_43e, c44, ok_r21_43e, f_r21_43e⟩ := mul_el ok_r14_2e ok_r21_41e
    have c45 := equal_yes ok_r21_39e ok_r21_43e (by simp only [f_r14_2e, f_r14_6e, f_r21_37e, f_r14_8e, f_r21_39e, f_r21_41e, f_r21_43e]; grind)
    obtain ⟨r22_46e, c47, ok_r22_46e, f_r22_46e⟩ := add_el ok_r14_6e ok_r14_8e
    obtain ⟨r21_48e, c49, ok_r21_48e, f_r21_48e⟩ := mul_el ok_r14_2e ok_r22_46e
    obtain ⟨r21_50e, c51, ok_r21_50e, f_r21_50e⟩ := mul_el ok_r14_2e ok_r14_6e
    obtain ⟨r21_52e, c53, ok_r21_52e, f_r21_52e⟩ := mul_el ok_r14_2e ok_r14_8e
    obtain ⟨r22_54e, c55, ok_r22_54e, f_r22_54e⟩ := add_el ok_r21_50e ok_r21_52e
    have c56 := equal_yes ok_r21_48e ok_r22_54e (by simp only [f_r14_2e, f_r14_6e, f_r14_8e, f_r22_46e, f_r21_48e, f_r21_50e, f_r21_52e, f_r22_54e]; grind)
    obtain ⟨r22_57e, c58, ok_r22_57e, f_r22_57e⟩ := add_el ok_r14_2e ok_r14_6e
    obtain ⟨r23_59e, c60, ok_r23_59e, f_r23_59e⟩ := sub_el ok_r22_57e ok_r14_6e
    have c61 := equal_yes ok_r23_59e ok_r14_2e (by simp only [f_r14_2e, f_r14_6e, f_r22_57e, f_r23_59e]; grind)
    obtain ⟨r24_62e, c63, ok_r24_62e, f_r24_62e⟩ := zero_el
    obtain ⟨r22_64e, c65, ok_r22_64e, f_r22_64e⟩ := add_el ok_r14_2e ok_r24_62e
    have c66 := equal_yes ok_r22_64e ok_r14_2e (by simp only [f_r14_2e, f_r24_62e, f_r22_64e]; grind)
    obtain ⟨r28_67e, c68, ok_r28_67e, f_r28_67e⟩ := one_el
    obtain ⟨r21_69e, c70, ok_r21_69e, f_r21_69e⟩ := mul_el ok_r14_2e ok_r28_67e
    have c71 := equal_yes ok_r21_69e ok_r14_2e (by simp only [f_r14_2e, f_r28_67e, f_r21_69e]; grind)
    obtain ⟨r24_72e, c73, ok_r24_72e, f_r24_72e⟩ := zero_el
    have c74 := equal_yes ok_r21_12e ok_r24_72e (by rw [f_r21_12e, f_r24_72e, hz]; grind)
    exact run8a a b c h o r15_0n r14_2e r15_4n r14_6e r14_8e r27_10e r21_12e r24_14e r22_18e r22_20e r21_23e r21_25e r22_28e r22_30e r22_32e r22_34e r21_37e r21_39e r21_41e r21_43e r22_46e r21_48e r21_50e r21_52e r22_54e r22_57e r23_59e r24_62e r22_64e r28_67e r21_69e r24_72e c1 c3 c5 c7 c9 c11 c13 c15 c16 c17 c19 c21 c22 c24 c26 c27 c29 c31 c33 c35 c36 c38 c40 c42 c44 c45 c47 c49 c51 c53 c55 c56 c58 c60 c61 c63 c65 c66 c68 c70 c71 c73 c74
  · obtain ⟨r15_4n, c5⟩ := edge_ok b i_o
    obtain ⟨r14_6e, c7, ok_r14_6e, v_r14_6e⟩ := from_el r15_4n
    have f_r14_6e := congrArg toF v_r14_6e
    change r14_6e.f = _ at f_r14_6e
    obtain ⟨r14_8e, c9, ok_r14_8e, v_r14_8e⟩ := from_el c
    have f_r14_8e := congrArg toF v_r14_8e
    change r14_8e.f = _ at f_r14_8e
    obtain ⟨r27_10e, c11, ok_r27_10e, f_r27_10e⟩ := inv_el ok_r14_2e
    obtain ⟨r21_12e, c13, ok_r21_12e, f_r21_12e⟩ := mul_el ok_r14_2e ok_r27_10e
    obtain ⟨r24_14e, c15, ok_r24_14e, f_r24_14e⟩ := zero_el
    have c16 := equal_no ok_r14_2e ok_r24_14e (by rw [f_r24_14e]; exact hz)
    have c17 := known_ok
    obtain ⟨r22_18e, c19, ok_r22_18e, f_r22_18e⟩ := add_el ok_r14_2e ok_r14_6e
    obtain ⟨r22_20e, c21, ok_r22_20e, f_r22_20e⟩ := add_el ok_r14_6e ok_r14_2e
    have c22 := equal_yes ok_r22_18e ok_r22_20e (by simp only [f_r14_2e, f_r14_6e, f_r22_18e, f_r22_20e]; grind)
    obtain ⟨r21_23e, c24, ok_r21_23e, f_r21_23e⟩ := mul_el ok_r14_2e ok_r14_6e
    obtain ⟨r21_25e, c26, ok_r21_25e, f_r21_25e⟩ := mul_el ok_r14_6e ok_r14_2e
    have c27 := equal_yes ok_r21_23e ok_r21_25e (by simp only [f_r14_2e, f_r14_6e, f_r21_23e, f_r21_25e]; grind)
    obtain ⟨r22_28e, c29, ok_r22_28e, f_r22_28e⟩ := add_el ok_r14_2e ok_r14_6e
    obtain ⟨r22_30e, c31, ok_r22_30e, f_r22_30e⟩ := add_el ok_r22_28e ok_r14_8e
    obtain ⟨r22_32e, c33, ok_r22_32e, f_r22_32e⟩ := add_el ok_r14_6e ok_r14_8e
    obtain ⟨r22_34e, c35, ok_r22_34e, f_r22_34e⟩ := add_el ok_r14_2e ok_r22_32e
    have c36 := equal_yes ok_r22_30e ok_r22_34e (by simp only [f_r14_2e, f_r14_6e, f_r22_28e, f_r14_8e, f_r22_30e, f_r22_32e, f_r22_34e]; grind)
    obtain ⟨r21_37e, c38, ok_r21_37e, f_r21_37e⟩ := mul_el ok_r14_2e ok_r14_6e
    obtain ⟨r21_39e, c40, ok_r21_39e, f_r21_39e⟩ := mul_el ok_r21_37e ok_r14_8e
    obtain ⟨r21_41e, c42, ok_r21_41e, f_r21_41e⟩ := mul_el ok_r14_6e ok_r14_8e
    obtain ⟨r21_43e, c44, ok_r21_43e, f_r21_43e⟩ := mul_el ok_r14_2e ok_r21_41e
    have c45 := equal_yes ok_r21_39e ok_r21_43e (by simp only [f_r14_2e, f_r14_6e, f_r21_37e, f_r14_8e, f_r21_39e, f_r21_41e, f_r21_43e]; grind)
    obtain ⟨r22_46e, c47, ok_r22_46e, f_r22_46e⟩ := add_el ok_r14_6e ok_r14_8e
    obtain ⟨r21_48e, c49, ok_r21_48e, f_r21_48e⟩ := mul_el ok_r14_2e ok_r22_46e
    obtain ⟨r21_50e, c51, ok_r21_50e, f_r21_50e⟩ := mul_el ok_r14_2e ok_r14_6e
    obtain ⟨r21_52e, c53, ok_r21_52e, f_r21_52e⟩ := mul_el ok_r14_2e ok_r14_8e
    obtain ⟨r22_54e, c55, ok_r22_54e, f_r22_54e⟩ := add_el ok_r21_50e ok_r21_52e
    have c56 := equal_yes ok_r21_48e ok_r22_54e (by simp only [f_r14_2e, f_r14_6e, f_r14_8e, f_r22_46e, f_r21_48e, f_r21_50e, f_r21_52e, f_r22_54e]; grind)
    obtain ⟨r22_57e, c58, ok_r22_57e, f_r22_57e⟩ := add_el ok_r14_2e ok_r14_6e
    obtain ⟨r23_59e, c60, ok_r23_59e, f_r23_59e⟩ := sub_el ok_r22_57e ok_r14_6e
    have c61 := equal_yes ok_r23_59e ok_r14_2e (by simp only [f_r14_2e, f_r14_6e, f_r22_57e, f_r23_59e]; grind)
    obtain ⟨r24_62e, c63, ok_r24_62e, f_r24_62e⟩ := zero_el
    obtain ⟨r22_64e, c65, ok_r22_64e, f_r22_64e⟩ := add_el ok_r14_2e ok_r24_62e
    have c66 := equal_yes ok_r22_64e ok_r14_2e (by simp only [f_r14_2e, f_r24_62e, f_r22_64e]; grind)
    obtain ⟨r28_67e, c68, ok_r28_67e, f_r28_67e⟩ := one_el
    obtain ⟨r21_69e, c70, ok_r21_69e, f_r21_69e⟩ := mul_el ok_r14_2e ok_r28_67e
    have c71 := equal_yes ok_r21_69e ok_r14_2e (by simp only [f_r14_2e, f_r28_67e, f_r21_69e]; grind)
    obtain ⟨r28_72e, c73, ok_r28_72e, f_r28_72e⟩ := one_el
    have c74 := equal_yes ok_r21_12e ok_r28_72e (by rw [f_r21_12e, f_r27_10e, f_r28_72e]; exact finv_cancel hz)
    exact run8b a b c h o r15_0n r14_2e r15_4n r14_6e r14_8e r27_10e r21_12e r24_14e r22_18e r22_20e r21_23e r21_25e r22_28e r22_30e r22_32e r22_34e r21_37e r21_39e r21_41e r21_43e r22_46e r21_48e r21_50e r21_52e r22_54e r22_57e r23_59e r24_62e r22_64e r28_67e r21_69e r28_72e c1 c3 c5 c7 c9 c11 c13 c15 c16 c17 c19 c21 c22 c24 c26 c27 c29 c31 c33 c35 c36 c38 c40 c42 c44 c45 c47 c49 c51 c53 c55 c56 c58 c60 c61 c63 c65 c66 c68 c70 c71 c73 c74
end Go.Proofs.Ytkjbjgkjplmkhaa.Vm

namespace Go.Proofs.Ytkjbjgkjplmkhaa.fieldLaws
open Go.ChangeShapes Go.WideShapes Go.ChangeAt Go.RowKit Go.Proofs.Ytkjbjgkjplmkhaa Go.Proofs.Ytkjbjgkjplmkhaa.Vm
theorem own : ownKnob Try.prog.godebug = none := by kernel_rfl
theorem laidOut : laidOutB Try.prog = true := by kernel_rfl
set_option maxRecDepth 100000 in
theorem lifted (os : Os) (started : os.Started) (H : Type) (enc : TypeId × Value → H) :
    ReturnsInHanded {} Try.checked os 8 .any (Rows.fieldLawsSpec.pre6 enc Try.prog Try.f8 Rows.fieldLawsRow.domain false) (Rows.fieldLawsSpec.post enc Try.prog Try.f8 false true false false) := by
  refine returnsInHanded_of_change_sized (C := Try.checked) own started (by kernel_rfl) Try.func8
    (ChangeSpec.witness6 (enc := enc) (C := Try.checked) false ⟨#[], #[.agg (List.replicate 32 (.int .u8 0)).toArray, .agg (List.replicate 32 (.int .u8 0)).toArray, .agg (List.replicate 32 (.int .u8 0)).toArray, .int .i64 0, .int .i64 0], []⟩ 8 (by kernel_rfl) (by kernel_rfl) (by kernel_rfl) (by kernel_rfl)) ?_
  intro W base args ds gs before hval0 hW hcnd hsz0 _
  have hval : ∀ (j : Nat) t v, Try.f8.params[j]? = some t → args[j]? = some v → Value.okWide Try.prog W .any base t v := hval0
  have hW' := hW
  obtain ⟨p, q, hA0, hV, rfl, hfz, hnd⟩ := hW
  have hA : DataW.TrodAll enc Try.prog W 0 (fun _ => true) true Try.f8.params.toList args.toList ds p := hA0
  rw [Try.params8] at hA hval
  obtain ⟨v0, vs0, d0, ds0, p0, q0, hargs, rfl, rfl, h0, r0⟩ := trodAll_cons hA
  obtain ⟨v1, vs1, d1, ds1, p1, q1, rfl, rfl, rfl, h1, r1⟩ := trodAll_cons r0
  obtain ⟨v2, vs2, d2, ds2, p2, q2, rfl, rfl, rfl, h2, r2⟩ := trodAll_cons r1
  obtain ⟨v3, vs3, d3, ds3, p3, q3, rfl, rfl, rfl, h3, r3⟩ := trodAll_cons r2
  obtain ⟨v4, vs4, d4, ds4, p4, q4, rfl, rfl, rfl, h4, r4⟩ := trodAll_cons r3
  obtain ⟨rfl, rfl, rfl⟩ := trodAll_nil r4
  obtain rfl : args = #[v0, v1, v2, v3, v4] := by cases args; simp_all
  obtain ⟨rfl, rfl⟩ := trodVars_none hV
  have k0 := h0
  have k1 := h1
  have k2 := h2
  obtain ⟨l0, rfl, hl0, hwl0, rfl⟩ := open_array Try.underlying22 Try.underlying5 (by kernel_rfl) (by kernel_rfl) (hval 0 22 v0 rfl rfl) h0
  obtain ⟨l1, rfl, hl1, hwl1, rfl⟩ := open_array Try.underlying22 Try.underlying5 (by kernel_rfl) (by kernel_rfl) (hval 1 22 v1 rfl rfl) h1
  obtain ⟨l2, rfl, hl2, hwl2, rfl⟩ := open_array Try.underlying22 Try.underlying5 (by kernel_rfl) (by kernel_rfl) (hval 2 22 v2 rfl rfl) h2
  obtain ⟨a3, rfl, rfl, rfl, w3⟩ := open_int Try.underlying3 (hval 3 3 v3 rfl rfl) h3
  obtain ⟨a4, rfl, rfl, rfl, w4⟩ := open_int Try.underlying3 (hval 4 3 v4 rfl rfl) h4
  clear hA0 hval0 hsz0
  have hb0 : l0 = Go.Proofs.Ytkjbjgkjplmkhaa.W.bts (numL l0) := bts_num hl0 fun x hx => okLit_u8 (hwl0 x hx)
  have hb1 : l1 = Go.Proofs.Ytkjbjgkjplmkhaa.W.bts (numL l1) := bts_num hl1 fun x hx => okLit_u8 (hwl1 x hx)
  have hb2 : l2 = Go.Proofs.Ytkjbjgkjplmkhaa.W.bts (numL l2) := bts_num hl2 fun x hx => okLit_u8 (hwl2 x hx)
  have he3 : I64 a3 := by
    simp [Lit.wf, IntKind.min, IntKind.max, IntKind.signed, IntKind.bits] at w3
    unfold I64; omega
  have he4 : I64 a4 := by
    simp [Lit.wf, IntKind.min, IntKind.max, IntKind.signed, IntKind.bits] at w4
    unfold I64; omega
  refine ((fieldLaws_ok (numL l0) (numL l1) (numL l2) he3 he4).law W (vals := [.agg (l0.map (Value.int .u8)).toArray, .agg (l1.map (Value.int .u8)).toArray, .agg (l2.map (Value.int .u8)).toArray, .int .i64 a3, .int .i64 a4]) (fun φ => .cons ?_ (.cons ?_ (.cons ?_ (.cons rfl (.cons rfl .nil)))))).mono fun e W' ⟨he, bel⟩ => ?_
  · rw [← hb0]; rfl
  · rw [← hb1]; rfl
  · rw [← hb2]; rfl
  · subst he
    exact ⟨_, rfl, _, _, _, [], _, [], hW', trodAll_mk1 (shut_bool Try.underlying4 _), (trodAll_cons_mk (Below.trod laidOut (by kernel_rfl) (of_decide_eq_true (by kernel_rfl)) k0 bel (by simp)) (trodAll_cons_mk (Below.trod laidOut (by kernel_rfl) (of_decide_eq_true (by kernel_rfl)) k1 bel (by simp)) (trodAll_cons_mk (Below.trod laidOut (by kernel_rfl) (of_decide_eq_true (by kernel_rfl)) k2 bel (by simp)) (trodAll_cons_mk (shut_int Try.underlying3 w3) (trodAll_cons_mk (shut_int Try.underlying3 w4) trodAll_mk0))))), rfl, bel.frame _, fun h => by cases h⟩
theorem over : Rows.fieldLawsRow.holds Try.pinned (OpenSpec.ofChange Rows.fieldLawsSpec) :=
  OpenClaim.holds_of_wide 8 Try.f8 rfl rfl rfl rfl rfl rfl rfl ⟨rfl, rfl, rfl, rfl, rfl⟩ rfl rfl rfl rfl rfl (by kernel_rfl) Try.func8 (by kernel_rfl)
    (of_decide_eq_true (by kernel_rfl)) (by unfold Func.isWrapper; first | (rw [if_pos (by decide +kernel)]; kernel_rfl) | (rw [if_neg (by decide +kernel)]; exact ⟨rfl, rfl⟩))
    (fun os started H enc _ => lifted os started H enc)
theorem proved : Rows.FieldLawsSaid := over
#print axioms proved
end Go.Proofs.Ytkjbjgkjplmkhaa.fieldLaws
