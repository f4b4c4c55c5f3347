/- FieldSquares holds of the given program: for all its arguments the law answers true, no argument is changed, and nothing panics; there are no further conditions. -/
import Derived.Test.YtkjbjgkjplmkhaaFe
import Derived.Test.YtkjbjgkjplmkhaaFf
import Derived.Test.YtkjbjgkjplmkhaaRows
import Derived.WalkKit
import Derived.ProofKit
import Derived.OpenShut
import Derived.ChangeOld
import Derived.SizedLaws
namespace Go.Proofs.Ytkjbjgkjplmkhaa.Vm
open Go Go.Proofs Go.Proofs.Ytkjbjgkjplmkhaa
theorem fieldSquares_ok (a b : Int) {h o : Int} (i_h : I64 h) (i_o : I64 o) : PureF Try.prog 5 [(.aggi .u8 (W.bts a)), (.aggi .u8 (W.bts b)), (.c (.int .i64 h)), (.c (.int .i64 o))] (.c (.bool true)) := by
  obtain ⟨r15_0n, c1⟩ := edge_ok a i_h
  obtain ⟨r14_2e, c3, ok_r14_2e, v_r14_2e⟩ := from_el r15_0n
  have f_r14_2e := congrArg toF v_r14_2e
  change r14_2e.f = _ at f_r14_2e
  obtain ⟨r15_4n, c5⟩ := edge_ok b i_o
  obtain ⟨r14_6e, c7, ok_r14_6e, v_r14_6e⟩ := from_el r15_4n
  have f_r14_6e := congrArg toF v_r14_6e
  change r14_6e.f = _ at f_r14_6e
  obtain ⟨r22_8e, c9, ok_r22_8e, f_r22_8e⟩ := add_el ok_r14_2e ok_r14_6e
  obtain ⟨r23_10e, c11, ok_r23_10e, f_r23_10e⟩ := sub_el ok_r14_2e ok_r14_6e
  obtain ⟨r21_12e, c13, ok_r21_12e, f_r21_12e⟩ := mul_el ok_r22_8e ok_r23_10e
  obtain ⟨r21_14e, c15, ok_r21_14e, f_r21_14e⟩ := mul_el ok_r14_2e ok_r14_2e
  obtain ⟨r21_16e, c17, ok_r21_16e, f_r21_16e⟩ := mul_el ok_r14_6e ok_r14_6e
  obtain ⟨r23_18e, c19, ok_r23_18e, f_r23_18e⟩ := sub_el ok_r21_14e ok_r21_16e
  have c20 := known_ok
  have c21 := equal_yes ok_r21_12e ok_r23_18e (by simp only [f_r14_2e, f_r14_6e, f_r22_8e, f_r23_10e, f_r21_12e, f_r21_14e, f_r21_16e, f_r23_18e]; grind)
  obtain ⟨r24_22e, c23, ok_r24_22e, f_r24_22e⟩ := zero_el
  obtain ⟨r24_24e, c25, ok_r24_24e, f_r24_24e⟩ := zero_el
  obtain ⟨r23_26e, c27, ok_r23_26e, f_r23_26e⟩ := sub_el ok_r24_24e ok_r14_2e
  obtain ⟨r23_28e, c29, ok_r23_28e, f_r23_28e⟩ := sub_el ok_r24_22e ok_r23_26e
  have c30 := equal_yes ok_r23_28e ok_r14_2e (by simp only [f_r24_22e, f_r24_24e, f_r14_2e, f_r23_26e, f_r23_28e]; grind)
  obtain ⟨r23_31e, c32, ok_r23_31e, f_r23_31e⟩ := sub_el ok_r14_2e ok_r14_2e
  obtain ⟨r24_33e, c34, ok_r24_33e, f_r24_33e⟩ := zero_el
  have c35 := equal_yes ok_r23_31e ok_r24_33e (by simp only [f_r14_2e, f_r23_31e, f_r24_33e]; grind)
  exact run5 a b h o r15_0n r14_2e r15_4n r14_6e r22_8e r23_10e r21_12e r21_14e r21_16e r23_18e r24_22e r24_24e r23_26e r23_28e r23_31e r24_33e c1 c3 c5 c7 c9 c11 c13 c15 c17 c19 c20 c21 c23 c25 c27 c29 c30 c32 c34 c35
end Go.Proofs.Ytkjbjgkjplmkhaa.Vm

namespace Go.Proofs.Ytkjbjgkjplmkhaa.fieldSquares
open Go.ChangeShapes Go.WideShapes Go.ChangeAt Go.RowKit Go.Proofs.Ytkjbjgkjplmkhaa Go.Proofs.Ytkjbjgkjplmkhaa.Vm
theorem own : ownKnob Try.prog.godebug = none := by kernel_rfl
theorem laidOut : laidOutB Try.prog = true := by kernel_rfl
set_option maxRecDepth 100000 in
theorem lifted (os : Os) (started : os.Started) (H : Type) (enc : TypeId × Value → H) :
    ReturnsInHanded {} Try.checked os 5 .any (Rows.fieldSquaresSpec.pre6 enc Try.prog Try.f5 Rows.fieldSquaresRow.domain false) (Rows.fieldSquaresSpec.post enc Try.prog Try.f5 false true false false) := by
  refine returnsInHanded_of_change_sized (C := Try.checked) own started (by kernel_rfl) Try.func5
    (ChangeSpec.witness6 (enc := enc) (C := Try.checked) false ⟨#[], #[.agg (List.replicate 32 (.int .u8 0)).toArray, .agg (List.replicate 32 (.int .u8 0)).toArray, .int .i64 0, .int .i64 0], []⟩ 8 (by kernel_rfl) (by kernel_rfl) (by kernel_rfl) (by kernel_rfl)) ?_
  intro W base args ds gs before hval0 hW hcnd hsz0 _
  have hval : ∀ (j : Nat) t v, Try.f5.params[j]? = some t → args[j]? = some v → Value.okWide Try.prog W .any base t v := hval0
  have hW' := hW
  obtain ⟨p, q, hA0, hV, rfl, hfz, hnd⟩ := hW
  have hA : DataW.TrodAll enc Try.prog W 0 (fun _ => true) true Try.f5.params.toList args.toList ds p := hA0
  rw [Try.params5] at hA hval
  obtain ⟨v0, vs0, d0, ds0, p0, q0, hargs, rfl, rfl, h0, r0⟩ := trodAll_cons hA
  obtain ⟨v1, vs1, d1, ds1, p1, q1, rfl, rfl, rfl, h1, r1⟩ := trodAll_cons r0
  obtain ⟨v2, vs2, d2, ds2, p2, q2, rfl, rfl, rfl, h2, r2⟩ := trodAll_cons r1
  obtain ⟨v3, vs3, d3, ds3, p3, q3, rfl, rfl, rfl, h3, r3⟩ := trodAll_cons r2
  obtain ⟨rfl, rfl, rfl⟩ := trodAll_nil r3
  obtain rfl : args = #[v0, v1, v2, v3] := by cases args; simp_all
  obtain ⟨rfl, rfl⟩ := trodVars_none hV
  have k0 := h0
  have k1 := h1
  obtain ⟨l0, rfl, hl0, hwl0, rfl⟩ := open_array Try.underlying22 Try.underlying5 (by kernel_rfl) (by kernel_rfl) (hval 0 22 v0 rfl rfl) h0
  obtain ⟨l1, rfl, hl1, hwl1, rfl⟩ := open_array Try.underlying22 Try.underlying5 (by kernel_rfl) (by kernel_rfl) (hval 1 22 v1 rfl rfl) h1
  obtain ⟨a2, rfl, rfl, rfl, w2⟩ := open_int Try.underlying3 (hval 2 3 v2 rfl rfl) h2
  obtain ⟨a3, rfl, rfl, rfl, w3⟩ := open_int Try.underlying3 (hval 3 3 v3 rfl rfl) h3
  clear hA0 hval0 hsz0
  have hb0 : l0 = Go.Proofs.Ytkjbjgkjplmkhaa.W.bts (numL l0) := bts_num hl0 fun x hx => okLit_u8 (hwl0 x hx)
  have hb1 : l1 = Go.Proofs.Ytkjbjgkjplmkhaa.W.bts (numL l1) := bts_num hl1 fun x hx => okLit_u8 (hwl1 x hx)
  have he2 : I64 a2 := by
    simp [Lit.wf, IntKind.min, IntKind.max, IntKind.signed, IntKind.bits] at w2
    unfold I64; omega
  have he3 : I64 a3 := by
    simp [Lit.wf, IntKind.min, IntKind.max, IntKind.signed, IntKind.bits] at w3
    unfold I64; omega
  refine ((fieldSquares_ok (numL l0) (numL l1) he2 he3).law W (vals := [.agg (l0.map (Value.int .u8)).toArray, .agg (l1.map (Value.int .u8)).toArray, .int .i64 a2, .int .i64 a3]) (fun φ => .cons ?_ (.cons ?_ (.cons rfl (.cons rfl .nil))))).mono fun e W' ⟨he, bel⟩ => ?_
  · rw [← hb0]; rfl
  · rw [← hb1]; rfl
  · subst he
    exact ⟨_, rfl, _, _, _, [], _, [], hW', trodAll_mk1 (shut_bool Try.underlying4 _), (trodAll_cons_mk (Below.trod laidOut (by kernel_rfl) (of_decide_eq_true (by kernel_rfl)) k0 bel (by simp)) (trodAll_cons_mk (Below.trod laidOut (by kernel_rfl) (of_decide_eq_true (by kernel_rfl)) k1 bel (by simp)) (trodAll_cons_mk (shut_int Try.underlying3 w2) (trodAll_cons_mk (shut_int Try.underlying3 w3) trodAll_mk0)))), rfl, bel.frame _, fun h => by cases h⟩
theorem over : Rows.fieldSquaresRow.holds Try.pinned (OpenSpec.ofChange Rows.fieldSquaresSpec) :=
  OpenClaim.holds_of_wide 5 Try.f5 rfl rfl rfl rfl rfl rfl rfl ⟨rfl, rfl, rfl, rfl, rfl⟩ rfl rfl rfl rfl rfl (by kernel_rfl) Try.func5 (by kernel_rfl)
    (of_decide_eq_true (by kernel_rfl)) (by unfold Func.isWrapper; first | (rw [if_pos (by decide +kernel)]; kernel_rfl) | (rw [if_neg (by decide +kernel)]; exact ⟨rfl, rfl⟩))
    (fun os started H enc _ => lifted os started H enc)
theorem proved : Rows.FieldSquaresSaid := over
#print axioms proved
end Go.Proofs.Ytkjbjgkjplmkhaa.fieldSquares
