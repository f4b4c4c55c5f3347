/- FieldInverts holds of the given program: for all its arguments the law answers true, no argument is changed, and nothing panics; there are no further conditions. -/
import Derived.Test.YtkjbjgkjplmkhaaFg
import Derived.Test.YtkjbjgkjplmkhaaFf
import Derived.Test.YtkjbjgkjplmkhaaRows
import Derived.WalkKit
import Derived.ProofKit
import Derived.OpenShut
import Derived.ChangeOld
import Derived.SizedLaws
namespace Go.Proofs.Ytkjbjgkjplmkhaa.Vm
open Go Go.Proofs Go.Proofs.Ytkjbjgkjplmkhaa
theorem fieldInverts_ok (a b : Int) {h : Int} (i_h : I64 h) : PureF Try.prog 7 [(.aggi .u8 (W.bts a)), (.aggi .u8 (W.bts b)), (.c (.int .i64 h))] (.c (.bool true)) := by
  obtain ⟨r15_0n, c1⟩ := edge_ok a i_h
  obtain ⟨r14_2e, c3, ok_r14_2e, v_r14_2e⟩ := from_el r15_0n
  have f_r14_2e := congrArg toF v_r14_2e
  change r14_2e.f = _ at f_r14_2e
  obtain ⟨r14_4e, c5, ok_r14_4e, v_r14_4e⟩ := from_el b
  have f_r14_4e := congrArg toF v_r14_4e
  change r14_4e.f = _ at f_r14_4e
  have c6 := known_ok
  obtain ⟨r27_7e, c8, ok_r27_7e, f_r27_7e⟩ := inv_el ok_r14_2e
  obtain ⟨r27_9e, c10, ok_r27_9e, f_r27_9e⟩ := inv_el ok_r27_7e
  have c11 := equal_yes ok_r27_9e ok_r14_2e (by rw [f_r27_9e, f_r27_7e, finv_finv])
  obtain ⟨r21_12e, c13, ok_r21_12e, f_r21_12e⟩ := mul_el ok_r14_2e ok_r14_4e
  obtain ⟨r27_14e, c15, ok_r27_14e, f_r27_14e⟩ := inv_el ok_r21_12e
  obtain ⟨r27_16e, c17, ok_r27_16e, f_r27_16e⟩ := inv_el ok_r14_2e
  obtain ⟨r27_18e, c19, ok_r27_18e, f_r27_18e⟩ := inv_el ok_r14_4e
  obtain ⟨r21_20e, c21, ok_r21_20e, f_r21_20e⟩ := mul_el ok_r27_16e ok_r27_18e
  have c22 := equal_yes ok_r27_14e ok_r21_20e (by rw [f_r27_14e, f_r21_12e, f_r21_20e, f_r27_16e, f_r27_18e, finv_mul])
  exact run7 a b h r15_0n r14_2e r14_4e r27_7e r27_9e r21_12e r27_14e r27_16e r27_18e r21_20e c1 c3 c5 c6 c8 c10 c11 c13 c15 c17 c19 c21 c22
end Go.Proofs.Ytkjbjgkjplmkhaa.Vm

namespace Go.Proofs.Ytkjbjgkjplmkhaa.fieldInverts
open Go.ChangeShapes Go.WideShapes Go.ChangeAt Go.RowKit Go.Proofs.Ytkjbjgkjplmkhaa Go.Proofs.Ytkjbjgkjplmkhaa.Vm
theorem own : ownKnob Try.prog.godebug = none := by kernel_rfl
theorem laidOut : laidOutB Try.prog = true := by kernel_rfl
set_option maxRecDepth 100000 in
theorem lifted (os : Os) (started : os.Started) (H : Type) (enc : TypeId × Value → H) :
    ReturnsInHanded {} Try.checked os 7 .any (Rows.fieldInvertsSpec.pre6 enc Try.prog Try.f7 Rows.fieldInvertsRow.domain false) (Rows.fieldInvertsSpec.post enc Try.prog Try.f7 false true false false) := by
  refine returnsInHanded_of_change_sized (C := Try.checked) own started (by kernel_rfl) Try.func7
    (ChangeSpec.witness6 (enc := enc) (C := Try.checked) false ⟨#[], #[.agg (List.replicate 32 (.int .u8 0)).toArray, .agg (List.replicate 32 (.int .u8 0)).toArray, .int .i64 0], []⟩ 8 (by kernel_rfl) (by kernel_rfl) (by kernel_rfl) (by kernel_rfl)) ?_
  intro W base args ds gs before hval0 hW hcnd hsz0 _
  have hval : ∀ (j : Nat) t v, Try.f7.params[j]? = some t → args[j]? = some v → Value.okWide Try.prog W .any base t v := hval0
  have hW' := hW
  obtain ⟨p, q, hA0, hV, rfl, hfz, hnd⟩ := hW
  have hA : DataW.TrodAll enc Try.prog W 0 (fun _ => true) true Try.f7.params.toList args.toList ds p := hA0
  rw [Try.params7] at hA hval
  obtain ⟨v0, vs0, d0, ds0, p0, q0, hargs, rfl, rfl, h0, r0⟩ := trodAll_cons hA
  obtain ⟨v1, vs1, d1, ds1, p1, q1, rfl, rfl, rfl, h1, r1⟩ := trodAll_cons r0
  obtain ⟨v2, vs2, d2, ds2, p2, q2, rfl, rfl, rfl, h2, r2⟩ := trodAll_cons r1
  obtain ⟨rfl, rfl, rfl⟩ := trodAll_nil r2
  obtain rfl : args = #[v0, v1, v2] := by cases args; simp_all
  obtain ⟨rfl, rfl⟩ := trodVars_none hV
  have k0 := h0
  have k1 := h1
  obtain ⟨l0, rfl, hl0, hwl0, rfl⟩ := open_array Try.underlying22 Try.underlying5 (by kernel_rfl) (by kernel_rfl) (hval 0 22 v0 rfl rfl) h0
  obtain ⟨l1, rfl, hl1, hwl1, rfl⟩ := open_array Try.underlying22 Try.underlying5 (by kernel_rfl) (by kernel_rfl) (hval 1 22 v1 rfl rfl) h1
  obtain ⟨a2, rfl, rfl, rfl, w2⟩ := open_int Try.underlying3 (hval 2 3 v2 rfl rfl) h2
  clear hA0 hval0 hsz0
  have hb0 : l0 = Go.Proofs.Ytkjbjgkjplmkhaa.W.bts (numL l0) := bts_num hl0 fun x hx => okLit_u8 (hwl0 x hx)
  have hb1 : l1 = Go.Proofs.Ytkjbjgkjplmkhaa.W.bts (numL l1) := bts_num hl1 fun x hx => okLit_u8 (hwl1 x hx)
  have he2 : I64 a2 := by
    simp [Lit.wf, IntKind.min, IntKind.max, IntKind.signed, IntKind.bits] at w2
    unfold I64; omega
  refine ((fieldInverts_ok (numL l0) (numL l1) he2).law W (vals := [.agg (l0.map (Value.int .u8)).toArray, .agg (l1.map (Value.int .u8)).toArray, .int .i64 a2]) (fun φ => .cons ?_ (.cons ?_ (.cons rfl .nil)))).mono fun e W' ⟨he, bel⟩ => ?_
  · rw [← hb0]; rfl
  · rw [← hb1]; rfl
  · subst he
    exact ⟨_, rfl, _, _, _, [], _, [], hW', trodAll_mk1 (shut_bool Try.underlying4 _), (trodAll_cons_mk (Below.trod laidOut (by kernel_rfl) (of_decide_eq_true (by kernel_rfl)) k0 bel (by simp)) (trodAll_cons_mk (Below.trod laidOut (by kernel_rfl) (of_decide_eq_true (by kernel_rfl)) k1 bel (by simp)) (trodAll_cons_mk (shut_int Try.underlying3 w2) trodAll_mk0))), rfl, bel.frame _, fun h => by cases h⟩
theorem over : Rows.fieldInvertsRow.holds Try.pinned (OpenSpec.ofChange Rows.fieldInvertsSpec) :=
  OpenClaim.holds_of_wide 7 Try.f7 rfl rfl rfl rfl rfl rfl rfl ⟨rfl, rfl, rfl, rfl, rfl⟩ rfl rfl rfl rfl rfl (by kernel_rfl) Try.func7 (by kernel_rfl)
    (of_decide_eq_true (by kernel_rfl)) (by unfold Func.isWrapper; first | (rw [if_pos (by decide +kernel)]; kernel_rfl) | (rw [if_neg (by decide +kernel)]; exact ⟨rfl, rfl⟩))
    (fun os started H enc _ => lifted os started H enc)
theorem proved : Rows.FieldInvertsSaid := over
#print axioms proved
end Go.Proofs.Ytkjbjgkjplmkhaa.fieldInverts
