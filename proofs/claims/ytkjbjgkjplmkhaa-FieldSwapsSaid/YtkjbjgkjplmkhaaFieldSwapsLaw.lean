/- FieldSwaps holds of the given program: for all its arguments the law answers true, no argument is changed, and nothing panics; there are no further conditions. -/
import Derived.Test.YtkjbjgkjplmkhaaFe
import Derived.Test.YtkjbjgkjplmkhaaFf
import Derived.Test.YtkjbjgkjplmkhaaRows
import Derived.WalkKit
import Derived.ProofKit
import Derived.OpenShut
import Derived.ChangeOld
import Derived.SizedLaws
namespace Go.Proofs.Ytkjbjgkjplmkhaa.Vm
open Go Go.Proofs Go.Proofs.Ytkjbjgkjplmkhaa
theorem fieldSwaps_ok (a b : Int) {c : Int} (hc : U64 c) : PureF Try.prog 4 [(.aggi .u8 (W.bts a)), (.aggi .u8 (W.bts b)), (.c (.int .u64 c))] (.c (.bool true)) := by
  have hm : Int.tmod c 2 = c % 2 := Int.tmod_eq_emod_of_nonneg hc.1
  have h2 : c % 2 = 0 ∨ c % 2 = 1 := by omega
  rcases h2 with h2 | h2
  · obtain ⟨r14_0e, c1, ok_r14_0e, v_r14_0e⟩ := from_el a
    have f_r14_0e := congrArg toF v_r14_0e
    change r14_0e.f = _ at f_r14_0e
    obtain ⟨r14_2e, c3, ok_r14_2e, v_r14_2e⟩ := from_el b
    have f_r14_2e := congrArg toF v_r14_2e
    change r14_2e.f = _ at f_r14_2e
    have c5 := swap_el ok_r14_0e ok_r14_2e hc
    rw [h2] at c5
    have h6 : Int.tmod c 2 = 0 := hm.trans h2
    have h8 : ((0 : Int) == 1) = false := by decide
    have c9 := known_ok
    obtain ⟨r14_10e, c11, ok_r14_10e, v_r14_10e⟩ := from_el a
    have f_r14_10e := congrArg toF v_r14_10e
    change r14_10e.f = _ at f_r14_10e
    have c12 := equal_yes ok_r14_0e ok_r14_10e (by rw [f_r14_0e, f_r14_10e])
    obtain ⟨r14_13e, c14, ok_r14_13e, v_r14_13e⟩ := from_el b
    have f_r14_13e := congrArg toF v_r14_13e
    change r14_13e.f = _ at f_r14_13e
    have c15 := equal_yes ok_r14_2e ok_r14_13e (by rw [f_r14_2e, f_r14_13e])
    obtain ⟨r16_16n, v_r16_16n⟩ : ∃ z : Int, r14_0e.v % pP = z := ⟨_, rfl⟩
    have c17 : PureF Try.prog 16 [(.aggi .u64 (W.el r14_0e))] (.aggi .u8 (W.bts r16_16n)) := v_r16_16n ▸ bytes_el ok_r14_0e
    obtain ⟨r14_18e, c19, ok_r14_18e, v_r14_18e⟩ := from_el a
    have f_r14_18e := congrArg toF v_r14_18e
    change r14_18e.f = _ at f_r14_18e
    obtain ⟨r16_20n, v_r16_20n⟩ : ∃ z : Int, r14_18e.v % pP = z := ⟨_, rfl⟩
    have c21 : PureF Try.prog 16 [(.aggi .u64 (W.el r14_18e))] (.aggi .u8 (W.bts r16_20n)) := v_r16_20n ▸ bytes_el ok_r14_18e
    have h22 : (W.bts r16_16n == W.bts r16_20n) = true := by simp [← v_r16_16n, ← v_r16_20n, v_r14_0e, v_r14_18e]
    exact run4b a b c r14_0e r14_2e r14_0e r14_2e 0 r14_10e r14_13e r16_16n r14_18e r16_20n true c1 c3 c5 h6 h8 c9 c11 c12 c14 c15 c17 c19 c21 h22
  · obtain ⟨r14_0e, c1, ok_r14_0e, v_r14_0e⟩ := from_el a
    have f_r14_0e := congrArg toF v_r14_0e
    change r14_0e.f = _ at f_r14_0e
    obtain ⟨r14_2e, c3, ok_r14_2e, v_r14_2e⟩ := from_el b
    have f_r14_2e := congrArg toF v_r14_2e
    change r14_2e.f = _ at f_r14_2e
    have c5 := swap_el ok_r14_0e ok_r14_2e hc
    rw [h2] at c5
    have h6 : Int.tmod c 2 = 1 := hm.trans h2
    have h8 : ((1 : Int) == 1) = true := by decide
    have c9 := known_ok
    obtain ⟨r14_10e, c11, ok_r14_10e, v_r14_10e⟩ := from_el a
    have f_r14_10e := congrArg toF v_r14_10e
    change r14_10e.f = _ at f_r14_10e
    have c12 := equal_yes ok_r14_0e ok_r14_10e (by rw [f_r14_0e, f_r14_10e])
    obtain ⟨r14_13e, c14, ok_r14_13e, v_r14_13e⟩ := from_el b
    have f_r14_13e := congrArg toF v_r14_13e
    change r14_13e.f = _ at f_r14_13e
    have c15 := equal_yes ok_r14_2e ok_r14_13e (by rw [f_r14_2e, f_r14_13e])
    obtain ⟨r16_16n, v_r16_16n⟩ : ∃ z : Int, r14_0e.v % pP = z := ⟨_, rfl⟩
    have c17 : PureF Try.prog 16 [(.aggi .u64 (W.el r14_0e))] (.aggi .u8 (W.bts r16_16n)) := v_r16_16n ▸ bytes_el ok_r14_0e
    obtain ⟨r14_18e, c19, ok_r14_18e, v_r14_18e⟩ := from_el a
    have f_r14_18e := congrArg toF v_r14_18e
    change r14_18e.f = _ at f_r14_18e
    obtain ⟨r16_20n, v_r16_20n⟩ : ∃ z : Int, r14_18e.v % pP = z := ⟨_, rfl⟩
    have c21 : PureF Try.prog 16 [(.aggi .u64 (W.el r14_18e))] (.aggi .u8 (W.bts r16_20n)) := v_r16_20n ▸ bytes_el ok_r14_18e
    have h22 : (W.bts r16_16n == W.bts r16_20n) = true := by simp [← v_r16_16n, ← v_r16_20n, v_r14_0e, v_r14_18e]
    exact run4 a b c r14_0e r14_2e r14_2e r14_0e 1 r14_10e r14_13e r16_16n r14_18e r16_20n true c1 c3 c5 h6 h8 c9 c11 c12 c14 c15 c17 c19 c21 h22
end Go.Proofs.Ytkjbjgkjplmkhaa.Vm

namespace Go.Proofs.Ytkjbjgkjplmkhaa.fieldSwaps
open Go.ChangeShapes Go.WideShapes Go.ChangeAt Go.RowKit Go.Proofs.Ytkjbjgkjplmkhaa Go.Proofs.Ytkjbjgkjplmkhaa.Vm
theorem own : ownKnob Try.prog.godebug = none := by kernel_rfl
theorem laidOut : laidOutB Try.prog = true := by kernel_rfl
set_option maxRecDepth 100000 in
theorem lifted (os : Os) (started : os.Started) (H : Type) (enc : TypeId × Value → H) :
    ReturnsInHanded {} Try.checked os 4 .any (Rows.fieldSwapsSpec.pre6 enc Try.prog Try.f4 Rows.fieldSwapsRow.domain false) (Rows.fieldSwapsSpec.post enc Try.prog Try.f4 false true false false) := by
  refine returnsInHanded_of_change_sized (C := Try.checked) own started (by kernel_rfl) Try.func4
    (ChangeSpec.witness6 (enc := enc) (C := Try.checked) false ⟨#[], #[.agg (List.replicate 32 (.int .u8 0)).toArray, .agg (List.replicate 32 (.int .u8 0)).toArray, .int .u64 0], []⟩ 8 (by kernel_rfl) (by kernel_rfl) (by kernel_rfl) (by kernel_rfl)) ?_
  intro W base args ds gs before hval0 hW hcnd hsz0 _
  have hval : ∀ (j : Nat) t v, Try.f4.params[j]? = some t → args[j]? = some v → Value.okWide Try.prog W .any base t v := hval0
  have hW' := hW
  obtain ⟨p, q, hA0, hV, rfl, hfz, hnd⟩ := hW
  have hA : DataW.TrodAll enc Try.prog W 0 (fun _ => true) true Try.f4.params.toList args.toList ds p := hA0
  rw [Try.params4] at hA hval
  obtain ⟨v0, vs0, d0, ds0, p0, q0, hargs, rfl, rfl, h0, r0⟩ := trodAll_cons hA
  obtain ⟨v1, vs1, d1, ds1, p1, q1, rfl, rfl, rfl, h1, r1⟩ := trodAll_cons r0
  obtain ⟨v2, vs2, d2, ds2, p2, q2, rfl, rfl, rfl, h2, r2⟩ := trodAll_cons r1
  obtain ⟨rfl, rfl, rfl⟩ := trodAll_nil r2
  obtain rfl : args = #[v0, v1, v2] := by cases args; simp_all
  obtain ⟨rfl, rfl⟩ := trodVars_none hV
  have k0 := h0
  have k1 := h1
  obtain ⟨l0, rfl, hl0, hwl0, rfl⟩ := open_array Try.underlying22 Try.underlying5 (by kernel_rfl) (by kernel_rfl) (hval 0 22 v0 rfl rfl) h0
  obtain ⟨l1, rfl, hl1, hwl1, rfl⟩ := open_array Try.underlying22 Try.underlying5 (by kernel_rfl) (by kernel_rfl) (hval 1 22 v1 rfl rfl) h1
  obtain ⟨a2, rfl, rfl, rfl, w2⟩ := open_int Try.underlying23 (hval 2 23 v2 rfl rfl) h2
  clear hA0 hval0 hsz0
  have hb0 : l0 = Go.Proofs.Ytkjbjgkjplmkhaa.W.bts (numL l0) := bts_num hl0 fun x hx => okLit_u8 (hwl0 x hx)
  have hb1 : l1 = Go.Proofs.Ytkjbjgkjplmkhaa.W.bts (numL l1) := bts_num hl1 fun x hx => okLit_u8 (hwl1 x hx)
  have he2 : U64 a2 := by
    simp [Lit.wf, IntKind.min, IntKind.max, IntKind.signed, IntKind.bits] at w2
    unfold U64; omega
  refine ((fieldSwaps_ok (numL l0) (numL l1) he2).law W (vals := [.agg (l0.map (Value.int .u8)).toArray, .agg (l1.map (Value.int .u8)).toArray, .int .u64 a2]) (fun φ => .cons ?_ (.cons ?_ (.cons rfl .nil)))).mono fun e W' ⟨he, bel⟩ => ?_
  · rw [← hb0]; rfl
  · rw [← hb1]; rfl
  · subst he
    exact ⟨_, rfl, _, _, _, [], _, [], hW', trodAll_mk1 (shut_bool Try.underlying4 _), (trodAll_cons_mk (Below.trod laidOut (by kernel_rfl) (of_decide_eq_true (by kernel_rfl)) k0 bel (by simp)) (trodAll_cons_mk (Below.trod laidOut (by kernel_rfl) (of_decide_eq_true (by kernel_rfl)) k1 bel (by simp)) (trodAll_cons_mk (shut_int Try.underlying23 w2) trodAll_mk0))), rfl, bel.frame _, fun h => by cases h⟩
theorem over : Rows.fieldSwapsRow.holds Try.pinned (OpenSpec.ofChange Rows.fieldSwapsSpec) :=
  OpenClaim.holds_of_wide 4 Try.f4 rfl rfl rfl rfl rfl rfl rfl ⟨rfl, rfl, rfl, rfl, rfl⟩ rfl rfl rfl rfl rfl (by kernel_rfl) Try.func4 (by kernel_rfl)
    (of_decide_eq_true (by kernel_rfl)) (by unfold Func.isWrapper; first | (rw [if_pos (by decide +kernel)]; kernel_rfl) | (rw [if_neg (by decide +kernel)]; exact ⟨rfl, rfl⟩))
    (fun os started H enc _ => lifted os started H enc)
theorem proved : Rows.FieldSwapsSaid := over
#print axioms proved
end Go.Proofs.Ytkjbjgkjplmkhaa.fieldSwaps
