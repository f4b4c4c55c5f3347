/- What functions of the program come to: parts of the walk (PolyTagsLaw). -/
import Derived.Test.YtmfnldkiaodkpaaGf
import Derived.Test.YtmfnldkiaodkpaaRows
import Derived.Test.YtmfnldkiaodkpaaBulk
import Derived.WalkKit
import Derived.ProofKit
import Derived.OpenShut
import Derived.ChangeOld
import Derived.SizedLaws
import Derived.ChangeSlices
import Derived.JoinedCond
set_option linter.unusedSimpArgs false
set_option linter.unusedVariables false
namespace Go.Proofs.Ytmfnldkiaodkpaa.polyTags
open Go.ChangeShapes Go.WideShapes Go.ChangeAt Go.RowKit Go.Proofs.Ytmfnldkiaodkpaa Go.Proofs.Ytmfnldkiaodkpaa.Vm
theorem own : ownKnob Try.prog.godebug = none := by kernel_rfl
theorem laidOut : laidOutB Try.prog = true := by kernel_rfl
set_option maxRecDepth 100000 in
theorem lifted (os : Os) (started : os.Started) (H : Type) (enc : TypeId × Value → H) (F : Stop.Interp) :
    ReturnsInHanded {} Try.checked os 3 .any ((Rows.OpenSpec.upto Rows.polyTagsSpec).pre6 enc Try.prog Try.f3 Rows.polyTagsUptoRow.domain false) (((Rows.OpenSpec.upto Rows.polyTagsSpec).at F).post enc Try.prog Try.f3 false true false false) := by
  refine returnsInHanded_of_cond (C := Try.checked) (s := Rows.OpenSpec.upto Rows.polyTagsSpec) (k := Rows.uptoSmall) rfl own started (by kernel_rfl) Try.func3
    (OpenSpec.witness (enc := enc) (C := Try.checked) (s := Rows.OpenSpec.upto Rows.polyTagsSpec) (k := Rows.uptoSmall) rfl false ⟨#[], #[.agg (List.replicate 32 (.int .u8 0)).toArray, .slice none 0 0, .int .i64 0, .int .i64 0], []⟩ 8 (by kernel_rfl) (by kernel_rfl) (by kernel_rfl)
      (x := ([.agg (List.replicate 32 (.lit (.int .u8 0))), .nil, .lit (.int .i64 0), .lit (.int .i64 0)], [], [])) (by kernel_rfl) rfl (by kernel_rfl)) ?_
  intro W base args ds gs before hval0 hW _ hk _
  have hval : ∀ (j : Nat) t v, Try.f3.params[j]? = some t → args[j]? = some v → Value.okWide Try.prog W .any base t v := hval0
  have hW' := hW
  obtain ⟨p, q, hA0, hV, rfl, hfz, hnd⟩ := hW
  have hA : DataW.TrodAll enc Try.prog W 0 (fun _ => true) true Try.f3.params.toList args.toList ds p := hA0
  rw [Try.params3] at hA hval
  obtain ⟨v0, vs0, d0, ds0, p0, q0, hargs, rfl, rfl, h0, r0⟩ := trodAll_cons hA
  obtain ⟨v1, vs1, d1, ds1, p1, q1, rfl, rfl, rfl, h1, r1⟩ := trodAll_cons r0
  obtain ⟨v2, vs2, d2, ds2, p2, q2, rfl, rfl, rfl, h2, r2⟩ := trodAll_cons r1
  obtain ⟨v3, vs3, d3, ds3, p3, q3, rfl, rfl, rfl, h3, r3⟩ := trodAll_cons r2
  obtain ⟨rfl, rfl, rfl⟩ := trodAll_nil r3
  obtain rfl : args = #[v0, v1, v2, v3] := by cases args; simp_all
  obtain ⟨rfl, rfl⟩ := trodVars_none hV
  have k0 := h0
  have k1 := h1
  obtain ⟨l0, rfl, hl0, hwl0, rfl⟩ := open_array Try.underlying22 Try.underlying5 (by kernel_rfl) (by kernel_rfl) (hval 0 22 v0 rfl rfl) h0
  obtain ⟨a1, len1, cap1, rfl⟩ := okWide_slice Try.underlying23 (hval 1 23 v1 rfl rfl)
  have lt1 : ∀ x ∈ p1, x.block < W.heap.size := by obtain ⟨m, hm⟩ := k1; exact DataW.trod_lt m _ _ _ hm
  obtain ⟨fuel1, hf1⟩ := h1
  obtain ⟨zs1, hs1, hwz1, hd1⟩ := open_src Try.underlying23 Try.underlying5 (by kernel_rfl) hf1
  obtain ⟨a2, rfl, rfl, rfl, w2⟩ := open_int Try.underlying3 (hval 2 3 v2 rfl rfl) h2
  obtain ⟨a3, rfl, rfl, rfl, w3⟩ := open_int Try.underlying3 (hval 3 3 v3 rfl rfl) h3
  have hb0 : Go.Proofs.Ytmfnldkiaodkpaa.W.bytes l0 := fun x hx => okLit_u8 (hwl0 x hx)
  have hb1 : Go.Proofs.Ytmfnldkiaodkpaa.W.bytes zs1 := fun x hx => okLit_u8 (hwz1 x hx)
  have hsm1 : zs1.length ≤ 1048576 := by
    rcases hd1 with h0 | h0
    · rw [h0]; exact Nat.zero_le _
    · have h1 : Rows.uptoBulk d1 ≤ 1048576 := by
        refine Nat.le_trans (bulks.part_le ?_) (bulks.bound hk)
        simp
      have h3 : d1 = _ := h0
      rw [h3] at h1
      have h4 := bulks.slice_le (lits (H := H) .u8 (zs1.take len1)) (lits .u8 (zs1.drop len1))
      rw [lits_len, lits_len, List.length_take, List.length_drop] at h4
      have h5 := Nat.le_trans h4 h1
      omega
  have he2 : -9223372036854775808 ≤ a2 ∧ a2 < 9223372036854775808 := by
    simp [Lit.wf, IntKind.min, IntKind.max, IntKind.signed, IntKind.bits] at w2
    omega
  have he3 : -9223372036854775808 ≤ a3 ∧ a3 < 9223372036854775808 := by
    simp [Lit.wf, IntKind.min, IntKind.max, IntKind.signed, IntKind.bits] at w3
    omega
  obtain ⟨lc1, hat1, hv1⟩ := hs1.loc
  have main : Calls Try.prog 3 [.agg (l0.map (Value.int .u8)).toArray, .slice a1 len1 cap1, .int .i64 a2, .int .i64 a3].toArray W fun e W' => e = .returned (.bool true) ∧ Below W.heap.size W W' :=
    Contract0.law_rows [(.u8, zs1)] (polyTags_law l0 hl0 hb0 zs1 len1 hs1.le hb1 hsm1 a2 he2 a3 he3) W [lc1] (.cons hat1 .nil) (.cons rfl (.cons (hv1 _ 1 rfl) (.cons rfl (.cons rfl .nil))))
  refine main.mono fun e W' ⟨he, bel⟩ => ?_
  subst he
  exact ⟨_, rfl, _, _, _, [], _, [], hW', trodAll_mk1 (shut_bool Try.underlying4 _), (trodAll_cons_mk (Below.trod laidOut (by kernel_rfl) (of_decide_eq_true (by kernel_rfl)) k0 bel (by simp)) (trodAll_cons_mk (Below.trod laidOut (by kernel_rfl) (of_decide_eq_true (by kernel_rfl)) k1 bel lt1) (trodAll_cons_mk (shut_int Try.underlying3 w2) (trodAll_cons_mk (shut_int Try.underlying3 w3) trodAll_mk0)))), rfl, bel.frame _, fun h => by cases h⟩
theorem over : Rows.polyTagsUptoRow.holds Try.pinned (Rows.OpenSpec.upto Rows.polyTagsSpec) :=
  OpenClaim.holds_of_cond 3 Try.f3 rfl rfl rfl rfl rfl rfl rfl ⟨rfl, rfl, rfl, rfl, rfl⟩ rfl rfl rfl rfl rfl (by kernel_rfl) Try.func3 (by kernel_rfl)
    (of_decide_eq_true (by kernel_rfl)) (by unfold Func.isWrapper; first | (rw [if_pos (by decide +kernel)]; kernel_rfl) | (rw [if_neg (by decide +kernel)]; exact ⟨rfl, rfl⟩))
    (fun os started H enc _ F => lifted os started H enc F)
theorem proved : Rows.PolyTagsUptoSaid := over
#print axioms proved
end Go.Proofs.Ytmfnldkiaodkpaa.polyTags
