/- What functions of the program come to: parts of the walk (RenderStepsLaw). -/
import Derived.Test.YtohleiikedpmkaaGf
import Derived.Test.YtohleiikedpmkaaRows
import Derived.Test.YtohleiikedpmkaaBulk
import Derived.Test.YtohleiikedpmkaaVmc
import Derived.WalkKit
import Derived.ProofKit
import Derived.OpenShut
import Derived.ChangeOld
import Derived.SizedLaws
import Derived.ChangeSlices
import Derived.JoinedCond
set_option linter.unusedSimpArgs false
set_option linter.unusedVariables false
namespace Go.Proofs.Ytohleiikedpmkaa.renderSteps
open Go.ChangeShapes Go.WideShapes Go.ChangeAt Go.RowKit Go.Proofs.Ytohleiikedpmkaa Go.Proofs.Ytohleiikedpmkaa.Vm
theorem own : ownKnob Try.prog.godebug = none := by kernel_rfl
theorem laidOut : laidOutB Try.prog = true := by kernel_rfl
set_option maxRecDepth 100000 in
theorem lifted (os : Os) (started : os.Started) (H : Type) (enc : TypeId × Value → H) (F : Stop.Interp) :
    ReturnsInHanded {} Try.checked os 9 .any ((Rows.OpenSpec.upto Rows.renderStepsSpec).pre6 enc Try.prog Try.f9 Rows.renderStepsUptoRow.domain false) (((Rows.OpenSpec.upto Rows.renderStepsSpec).at F).post enc Try.prog Try.f9 false true false false) := by
  refine returnsInHanded_of_cond (C := Try.checked) (s := Rows.OpenSpec.upto Rows.renderStepsSpec) (k := Rows.uptoSmall) rfl own started (by kernel_rfl) Try.func9
    (OpenSpec.witness (enc := enc) (C := Try.checked) (s := Rows.OpenSpec.upto Rows.renderStepsSpec) (k := Rows.uptoSmall) rfl false ⟨#[], #[.int .i64 0, .int .i64 0, .slice none 0 0, .slice none 0 0], []⟩ 8 (by kernel_rfl) (by kernel_rfl) (by kernel_rfl)
      (x := ([.lit (.int .i64 0), .lit (.int .i64 0), .nil, .nil], [], [])) (by kernel_rfl) rfl (by kernel_rfl)) ?_
  intro W base args ds gs before hval0 hW _ hk _
  have hval : ∀ (j : Nat) t v, Try.f9.params[j]? = some t → args[j]? = some v → Value.okWide Try.prog W .any base t v := hval0
  have hW' := hW
  obtain ⟨p, q, hA0, hV, rfl, hfz, hnd⟩ := hW
  have hA : DataW.TrodAll enc Try.prog W 0 (fun _ => true) true Try.f9.params.toList args.toList ds p := hA0
  rw [Try.params9] at hA hval
  obtain ⟨v0, vs0, d0, ds0, p0, q0, hargs, rfl, rfl, h0, r0⟩ := trodAll_cons hA
  obtain ⟨v1, vs1, d1, ds1, p1, q1, rfl, rfl, rfl, h1, r1⟩ := trodAll_cons r0
  obtain ⟨v2, vs2, d2, ds2, p2, q2, rfl, rfl, rfl, h2, r2⟩ := trodAll_cons r1
  obtain ⟨v3, vs3, d3, ds3, p3, q3, rfl, rfl, rfl, h3, r3⟩ := trodAll_cons r2
  obtain ⟨rfl, rfl, rfl⟩ := trodAll_nil r3
  obtain rfl : args = #[v0, v1, v2, v3] := by cases args; simp_all
  obtain ⟨rfl, rfl⟩ := trodVars_none hV
  have k2 := h2
  have k3 := h3
  obtain ⟨a0, rfl, rfl, rfl, w0⟩ := open_int Try.underlying3 (hval 0 3 v0 rfl rfl) h0
  obtain ⟨a1, rfl, rfl, rfl, w1⟩ := open_int Try.underlying3 (hval 1 3 v1 rfl rfl) h1
  obtain ⟨a2, len2, cap2, rfl⟩ := okWide_slice Try.underlying57 (hval 2 57 v2 rfl rfl)
  have lt2 : ∀ x ∈ p2, x.block < W.heap.size := by obtain ⟨m, hm⟩ := k2; exact DataW.trod_lt m _ _ _ hm
  obtain ⟨fuel2, hf2⟩ := h2
  obtain ⟨N2, ln2, T2, hs2, hwz2, hd2⟩ := open_srcR Try.underlying57 Try.underlying22 Try.underlying3 (by kernel_rfl) (by kernel_rfl) hf2
  obtain ⟨a3, len3, cap3, rfl⟩ := okWide_slice Try.underlying22 (hval 3 22 v3 rfl rfl)
  have lt3 : ∀ x ∈ p3, x.block < W.heap.size := by obtain ⟨m, hm⟩ := k3; exact DataW.trod_lt m _ _ _ hm
  obtain ⟨fuel3, hf3⟩ := h3
  obtain ⟨zs3, hs3, hwz3, hd3⟩ := open_src Try.underlying22 Try.underlying3 (by kernel_rfl) hf3
  have he0 : -9223372036854775808 ≤ a0 ∧ a0 < 9223372036854775808 := by
    simp [Lit.wf, IntKind.min, IntKind.max, IntKind.signed, IntKind.bits] at w0
    omega
  have he1 : -9223372036854775808 ≤ a1 ∧ a1 < 9223372036854775808 := by
    simp [Lit.wf, IntKind.min, IntKind.max, IntKind.signed, IntKind.bits] at w1
    omega
  have hb3 : ∀ j, -9223372036854775808 ≤ List.getD zs3 j 0 ∧ List.getD zs3 j 0 < 9223372036854775808 := by
    intro j
    by_cases h : j < zs3.length
    · have hz := hwz3 _ (List.getElem_mem h)
      rw [List.getD_eq_getElem?_getD, List.getElem?_eq_getElem h, Option.getD_some]
      simp [Lit.wf, IntKind.min, IntKind.max, IntKind.signed, IntKind.bits] at hz
      omega
    · rw [List.getD_eq_getElem?_getD, List.getElem?_eq_none (by omega), Option.getD_none]; omega
  have hsm3 : zs3.length ≤ 1048576 := by
    rcases hd3 with h0 | h0
    · rw [h0]; exact Nat.zero_le _
    · have h1 : Rows.uptoBulk d3 ≤ 1048576 := by
        refine Nat.le_trans (bulks.part_le ?_) (bulks.bound hk)
        simp
      have h3 : d3 = _ := h0
      rw [h3] at h1
      have h4 := bulks.slice_le (lits (H := H) .i64 (zs3.take len3)) (lits .i64 (zs3.drop len3))
      rw [lits_len, lits_len, List.length_take, List.length_drop] at h4
      have h5 := Nat.le_trans h4 h1
      omega
  have hb2 : ∀ r j, -9223372036854775808 ≤ List.getD (T2 r) j 0 ∧ List.getD (T2 r) j 0 < 9223372036854775808 := by
    intro r j
    by_cases h : j < (T2 r).length
    · have hz := hwz2 r _ (List.getElem_mem h)
      rw [List.getD_eq_getElem?_getD, List.getElem?_eq_getElem h, Option.getD_some]
      simp [Lit.wf, IntKind.min, IntKind.max, IntKind.signed, IntKind.bits] at hz
      omega
    · rw [List.getD_eq_getElem?_getD, List.getElem?_eq_none (by omega), Option.getD_none]; omega
  have h12 : Rows.uptoBulk d2 ≤ 1048576 := by
    refine Nat.le_trans (bulks.part_le ?_) (bulks.bound hk)
    simp
  have hlen2 : len2 ≤ 1048576 := by
    rcases hd2 with h0 | ⟨E, S, hE, hEl, _⟩
    · have := hs2.le; omega
    · have hE : d2 = _ := hE
      rw [hE] at h12
      have := bulks.slice_le E S; omega
  have hsm2 : ∀ r, (T2 r).length ≤ 1048576 := by
    intro r
    rcases hd2 with h0 | ⟨E, S, hE, _, hz⟩
    · rw [(hs2.1 r (by omega)).1]; exact Nat.zero_le _
    · have hE : d2 = _ := hE
      rcases hz r with e | ⟨z, hm, hzs⟩
      · rw [e]; exact Nat.zero_le _
      · have q1 := bulks.row_le hm
        rw [← hE, hzs] at q1
        have q2 := bulks.slice_le (lits (H := H) .i64 ((T2 r).take (ln2 r))) (lits .i64 ((T2 r).drop (ln2 r)))
        rw [lits_len, lits_len, List.length_take, List.length_drop] at q2
        omega
  obtain ⟨lc2, hat2, hv2⟩ := hs2.loc 1
  obtain ⟨lc3, hat3, hv3⟩ := hs3.loc
  have main : Calls Try.prog 9 [.int .i64 a0, .int .i64 a1, .slice a2 len2 cap2, .slice a3 len3 cap3].toArray W fun e W' => e = .returned (.bool true) ∧ Below W.heap.size W W' :=
    Contract0.law_src [.fam ⟨false, false, .gen N2 (fun j => C.sl 2 j 0 (ln2 j) 1)⟩ (fun j => ⟨false, false, .ints .i64 (T2 j)⟩), .one ⟨false, false, .ints .i64 zs3⟩] (renderSteps_law a0 he0 a1 he1 N2 ln2 T2 len2 hs2.le hs2.lens hb2 hsm2 hlen2 zs3 len3 hs3.le hb3 hsm3) W [.fam lc2, .one lc3] ⟨hat2, ⟨hat3, trivial⟩⟩ (.cons rfl (.cons rfl (.cons (hv2 _ rfl) (.cons (hv3 _ 3 rfl) .nil))))
  refine main.mono fun e W' ⟨he, bel⟩ => ?_
  subst he
  exact ⟨_, rfl, _, _, _, [], _, [], hW', trodAll_mk1 (shut_bool Try.underlying4 _), (trodAll_cons_mk (shut_int Try.underlying3 w0) (trodAll_cons_mk (shut_int Try.underlying3 w1) (trodAll_cons_mk (Below.trod laidOut (by kernel_rfl) (of_decide_eq_true (by kernel_rfl)) k2 bel lt2) (trodAll_cons_mk (Below.trod laidOut (by kernel_rfl) (of_decide_eq_true (by kernel_rfl)) k3 bel lt3) trodAll_mk0)))), rfl, bel.frame _, fun h => by cases h⟩
theorem over : Rows.renderStepsUptoRow.holds Try.pinned (Rows.OpenSpec.upto Rows.renderStepsSpec) :=
  OpenClaim.holds_of_cond 9 Try.f9 rfl rfl rfl rfl rfl rfl rfl ⟨rfl, rfl, rfl, rfl, rfl⟩ rfl rfl rfl rfl rfl (by kernel_rfl) Try.func9 (by kernel_rfl)
    (of_decide_eq_true (by kernel_rfl)) (by unfold Func.isWrapper; first | (rw [if_pos (by decide +kernel)]; kernel_rfl) | (rw [if_neg (by decide +kernel)]; exact ⟨rfl, rfl⟩))
    (fun os started H enc _ F => lifted os started H enc F)
theorem proved : Rows.RenderStepsUptoSaid := over
#print axioms proved
end Go.Proofs.Ytohleiikedpmkaa.renderSteps
