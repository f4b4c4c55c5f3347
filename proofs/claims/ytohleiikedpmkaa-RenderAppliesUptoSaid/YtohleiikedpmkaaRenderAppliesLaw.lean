/- What functions of the program come to: parts of the walk (RenderAppliesLaw). -/
import Derived.Test.YtohleiikedpmkaaGj
import Derived.Test.YtohleiikedpmkaaRows
import Derived.Test.YtohleiikedpmkaaBulk
import Derived.Test.YtohleiikedpmkaaVmc
import Derived.WalkKit
import Derived.ProofKit
import Derived.OpenShut
import Derived.ChangeOld
import Derived.SizedLaws
import Derived.ChangeSlices
import Derived.JoinedCond
set_option linter.unusedSimpArgs false
set_option linter.unusedVariables false
namespace Go.Proofs.Ytohleiikedpmkaa.renderApplies
open Go.ChangeShapes Go.WideShapes Go.ChangeAt Go.RowKit Go.Proofs.Ytohleiikedpmkaa Go.Proofs.Ytohleiikedpmkaa.Vm
theorem own : ownKnob Try.prog.godebug = none := by kernel_rfl
theorem laidOut : laidOutB Try.prog = true := by kernel_rfl
set_option maxRecDepth 100000 in
theorem lifted (os : Os) (started : os.Started) (H : Type) (enc : TypeId × Value → H) (F : Stop.Interp) :
    ReturnsInHanded {} Try.checked os 4 .any ((Rows.OpenSpec.upto Rows.renderAppliesSpec).pre6 enc Try.prog Try.f4 Rows.renderAppliesUptoRow.domain false) (((Rows.OpenSpec.upto Rows.renderAppliesSpec).at F).post enc Try.prog Try.f4 false true false false) := by
  refine returnsInHanded_of_cond (C := Try.checked) (s := Rows.OpenSpec.upto Rows.renderAppliesSpec) (k := Rows.uptoSmall) rfl own started (by kernel_rfl) Try.func4
    (OpenSpec.witness (enc := enc) (C := Try.checked) (s := Rows.OpenSpec.upto Rows.renderAppliesSpec) (k := Rows.uptoSmall) rfl false ⟨#[], #[.int .i64 0, .int .i64 0, .slice none 0 0, .slice none 0 0, .int .i64 0, .int .i64 0, .agg #[.int .i64 0, .int .i64 0, .int .i64 0, .int .i64 0, .bool false, .slice none 0 0], .bool false], []⟩ 8 (by kernel_rfl) (by kernel_rfl) (by kernel_rfl)
      (x := ([.lit (.int .i64 0), .lit (.int .i64 0), .nil, .nil, .lit (.int .i64 0), .lit (.int .i64 0), .agg [.lit (.int .i64 0), .lit (.int .i64 0), .lit (.int .i64 0), .lit (.int .i64 0), .lit (.bool false), .nil], .lit (.bool false)], [], [])) (by kernel_rfl) rfl (by kernel_rfl)) ?_
  intro W base args ds gs before hval0 hW _ hk _
  have hval : ∀ (j : Nat) t v, Try.f4.params[j]? = some t → args[j]? = some v → Value.okWide Try.prog W .any base t v := hval0
  have hW' := hW
  obtain ⟨p, q, hA0, hV, rfl, hfz, hnd⟩ := hW
  have hA : DataW.TrodAll enc Try.prog W 0 (fun _ => true) true Try.f4.params.toList args.toList ds p := hA0
  rw [Try.params4] at hA hval
  obtain ⟨v0, vs0, d0, ds0, p0, q0, hargs, rfl, rfl, h0, r0⟩ := trodAll_cons hA
  obtain ⟨v1, vs1, d1, ds1, p1, q1, rfl, rfl, rfl, h1, r1⟩ := trodAll_cons r0
  obtain ⟨v2, vs2, d2, ds2, p2, q2, rfl, rfl, rfl, h2, r2⟩ := trodAll_cons r1
  obtain ⟨v3, vs3, d3, ds3, p3, q3, rfl, rfl, rfl, h3, r3⟩ := trodAll_cons r2
  obtain ⟨v4, vs4, d4, ds4, p4, q4, rfl, rfl, rfl, h4, r4⟩ := trodAll_cons r3
  obtain ⟨v5, vs5, d5, ds5, p5, q5, rfl, rfl, rfl, h5, r5⟩ := trodAll_cons r4
  obtain ⟨v6, vs6, d6, ds6, p6, q6, rfl, rfl, rfl, h6, r6⟩ := trodAll_cons r5
  obtain ⟨v7, vs7, d7, ds7, p7, q7, rfl, rfl, rfl, h7, r7⟩ := trodAll_cons r6
  obtain ⟨rfl, rfl, rfl⟩ := trodAll_nil r7
  obtain rfl : args = #[v0, v1, v2, v3, v4, v5, v6, v7] := by cases args; simp_all
  obtain ⟨rfl, rfl⟩ := trodVars_none hV
  have k2 := h2
  have k3 := h3
  have k6 := h6
  obtain ⟨a0, rfl, rfl, rfl, w0⟩ := open_int Try.underlying3 (hval 0 3 v0 rfl rfl) h0
  obtain ⟨a1, rfl, rfl, rfl, w1⟩ := open_int Try.underlying3 (hval 1 3 v1 rfl rfl) h1
  obtain ⟨a2, len2, cap2, rfl⟩ := okWide_slice Try.underlying22 (hval 2 22 v2 rfl rfl)
  have lt2 : ∀ x ∈ p2, x.block < W.heap.size := by obtain ⟨m, hm⟩ := k2; exact DataW.trod_lt m _ _ _ hm
  obtain ⟨fuel2, hf2⟩ := h2
  obtain ⟨zs2, hs2, hwz2, hd2⟩ := open_src Try.underlying22 Try.underlying3 (by kernel_rfl) hf2
  obtain ⟨a3, len3, cap3, rfl⟩ := okWide_slice Try.underlying22 (hval 3 22 v3 rfl rfl)
  have lt3 : ∀ x ∈ p3, x.block < W.heap.size := by obtain ⟨m, hm⟩ := k3; exact DataW.trod_lt m _ _ _ hm
  obtain ⟨fuel3, hf3⟩ := h3
  obtain ⟨zs3, hs3, hwz3, hd3⟩ := open_src Try.underlying22 Try.underlying3 (by kernel_rfl) hf3
  obtain ⟨a4, rfl, rfl, rfl, w4⟩ := open_int Try.underlying3 (hval 4 3 v4 rfl rfl) h4
  obtain ⟨a5, rfl, rfl, rfl, w5⟩ := open_int Try.underlying3 (hval 5 3 v5 rfl rfl) h5
  have lt6 : ∀ x ∈ p6, x.block < W.heap.size := by obtain ⟨m, hm⟩ := k6; exact DataW.trod_lt m _ _ _ hm
  obtain ⟨cs6, rfl, _⟩ := okWide_struct Try.underlying29 (hval 6 29 v6 rfl rfl)
  obtain ⟨fuel6, hf6⟩ := h6
  have h16 : Rows.uptoBulk d6 ≤ 1048576 := by
    refine Nat.le_trans (bulks.part_le ?_) (bulks.bound hk)
    simp
  obtain ⟨pr6, pc6, po6, pq6, ph6, a6, len6, cap6, hcs6, ⟨I6⟩⟩ := open_pat (cs := cs6.toList) 3 hf6 h16
  obtain rfl : cs6 = #[.int .i64 pr6, .int .i64 pc6, .int .i64 po6, .int .i64 pq6, .bool ph6, .slice a6 len6 cap6] := Array.ext' hcs6
  obtain ⟨b7, rfl, rfl, rfl⟩ := open_bool Try.underlying4 (hval 7 4 v7 rfl rfl) h7
  have he0 : -9223372036854775808 ≤ a0 ∧ a0 < 9223372036854775808 := by
    simp [Lit.wf, IntKind.min, IntKind.max, IntKind.signed, IntKind.bits] at w0
    omega
  have he1 : -9223372036854775808 ≤ a1 ∧ a1 < 9223372036854775808 := by
    simp [Lit.wf, IntKind.min, IntKind.max, IntKind.signed, IntKind.bits] at w1
    omega
  have hb2 : ∀ j, -9223372036854775808 ≤ List.getD zs2 j 0 ∧ List.getD zs2 j 0 < 9223372036854775808 := by
    intro j
    by_cases h : j < zs2.length
    · have hz := hwz2 _ (List.getElem_mem h)
      rw [List.getD_eq_getElem?_getD, List.getElem?_eq_getElem h, Option.getD_some]
      simp [Lit.wf, IntKind.min, IntKind.max, IntKind.signed, IntKind.bits] at hz
      omega
    · rw [List.getD_eq_getElem?_getD, List.getElem?_eq_none (by omega), Option.getD_none]; omega
  have hsm2 : zs2.length ≤ 1048576 := by
    rcases hd2 with h0 | h0
    · rw [h0]; exact Nat.zero_le _
    · have h1 : Rows.uptoBulk d2 ≤ 1048576 := by
        refine Nat.le_trans (bulks.part_le ?_) (bulks.bound hk)
        simp
      have h3 : d2 = _ := h0
      rw [h3] at h1
      have h4 := bulks.slice_le (lits (H := H) .i64 (zs2.take len2)) (lits .i64 (zs2.drop len2))
      rw [lits_len, lits_len, List.length_take, List.length_drop] at h4
      have h5 := Nat.le_trans h4 h1
      omega
  have hb3 : ∀ j, -9223372036854775808 ≤ List.getD zs3 j 0 ∧ List.getD zs3 j 0 < 9223372036854775808 := by
    intro j
    by_cases h : j < zs3.length
    · have hz := hwz3 _ (List.getElem_mem h)
      rw [List.getD_eq_getElem?_getD, List.getElem?_eq_getElem h, Option.getD_some]
      simp [Lit.wf, IntKind.min, IntKind.max, IntKind.signed, IntKind.bits] at hz
      omega
    · rw [List.getD_eq_getElem?_getD, List.getElem?_eq_none (by omega), Option.getD_none]; omega
  have hsm3 : zs3.length ≤ 1048576 := by
    rcases hd3 with h0 | h0
    · rw [h0]; exact Nat.zero_le _
    · have h1 : Rows.uptoBulk d3 ≤ 1048576 := by
        refine Nat.le_trans (bulks.part_le ?_) (bulks.bound hk)
        simp
      have h3 : d3 = _ := h0
      rw [h3] at h1
      have h4 := bulks.slice_le (lits (H := H) .i64 (zs3.take len3)) (lits .i64 (zs3.drop len3))
      rw [lits_len, lits_len, List.length_take, List.length_drop] at h4
      have h5 := Nat.le_trans h4 h1
      omega
  have he4 : -9223372036854775808 ≤ a4 ∧ a4 < 9223372036854775808 := by
    simp [Lit.wf, IntKind.min, IntKind.max, IntKind.signed, IntKind.bits] at w4
    omega
  have he5 : -9223372036854775808 ≤ a5 ∧ a5 < 9223372036854775808 := by
    simp [Lit.wf, IntKind.min, IntKind.max, IntKind.signed, IntKind.bits] at w5
    omega
  obtain ⟨lc2, hat2, hv2⟩ := hs2.loc
  obtain ⟨lc3, hat3, hv3⟩ := hs3.loc
  have main : Calls Try.prog 4 [.int .i64 a0, .int .i64 a1, .slice a2 len2 cap2, .slice a3 len3 cap3, .int .i64 a4, .int .i64 a5, .agg #[.int .i64 pr6, .int .i64 pc6, .int .i64 po6, .int .i64 pq6, .bool ph6, .slice a6 len6 cap6], .bool b7].toArray W fun e W' => e = .returned (.bool true) ∧ Below W.heap.size W W' :=
    Contract0.law_src [.one ⟨false, false, .ints .i64 zs2⟩, .one ⟨false, false, .ints .i64 zs3⟩, .fam ⟨false, false, .row (I6.N * 3) 3 (fun k => [C.int .i64 (I6.A k), C.int .i64 (I6.B k), C.sl 4 k 0 (I6.nn k) 4])⟩ (fun j => ⟨false, false, .ig (I6.MM j * 4) Go.Proofs.Ytohleiikedpmkaa.W.ck (fun p => I6.G j p)⟩)] (renderApplies_law a0 he0 a1 he1 zs2 len2 hs2.le hb2 hsm2 zs3 len3 hs3.le hb3 hsm3 a4 he4 a5 he5 pr6 pc6 po6 pq6 ph6 I6.A I6.B I6.nn I6.MM I6.G I6.N len6 I6.hm I6.hms I6.hnM I6.hMs I6.hA I6.hB b7) W [.one lc2, .one lc3, .fam I6.l] ⟨hat2, ⟨hat3, ⟨I6.at_, trivial⟩⟩⟩ (.cons rfl (.cons rfl (.cons (hv2 _ 1 rfl) (.cons (hv3 _ 2 rfl) (.cons rfl (.cons rfl (.cons ⟨_, rfl, .cons rfl (.cons rfl (.cons rfl (.cons rfl (.cons rfl (.cons (I6.arg _ rfl) .nil)))))⟩ (.cons rfl .nil))))))))
  refine main.mono fun e W' ⟨he, bel⟩ => ?_
  subst he
  exact ⟨_, rfl, _, _, _, [], _, [], hW', trodAll_mk1 (shut_bool Try.underlying4 _), (trodAll_cons_mk (shut_int Try.underlying3 w0) (trodAll_cons_mk (shut_int Try.underlying3 w1) (trodAll_cons_mk (Below.trod laidOut (by kernel_rfl) (of_decide_eq_true (by kernel_rfl)) k2 bel lt2) (trodAll_cons_mk (Below.trod laidOut (by kernel_rfl) (of_decide_eq_true (by kernel_rfl)) k3 bel lt3) (trodAll_cons_mk (shut_int Try.underlying3 w4) (trodAll_cons_mk (shut_int Try.underlying3 w5) (trodAll_cons_mk (Below.trod laidOut (by kernel_rfl) (of_decide_eq_true (by kernel_rfl)) k6 bel lt6) (trodAll_cons_mk (shut_bool Try.underlying4 _) trodAll_mk0)))))))), rfl, bel.frame _, fun h => by cases h⟩
theorem over : Rows.renderAppliesUptoRow.holds Try.pinned (Rows.OpenSpec.upto Rows.renderAppliesSpec) :=
  OpenClaim.holds_of_cond 4 Try.f4 rfl rfl rfl rfl rfl rfl rfl ⟨rfl, rfl, rfl, rfl, rfl⟩ rfl rfl rfl rfl rfl (by kernel_rfl) Try.func4 (by kernel_rfl)
    (of_decide_eq_true (by kernel_rfl)) (by unfold Func.isWrapper; first | (rw [if_pos (by decide +kernel)]; kernel_rfl) | (rw [if_neg (by decide +kernel)]; exact ⟨rfl, rfl⟩))
    (fun os started H enc _ F => lifted os started H enc F)
theorem proved : Rows.RenderAppliesUptoSaid := over
#print axioms proved
end Go.Proofs.Ytohleiikedpmkaa.renderApplies
