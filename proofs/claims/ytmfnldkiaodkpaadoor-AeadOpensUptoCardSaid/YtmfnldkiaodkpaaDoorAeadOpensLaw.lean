/- What functions of the program come to: parts of the walk (AeadOpensLaw). -/
import Derived.Test.YtmfnldkiaodkpaaDoorLaid
import Derived.Test.YtmfnldkiaodkpaaDoorEe
import Derived.Test.YtmfnldkiaodkpaaDoorBulk
import Derived.Test.YtmfnldkiaodkpaaDoorCards
import Derived.Test.YtmfnldkiaodkpaaDoorTie
import Derived.SevenTiedAt
import Derived.WalkKit
import Derived.ProofKit
import Derived.OpenShut
import Derived.ChangeOld
import Derived.SizedLaws
import Derived.ChangeSlices
import Derived.JoinedCond
set_option linter.unusedSimpArgs false
set_option linter.unusedVariables false
namespace Go.Proofs.YtmfnldkiaodkpaaDoor.aeadOpens
open Go.ChangeShapes Go.WideShapes Go.ChangeAt Go.RowKit Go.Proofs.YtmfnldkiaodkpaaDoor Go.Proofs.YtmfnldkiaodkpaaDoor.Vm
theorem own : ownKnob Tryd.prog.godebug = none := by kernel_rfl
theorem laidOut : laidOutB Tryd.prog = true := by kernel_rfl
set_option maxRecDepth 100000 in
theorem lifted (os : Os) (started : os.Started) (H : Type) (enc : TypeId × Value → H) (F : Stop.Interp) :
    ReturnsInHanded {} Tryd.checked os 5 .any ((Rows.OpenSpec.upto Rows.aeadOpensSpec).preRow enc Tryd.prog Tryd.f5 Rows.aeadOpensUptoRow.domain Rows.aeadOpensUptoRow.apart laids.one) (((Rows.OpenSpec.upto Rows.aeadOpensSpec).at F).post enc Tryd.prog Tryd.f5 false true false false) := by
  refine returnsInHanded_of_row (C := Tryd.checked) (s := Rows.OpenSpec.upto Rows.aeadOpensSpec) (laid := laids.one) own started (by kernel_rfl) Tryd.func5
    (witness_row_at (enc := enc) (C := Tryd.checked) (s := Rows.OpenSpec.upto Rows.aeadOpensSpec) (laid := laids.one) false (World.laidAll Tryd.prog os laids.one) #[.agg (List.replicate 32 (.int .u8 0)).toArray, .agg (List.replicate 12 (.int .u8 0)).toArray, .slice none 0 0, .slice none 0 0, .int .i64 0, .int .i64 0, .int .u8 0, .slice none 0 0] (World.laidAll_os _ _ _) (by kernel_rfl) (by kernel_rfl) (by kernel_rfl)
      ⟨⟨(OpenSpec.pre_some (k := Rows.uptoSmall) rfl _ _ _ _).2 ⟨[.agg (List.replicate 32 (.lit (.int .u8 0))), .agg (List.replicate 12 (.lit (.int .u8 0))), .nil, .nil, .lit (.int .i64 0), .lit (.int .i64 0), .lit (.int .u8 0), .nil], [], [], DataW.Whole_of_whole (x := ([.agg (List.replicate 32 (.lit (.int .u8 0))), .agg (List.replicate 12 (.lit (.int .u8 0))), .nil, .nil, .lit (.int .i64 0), .lit (.int .i64 0), .lit (.int .u8 0), .nil], [], [])) (fuel := 8) (by kernel_rfl), rfl, by kernel_rfl⟩, laidMet_laidAll #[.agg (List.replicate 32 (.int .u8 0)).toArray, .agg (List.replicate 12 (.int .u8 0)).toArray, .slice none 0 0, .slice none 0 0, .int .i64 0, .int .i64 0, .int .u8 0, .slice none 0 0] (by kernel_rfl) (by kernel_rfl)⟩, sizedMet_of_sizedB (fuel := 8) (by kernel_rfl)⟩) ?_
  intro W base args ds gs before hval0 hW _ hk0 _ hL0 _ _
  have hk := hk0 Rows.uptoSmall rfl
  have hL : laidMet Tryd.prog laids.one W := hL0
  have hval : ∀ (j : Nat) t v, Tryd.f5.params[j]? = some t → args[j]? = some v → Value.okWide Tryd.prog W .any base t v := hval0
  have hW' := hW
  obtain ⟨p, q, hA0, hV, rfl, hfz, hnd⟩ := hW
  have hA : DataW.TrodAll enc Tryd.prog W 0 (fun _ => true) true Tryd.f5.params.toList args.toList ds p := hA0
  rw [Tryd.params5] at hA hval
  obtain ⟨v0, vs0, d0, ds0, p0, q0, hargs, rfl, rfl, h0, r0⟩ := trodAll_cons hA
  obtain ⟨v1, vs1, d1, ds1, p1, q1, rfl, rfl, rfl, h1, r1⟩ := trodAll_cons r0
  obtain ⟨v2, vs2, d2, ds2, p2, q2, rfl, rfl, rfl, h2, r2⟩ := trodAll_cons r1
  obtain ⟨v3, vs3, d3, ds3, p3, q3, rfl, rfl, rfl, h3, r3⟩ := trodAll_cons r2
  obtain ⟨v4, vs4, d4, ds4, p4, q4, rfl, rfl, rfl, h4, r4⟩ := trodAll_cons r3
  obtain ⟨v5, vs5, d5, ds5, p5, q5, rfl, rfl, rfl, h5, r5⟩ := trodAll_cons r4
  obtain ⟨v6, vs6, d6, ds6, p6, q6, rfl, rfl, rfl, h6, r6⟩ := trodAll_cons r5
  obtain ⟨v7, vs7, d7, ds7, p7, q7, rfl, rfl, rfl, h7, r7⟩ := trodAll_cons r6
  obtain ⟨rfl, rfl, rfl⟩ := trodAll_nil r7
  obtain rfl : args = #[v0, v1, v2, v3, v4, v5, v6, v7] := by cases args; simp_all
  obtain ⟨rfl, rfl⟩ := trodVars_none hV
  have k0 := h0
  have k1 := h1
  have k2 := h2
  have k3 := h3
  have k7 := h7
  obtain ⟨l0, rfl, hl0, hwl0, rfl⟩ := open_array Tryd.underlying27 Tryd.underlying5 (by kernel_rfl) (by kernel_rfl) (hval 0 27 v0 rfl rfl) h0
  obtain ⟨l1, rfl, hl1, hwl1, rfl⟩ := open_array Tryd.underlying39 Tryd.underlying5 (by kernel_rfl) (by kernel_rfl) (hval 1 39 v1 rfl rfl) h1
  obtain ⟨a2, len2, cap2, rfl⟩ := okWide_slice Tryd.underlying35 (hval 2 35 v2 rfl rfl)
  have lt2 : ∀ x ∈ p2, x.block < W.heap.size := by obtain ⟨m, hm⟩ := k2; exact DataW.trod_lt m _ _ _ hm
  obtain ⟨fuel2, hf2⟩ := h2
  obtain ⟨zs2, hs2, hwz2, hd2⟩ := open_src Tryd.underlying35 Tryd.underlying5 (by kernel_rfl) hf2
  obtain ⟨a3, len3, cap3, rfl⟩ := okWide_slice Tryd.underlying35 (hval 3 35 v3 rfl rfl)
  have lt3 : ∀ x ∈ p3, x.block < W.heap.size := by obtain ⟨m, hm⟩ := k3; exact DataW.trod_lt m _ _ _ hm
  obtain ⟨fuel3, hf3⟩ := h3
  obtain ⟨zs3, hs3, hwz3, hd3⟩ := open_src Tryd.underlying35 Tryd.underlying5 (by kernel_rfl) hf3
  obtain ⟨a4, rfl, rfl, rfl, w4⟩ := open_int Tryd.underlying3 (hval 4 3 v4 rfl rfl) h4
  obtain ⟨a5, rfl, rfl, rfl, w5⟩ := open_int Tryd.underlying3 (hval 5 3 v5 rfl rfl) h5
  obtain ⟨a6, rfl, rfl, rfl, w6⟩ := open_int Tryd.underlying5 (hval 6 5 v6 rfl rfl) h6
  obtain ⟨a7, len7, cap7, rfl⟩ := okWide_slice Tryd.underlying35 (hval 7 35 v7 rfl rfl)
  have lt7 : ∀ x ∈ p7, x.block < W.heap.size := by obtain ⟨m, hm⟩ := k7; exact DataW.trod_lt m _ _ _ hm
  obtain ⟨fuel7, hf7⟩ := h7
  obtain ⟨zs7, hs7, hwz7, hd7⟩ := open_src Tryd.underlying35 Tryd.underlying5 (by kernel_rfl) hf7
  have hb0 : Go.Proofs.YtmfnldkiaodkpaaDoor.W.bytes l0 := fun x hx => okLit_u8 (hwl0 x hx)
  have hb1 : Go.Proofs.YtmfnldkiaodkpaaDoor.W.bytes l1 := fun x hx => okLit_u8 (hwl1 x hx)
  have hb2 : Go.Proofs.YtmfnldkiaodkpaaDoor.W.bytes zs2 := fun x hx => okLit_u8 (hwz2 x hx)
  have hq2 : zs2.length ≤ Rows.uptoBulk d2 := by
    rcases hd2 with h0 | h0
    · rw [h0]; exact Nat.zero_le _
    · have h3 : d2 = _ := h0
      rw [h3]
      have h4 := bulks.slice_le (lits (H := H) .u8 (zs2.take len2)) (lits .u8 (zs2.drop len2))
      rw [lits_len, lits_len, List.length_take, List.length_drop] at h4
      omega
  have hb3 : Go.Proofs.YtmfnldkiaodkpaaDoor.W.bytes zs3 := fun x hx => okLit_u8 (hwz3 x hx)
  have hq3 : zs3.length ≤ Rows.uptoBulk d3 := by
    rcases hd3 with h0 | h0
    · rw [h0]; exact Nat.zero_le _
    · have h3 : d3 = _ := h0
      rw [h3]
      have h4 := bulks.slice_le (lits (H := H) .u8 (zs3.take len3)) (lits .u8 (zs3.drop len3))
      rw [lits_len, lits_len, List.length_take, List.length_drop] at h4
      omega
  have he4 : -9223372036854775808 ≤ a4 ∧ a4 < 9223372036854775808 := by
    simp [Lit.wf, IntKind.min, IntKind.max, IntKind.signed, IntKind.bits] at w4
    omega
  have he5 : -9223372036854775808 ≤ a5 ∧ a5 < 9223372036854775808 := by
    simp [Lit.wf, IntKind.min, IntKind.max, IntKind.signed, IntKind.bits] at w5
    omega
  have he6 : 0 ≤ a6 ∧ a6 < 256 := by
    simp [Lit.wf, IntKind.min, IntKind.max, IntKind.signed, IntKind.bits] at w6
    omega
  have hb7 : Go.Proofs.YtmfnldkiaodkpaaDoor.W.bytes zs7 := fun x hx => okLit_u8 (hwz7 x hx)
  have hq7 : zs7.length ≤ Rows.uptoBulk d7 := by
    rcases hd7 with h0 | h0
    · rw [h0]; exact Nat.zero_le _
    · have h3 : d7 = _ := h0
      rw [h3]
      have h4 := bulks.slice_le (lits (H := H) .u8 (zs7.take len7)) (lits .u8 (zs7.drop len7))
      rw [lits_len, lits_len, List.length_take, List.length_drop] at h4
      omega
  have hall := bulks.bound hk
  simp only [List.append_nil, Rows.uptoBulkAll] at hall
  have hsm2 : zs2.length ≤ 1048576 := by omega
  have hsm3 : zs3.length ≤ 1048576 := by omega
  have hsm7 : zs7.length ≤ 1048576 := by omega
  have hsum : zs2.length + zs3.length + zs7.length ≤ 1048576 := by omega
  obtain ⟨lc2, hat2, hv2⟩ := hs2.loc
  obtain ⟨lc3, hat3, hv3⟩ := hs3.loc
  obtain ⟨lc7, hat7, hv7⟩ := hs7.loc
  have main : Calls Tryd.prog 5 [.agg (l0.map (Value.int .u8)).toArray, .agg (l1.map (Value.int .u8)).toArray, .slice a2 len2 cap2, .slice a3 len3 cap3, .int .i64 a4, .int .i64 a5, .int .u8 a6, .slice a7 len7 cap7].toArray W fun e W' => e = .returned (.bool true) ∧ Below W.heap.size W W' :=
    Contract0.law_srcG [.one ⟨false, false, .ints .u8 zs2⟩, .one ⟨false, false, .ints .u8 zs3⟩, .one ⟨false, false, .ints .u8 zs7⟩] 5 (by simp [topS]) (aeadOpens_law l0 hl0 hb0 l1 hl1 hb1 zs2 len2 hs2.le hb2 hsm2 zs3 len3 hs3.le hb3 hsm3 a4 he4 a5 he5 a6 he6 zs7 len7 hs7.le hb7 hsm7 hsum) W (laids.one_globs hL) [.one lc2, .one lc3, .one lc7] ⟨hat2, ⟨hat3, ⟨hat7, trivial⟩⟩⟩ (.cons rfl (.cons rfl (.cons (hv2 _ 1 rfl) (.cons (hv3 _ 2 rfl) (.cons rfl (.cons rfl (.cons rfl (.cons (hv7 _ 3 rfl) .nil))))))))
  refine main.mono fun e W' ⟨he, bel⟩ => ?_
  subst he
  exact ⟨_, rfl, _, _, _, [], _, [], hW', trodAll_mk1 (shut_bool Tryd.underlying4 _), (trodAll_cons_mk (Below.trod laidOut (by kernel_rfl) (of_decide_eq_true (by kernel_rfl)) k0 bel (by simp)) (trodAll_cons_mk (Below.trod laidOut (by kernel_rfl) (of_decide_eq_true (by kernel_rfl)) k1 bel (by simp)) (trodAll_cons_mk (Below.trod laidOut (by kernel_rfl) (of_decide_eq_true (by kernel_rfl)) k2 bel lt2) (trodAll_cons_mk (Below.trod laidOut (by kernel_rfl) (of_decide_eq_true (by kernel_rfl)) k3 bel lt3) (trodAll_cons_mk (shut_int Tryd.underlying3 w4) (trodAll_cons_mk (shut_int Tryd.underlying3 w5) (trodAll_cons_mk (shut_int Tryd.underlying5 w6) (trodAll_cons_mk (Below.trod laidOut (by kernel_rfl) (of_decide_eq_true (by kernel_rfl)) k7 bel lt7) trodAll_mk0)))))))), rfl, bel.frame _, fun h => by cases h⟩
theorem over : Rows.aeadOpensUptoRow.holds Tryd.pinned (Rows.OpenSpec.upto Rows.aeadOpensSpec) :=
  OpenClaim.holds_of_cond 5 Tryd.f5 rfl rfl rfl rfl rfl rfl rfl ⟨rfl, rfl, rfl, rfl, rfl⟩ rfl rfl rfl rfl rfl (by kernel_rfl) Tryd.func5 (by kernel_rfl)
    (of_decide_eq_true (by kernel_rfl)) (by unfold Func.isWrapper; first | (rw [if_pos (by decide +kernel)]; kernel_rfl) | (rw [if_neg (by decide +kernel)]; exact ⟨rfl, rfl⟩))
    (fun os started H enc _ F => by rw [OpenClaim.pre_eq_preRow]; exact lifted os started H enc F)
/-- The card: the row, its variables tied to the text of the program. -/
theorem proved : Rows.AeadOpensUptoCardSaid :=
  Claim7.holds_tied_plain_at .later [] [.data] true (true, "57379fb396293dcdff7313882e003e64d5edc198c7835746b3f9a79e738fbc5b") false
    over (fun _ h => by cases h) (by kernel_rfl) (fun _ h => by cases h) aeadOpensUpto_row_tie rfl ⟨rfl, rfl⟩ (by kernel_rfl) rfl
    (fun f fn hf hfn => by
      obtain rfl : f = 5 := Option.some.inj ((show Tryd.prog.funcNamed Rows.aeadOpensUptoRow.func = some 5 by kernel_rfl).symm.trans hf) |>.symm
      obtain rfl : fn = Tryd.f5 := (Option.some.inj (Tryd.func5.symm.trans hfn)).symm
      refine ⟨by kernel_rfl, fun j t ht => ?_⟩
      have hm : t ∈ Tryd.f5.params.toList := by
        have := List.mem_of_getElem? (l := Tryd.f5.params.toList) (i := j) (a := t) (by simpa using ht)
        exact this
      rw [Tryd.params5] at hm
      simp only [List.mem_cons, List.not_mem_nil, or_false] at hm
      rcases hm with rfl | rfl | rfl | rfl | rfl | rfl | rfl | rfl
      · exact (show Tryd.prog.wantsStandIn 27 = false by kernel_rfl)
      · exact (show Tryd.prog.wantsStandIn 39 = false by kernel_rfl)
      · exact (show Tryd.prog.wantsStandIn 35 = false by kernel_rfl)
      · exact (show Tryd.prog.wantsStandIn 35 = false by kernel_rfl)
      · exact (show Tryd.prog.wantsStandIn 3 = false by kernel_rfl)
      · exact (show Tryd.prog.wantsStandIn 3 = false by kernel_rfl)
      · exact (show Tryd.prog.wantsStandIn 5 = false by kernel_rfl)
      · exact (show Tryd.prog.wantsStandIn 35 = false by kernel_rfl)
    )
    (by kernel_rfl)
#print axioms proved
end Go.Proofs.YtmfnldkiaodkpaaDoor.aeadOpens
