/- What functions of the program come to: parts of the walk (CurveXLaw). -/
import Derived.Test.YtkjbjgkjplmkhaaDoorLaid
import Derived.Test.YtkjbjgkjplmkhaaDoorRfg
import Derived.Test.YtkjbjgkjplmkhaaDoorCards
import Derived.Test.YtkjbjgkjplmkhaaDoorTie
import Derived.SevenTiedAt
set_option linter.unusedSimpArgs false
set_option linter.unusedVariables false
namespace Go.Proofs.YtkjbjgkjplmkhaaDoor.curveX
open Go.ChangeShapes Go.WideShapes Go.ChangeAt Go.RowKit Go.Proofs.YtkjbjgkjplmkhaaDoor Go.Proofs.YtkjbjgkjplmkhaaDoor.Vm
theorem own : ownKnob Tryd.prog.godebug = none := by kernel_rfl
theorem laidOut : laidOutB Tryd.prog = true := by kernel_rfl
theorem heap0 (os : Os) : ((laids.laidWorld os).forCall (fun _ _ => 0) ⟨#[], #[.agg (List.replicate 32 (.int .u8 0)).toArray, .agg (List.replicate 32 (.int .u8 0)).toArray, .int .i64 0], []⟩).memory.heap[0]? = some (.cells laids.cells 30 (0, 0)) := by kernel_rfl
set_option maxRecDepth 100000 in
theorem lifted (os : Os) (started : os.Started) (H : Type) (enc : TypeId × Value → H) :
    ReturnsInHanded {} Tryd.checked os 5 .any (fun w args => (Rows.curveXSpec.pre enc Tryd.prog Tryd.f5 [] false w args ∧ laidMet Tryd.prog laids.laid w) ∧ sizedMet enc Tryd.prog Tryd.f5 (OpenSpec.ofChange Rows.curveXSpec) false w args)
      (Rows.curveXSpec.post enc Tryd.prog Tryd.f5 false true false false) := by
  refine returnsInHanded_of_change_and (C := Tryd.checked) (X := fun w _ => laidMet Tryd.prog laids.laid w) (fun _ _ _ hh h => h.of_heap hh) own started (by kernel_rfl) Tryd.func5
    (ChangeSpec.witness_at (enc := enc) (C := Tryd.checked) (os := os) (X := fun w _ => laidMet Tryd.prog laids.laid w) false (laids.laidWorld os) #[.agg (List.replicate 32 (.int .u8 0)).toArray, .agg (List.replicate 32 (.int .u8 0)).toArray, .int .i64 0] 8 rfl (by kernel_rfl) (by kernel_rfl) (by kernel_rfl) (by kernel_rfl) (by kernel_rfl)
      (laids.laid_met (heap0 os) (by kernel_rfl) (by kernel_rfl))) ?_
  intro W base args ds gs before hval0 hW _ _ hL _
  have hval : ∀ (j : Nat) t v, Tryd.f5.params[j]? = some t → args[j]? = some v → Value.okWide Tryd.prog W .any base t v := hval0
  have hW' := hW
  obtain ⟨p, q, hA0, hV, rfl, hfz, hnd⟩ := hW
  have hA : DataW.TrodAll enc Tryd.prog W 0 (fun _ => true) true Tryd.f5.params.toList args.toList ds p := hA0
  rw [Tryd.params5] at hA hval
  obtain ⟨v0, vs0, d0, ds0, p0, q0, hargs, rfl, rfl, h0, r0⟩ := trodAll_cons hA
  obtain ⟨v1, vs1, d1, ds1, p1, q1, rfl, rfl, rfl, h1, r1⟩ := trodAll_cons r0
  obtain ⟨v2, vs2, d2, ds2, p2, q2, rfl, rfl, rfl, h2, r2⟩ := trodAll_cons r1
  obtain ⟨rfl, rfl, rfl⟩ := trodAll_nil r2
  obtain rfl : args = #[v0, v1, v2] := by cases args; simp_all
  obtain ⟨rfl, rfl⟩ := trodVars_none hV
  have k0 := h0
  have k1 := h1
  obtain ⟨l0, rfl, hl0, hwl0, rfl⟩ := open_array Tryd.underlying22 Tryd.underlying5 (by kernel_rfl) (by kernel_rfl) (hval 0 22 v0 rfl rfl) h0
  obtain ⟨l1, rfl, hl1, hwl1, rfl⟩ := open_array Tryd.underlying22 Tryd.underlying5 (by kernel_rfl) (by kernel_rfl) (hval 1 22 v1 rfl rfl) h1
  obtain ⟨a2, rfl, rfl, rfl, w2⟩ := open_int Tryd.underlying3 (hval 2 3 v2 rfl rfl) h2
  clear hA0 hval0
  have hb0 : l0 = Go.Proofs.YtkjbjgkjplmkhaaDoor.W.bts (numL l0) := bts_num hl0 fun x hx => okLit_u8 (hwl0 x hx)
  have hb1 : l1 = Go.Proofs.YtkjbjgkjplmkhaaDoor.W.bts (numL l1) := bts_num hl1 fun x hx => okLit_u8 (hwl1 x hx)
  have he2 : -9223372036854775808 ≤ a2 ∧ a2 < 9223372036854775808 := by
    simp [Lit.wf, IntKind.min, IntKind.max, IntKind.signed, IntKind.bits] at w2
    omega
  refine (laids.law_glob (curveX_ok (numL l0) (numL l1) a2 he2) W hL (vals := [.agg (l0.map (Value.int .u8)).toArray, .agg (l1.map (Value.int .u8)).toArray, .int .i64 a2]) (fun φ => (.cons ?_ (.cons ?_ (.cons rfl .nil))))).mono fun e W' ⟨he, bel⟩ => ?_
  · rw [← hb0]; rfl
  · rw [← hb1]; rfl
  · subst he
    exact ⟨_, rfl, _, _, _, [], _, [], hW', trodAll_mk1 (shut_bool Tryd.underlying4 _), (trodAll_cons_mk (Below.trod laidOut (by kernel_rfl) (of_decide_eq_true (by kernel_rfl)) k0 bel (by simp)) (trodAll_cons_mk (Below.trod laidOut (by kernel_rfl) (of_decide_eq_true (by kernel_rfl)) k1 bel (by simp)) (trodAll_cons_mk (shut_int Tryd.underlying3 w2) trodAll_mk0))), rfl, bel.frame _, fun h => by cases h⟩
theorem over : Rows.curveXRow.holds Tryd.pinned (OpenSpec.ofChange Rows.curveXSpec) :=
  OpenClaim.holds_of_wide 5 Tryd.f5 rfl rfl rfl rfl rfl rfl rfl ⟨rfl, rfl, rfl, rfl, rfl⟩ rfl rfl rfl rfl rfl (by kernel_rfl) Tryd.func5 (by kernel_rfl)
    (of_decide_eq_true (by kernel_rfl)) (by unfold Func.isWrapper; first | (rw [if_pos (by decide +kernel)]; kernel_rfl) | (rw [if_neg (by decide +kernel)]; exact ⟨rfl, rfl⟩))
    (fun os started H enc _ => lifted os started H enc)
/-- The card: the row, its variable tied to the text of the program. -/
theorem proved : Rows.CurveXCardSaid :=
  Claim7.holds_tied_plain_at .later [] [.data] true (true, "f207112b1c5369846603d58492f46fc3f7d4fea2eaf5f16a52573f06f82cf56d") false
    over (fun _ h => by cases h) (by kernel_rfl) (fun _ h => by cases h) curveX_row_tie rfl ⟨rfl, rfl⟩ (by kernel_rfl) rfl
    (fun f fn hf hfn => by
      obtain rfl : f = 5 := Option.some.inj ((show Tryd.prog.funcNamed Rows.curveXRow.func = some 5 by kernel_rfl).symm.trans hf) |>.symm
      obtain rfl : fn = Tryd.f5 := (Option.some.inj (Tryd.func5.symm.trans hfn)).symm
      refine ⟨by kernel_rfl, fun j t ht => ?_⟩
      have hm : t ∈ Tryd.f5.params.toList := by
        have := List.mem_of_getElem? (l := Tryd.f5.params.toList) (i := j) (a := t) (by simpa using ht)
        exact this
      rw [Tryd.params5] at hm
      simp only [List.mem_cons, List.not_mem_nil, or_false] at hm
      rcases hm with rfl | rfl | rfl
      · exact (show Tryd.prog.wantsStandIn 22 = false by kernel_rfl)
      · exact (show Tryd.prog.wantsStandIn 22 = false by kernel_rfl)
      · exact (show Tryd.prog.wantsStandIn 3 = false by kernel_rfl)
    )
    (by kernel_rfl)
#print axioms proved
end Go.Proofs.YtkjbjgkjplmkhaaDoor.curveX
