/- What functions of the program come to: parts of the walk (CurveKnownLaw). -/
import Derived.Test.YtkjbjgkjplmkhaaDoorLaid
import Derived.Test.YtkjbjgkjplmkhaaDoorRfh
import Derived.Test.YtkjbjgkjplmkhaaDoorCards
import Derived.Test.YtkjbjgkjplmkhaaDoorTie
import Derived.SevenTiedAt
set_option linter.unusedSimpArgs false
set_option linter.unusedVariables false
namespace Go.Proofs.YtkjbjgkjplmkhaaDoor.curveKnown
open Go.ChangeShapes Go.WideShapes Go.ChangeAt Go.RowKit Go.Proofs.YtkjbjgkjplmkhaaDoor Go.Proofs.YtkjbjgkjplmkhaaDoor.Vm
theorem own : ownKnob Tryd.prog.godebug = none := by kernel_rfl
theorem laidOut : laidOutB Tryd.prog = true := by kernel_rfl
theorem heap0 (os : Os) : ((laids.laidWorld os).forCall (fun _ _ => 0) ⟨#[], #[], []⟩).memory.heap[0]? = some (.cells laids.cells 30 (0, 0)) := by kernel_rfl
set_option maxRecDepth 100000 in
theorem lifted (os : Os) (started : os.Started) (H : Type) (enc : TypeId × Value → H) :
    ReturnsInHanded {} Tryd.checked os 6 .any (fun w args => (Rows.curveKnownSpec.pre enc Tryd.prog Tryd.f6 [] false w args ∧ laidMet Tryd.prog laids.laid w) ∧ sizedMet enc Tryd.prog Tryd.f6 (OpenSpec.ofChange Rows.curveKnownSpec) false w args)
      (Rows.curveKnownSpec.post enc Tryd.prog Tryd.f6 false true false false) := by
  refine returnsInHanded_of_change_and (C := Tryd.checked) (X := fun w _ => laidMet Tryd.prog laids.laid w) (fun _ _ _ hh h => h.of_heap hh) own started (by kernel_rfl) Tryd.func6
    (ChangeSpec.witness_at (enc := enc) (C := Tryd.checked) (os := os) (X := fun w _ => laidMet Tryd.prog laids.laid w) false (laids.laidWorld os) #[] 8 rfl (by kernel_rfl) (by kernel_rfl) (by kernel_rfl) (by kernel_rfl) (by kernel_rfl)
      (laids.laid_met (heap0 os) (by kernel_rfl) (by kernel_rfl))) ?_
  intro W base args ds gs before hval0 hW _ _ hL _
  have hval : ∀ (j : Nat) t v, Tryd.f6.params[j]? = some t → args[j]? = some v → Value.okWide Tryd.prog W .any base t v := hval0
  have hW' := hW
  obtain ⟨p, q, hA0, hV, rfl, hfz, hnd⟩ := hW
  have hA : DataW.TrodAll enc Tryd.prog W 0 (fun _ => true) true Tryd.f6.params.toList args.toList ds p := hA0
  rw [Tryd.params6] at hA hval
  obtain ⟨hargs, rfl, rfl⟩ := trodAll_nil hA
  obtain rfl : args = #[] := by cases args; simp_all
  obtain ⟨rfl, rfl⟩ := trodVars_none hV
  clear hA0 hval0
  refine (laids.law_glob (curveKnown_r) W hL (vals := []) (fun φ => .nil)).mono fun e W' ⟨he, bel⟩ => ?_
  · subst he
    exact ⟨_, rfl, _, _, _, [], _, [], hW', trodAll_mk1 (shut_bool Tryd.underlying4 _), trodAll_mk0, rfl, bel.frame _, fun h => by cases h⟩
theorem over : Rows.curveKnownRow.holds Tryd.pinned (OpenSpec.ofChange Rows.curveKnownSpec) :=
  OpenClaim.holds_of_wide 6 Tryd.f6 rfl rfl rfl rfl rfl rfl rfl ⟨rfl, rfl, rfl, rfl, rfl⟩ rfl rfl rfl rfl rfl (by kernel_rfl) Tryd.func6 (by kernel_rfl)
    (of_decide_eq_true (by kernel_rfl)) (by unfold Func.isWrapper; first | (rw [if_pos (by decide +kernel)]; kernel_rfl) | (rw [if_neg (by decide +kernel)]; exact ⟨rfl, rfl⟩))
    (fun os started H enc _ => lifted os started H enc)
/-- The card: the row, its variable tied to the text of the program. -/
theorem proved : Rows.CurveKnownCardSaid :=
  Claim7.holds_tied_plain_at .later [] [.data] true (true, "f207112b1c5369846603d58492f46fc3f7d4fea2eaf5f16a52573f06f82cf56d") false
    over (fun _ h => by cases h) (by kernel_rfl) (fun _ h => by cases h) curveKnown_row_tie rfl ⟨rfl, rfl⟩ (by kernel_rfl) rfl
    (fun f fn hf hfn => by
      obtain rfl : f = 6 := Option.some.inj ((show Tryd.prog.funcNamed Rows.curveKnownRow.func = some 6 by kernel_rfl).symm.trans hf) |>.symm
      obtain rfl : fn = Tryd.f6 := (Option.some.inj (Tryd.func6.symm.trans hfn)).symm
      refine ⟨by kernel_rfl, fun j t ht => ?_⟩
      rw [Tryd.params6] at ht
      simp at ht
    )
    (by kernel_rfl)
#print axioms proved
end Go.Proofs.YtkjbjgkjplmkhaaDoor.curveKnown
