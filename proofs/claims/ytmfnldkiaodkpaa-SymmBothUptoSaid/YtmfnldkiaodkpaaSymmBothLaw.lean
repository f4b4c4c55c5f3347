/- What functions of the program come to: parts of the walk (SymmBothLaw). -/
import Derived.Test.YtmfnldkiaodkpaaZc
import Derived.Test.YtmfnldkiaodkpaaRows
import Derived.Test.YtmfnldkiaodkpaaBulk
import Derived.Test.YtmfnldkiaodkpaaVmc
import Derived.Test.YtmfnldkiaodkpaaVp
import Derived.WalkKit
import Derived.ProofKit
import Derived.OpenShut
import Derived.ChangeOld
import Derived.SizedLaws
import Derived.ChangeSlices
import Derived.JoinedCond
set_option linter.unusedSimpArgs false
set_option linter.unusedVariables false
namespace Go.Proofs.Ytmfnldkiaodkpaa.symmBoth
open Go.ChangeShapes Go.WideShapes Go.ChangeAt Go.RowKit Go.Proofs.Ytmfnldkiaodkpaa Go.Proofs.Ytmfnldkiaodkpaa.Vm
theorem own : ownKnob Try.prog.godebug = none := by kernel_rfl
theorem laidOut : laidOutB Try.prog = true := by kernel_rfl
theorem struct75 : Try.prog.underlying 75 = some (.struct #[⟨"What", 3, 0, false, "", "", 0⟩, ⟨"B", 23, 1, false, "", "", 8⟩]) := by kernel_rfl
theorem agg_le {H : Type} {d : DataW H} {l : List (DataW H)} (h : d ∈ l) : Rows.uptoBulk d ≤ Rows.uptoBulk (.agg l) := by simp only [Rows.uptoBulk]; have := bulks.part_le h; omega
set_option maxRecDepth 100000 in
theorem lifted (os : Os) (started : os.Started) (H : Type) (enc : TypeId × Value → H) (F : Stop.Interp) :
    ReturnsInHanded {} Try.checked os 13 .any ((Rows.OpenSpec.upto Rows.symmBothSpec).pre6 enc Try.prog Try.f13 Rows.symmBothUptoRow.domain false) (((Rows.OpenSpec.upto Rows.symmBothSpec).at F).post enc Try.prog Try.f13 false true false false) := by
  refine returnsInHanded_of_cond (C := Try.checked) (s := Rows.OpenSpec.upto Rows.symmBothSpec) (k := Rows.uptoSmall) rfl own started (by kernel_rfl) Try.func13
    (OpenSpec.witness (enc := enc) (C := Try.checked) (s := Rows.OpenSpec.upto Rows.symmBothSpec) (k := Rows.uptoSmall) rfl false ⟨#[], #[.slice none 0 0], []⟩ 8 (by kernel_rfl) (by kernel_rfl) (by kernel_rfl)
      (x := ([.nil], [], [])) (by kernel_rfl) rfl (by kernel_rfl)) ?_
  intro W base args ds gs before hval0 hW _ hk _
  have hval : ∀ (j : Nat) t v, Try.f13.params[j]? = some t → args[j]? = some v → Value.okWide Try.prog W .any base t v := hval0
  have hW' := hW
  obtain ⟨p, q, hA0, hV, rfl, hfz, hnd⟩ := hW
  have hA : DataW.TrodAll enc Try.prog W 0 (fun _ => true) true Try.f13.params.toList args.toList ds p := hA0
  rw [Try.params13] at hA hval
  obtain ⟨v0, vs0, d0, ds0, p0, q0, hargs, rfl, rfl, h0, r0⟩ := trodAll_cons hA
  obtain ⟨rfl, rfl, rfl⟩ := trodAll_nil r0
  obtain rfl : args = #[v0] := by cases args; simp_all
  obtain ⟨rfl, rfl⟩ := trodVars_none hV
  have k0 := h0
  obtain ⟨a0, len0, cap0, rfl⟩ := okWide_slice Try.underlying73 (hval 0 73 v0 rfl rfl)
  have lt0 : ∀ x ∈ p0, x.block < W.heap.size := by obtain ⟨m, hm⟩ := k0; exact DataW.trod_lt m _ _ _ hm
  obtain ⟨fuel0, hf0⟩ := h0
  obtain ⟨N0, wh0, ln0, T0, hs0, hwi0, hwz0, hd0⟩ := open_srcP Try.underlying73 struct75 (by kernel_rfl) rfl rfl (by kernel_rfl) (by kernel_rfl) Try.underlying3 Try.underlying23 Try.underlying5 (by kernel_rfl) hf0
  have hb0 : ∀ r, Go.Proofs.Ytmfnldkiaodkpaa.W.bytes (T0 r) := fun r x hx => okLit_u8 (hwz0 r x hx)
  have hwh0 : ∀ r, -9223372036854775808 ≤ wh0 r ∧ wh0 r < 9223372036854775808 := by
    intro r
    have hz := hwi0 r
    simp [Lit.wf, IntKind.min, IntKind.max, IntKind.signed, IntKind.bits] at hz
    omega
  have h10 : Rows.uptoBulk d0 ≤ 1048576 := by
    refine Nat.le_trans (bulks.part_le ?_) (bulks.bound hk)
    simp
  have hlen0 : len0 ≤ 1048576 := by
    rcases hd0 with h0 | ⟨E, S, hE, hEl, _⟩
    · have := hs0.le; omega
    · have hE : d0 = _ := hE
      rw [hE] at h10
      have := bulks.slice_le E S; omega
  have hsm0 : ∀ r, (T0 r).length ≤ 1048576 := by
    intro r
    rcases hd0 with h0 | ⟨E, S, hE, _, hz⟩
    · rw [(hs0.1 r (by omega)).1]; exact Nat.zero_le _
    · have hE : d0 = _ := hE
      rcases hz r with e | ⟨z, y, hm, hzs⟩
      · rw [e]; exact Nat.zero_le _
      · have q1 := bulks.row_le hm
        rw [← hE, hzs] at q1
        have q3 := agg_le (d := .slice (lits (H := H) .u8 ((T0 r).take (ln0 r))) (lits .u8 ((T0 r).drop (ln0 r)))) (l := [y, .slice (lits (H := H) .u8 ((T0 r).take (ln0 r))) (lits .u8 ((T0 r).drop (ln0 r)))]) (by simp)
        have q2 := bulks.slice_le (lits (H := H) .u8 ((T0 r).take (ln0 r))) (lits .u8 ((T0 r).drop (ln0 r)))
        rw [lits_len, lits_len, List.length_take, List.length_drop] at q2
        omega
  obtain ⟨lc0, hat0, hv0⟩ := hs0.loc 1
  have main : Calls Try.prog 13 [.slice a0 len0 cap0].toArray W fun e W' => e = .returned (.bool true) ∧ Below W.heap.size W W' :=
    Contract0.law_src [.fam ⟨false, false, .row (N0 * 2) 2 (fun j => [C.int .i64 (wh0 j), C.sl 2 j 0 (ln0 j) 1])⟩ (fun j => ⟨false, false, .ints .u8 (T0 j)⟩)] (symmBoth_law N0 wh0 ln0 T0 len0 hs0.le hs0.lens hb0 hsm0 hlen0 hwh0) W [.fam lc0] ⟨hat0, trivial⟩ (.cons (hv0 _ rfl) .nil)
  refine main.mono fun e W' ⟨he, bel⟩ => ?_
  subst he
  exact ⟨_, rfl, _, _, _, [], _, [], hW', trodAll_mk1 (shut_bool Try.underlying4 _), (trodAll_cons_mk (Below.trod laidOut (by kernel_rfl) (of_decide_eq_true (by kernel_rfl)) k0 bel lt0) trodAll_mk0), rfl, bel.frame _, fun h => by cases h⟩
theorem over : Rows.symmBothUptoRow.holds Try.pinned (Rows.OpenSpec.upto Rows.symmBothSpec) :=
  OpenClaim.holds_of_cond 13 Try.f13 rfl rfl rfl rfl rfl rfl rfl ⟨rfl, rfl, rfl, rfl, rfl⟩ rfl rfl rfl rfl rfl (by kernel_rfl) Try.func13 (by kernel_rfl)
    (of_decide_eq_true (by kernel_rfl)) (by unfold Func.isWrapper; first | (rw [if_pos (by decide +kernel)]; kernel_rfl) | (rw [if_neg (by decide +kernel)]; exact ⟨rfl, rfl⟩))
    (fun os started H enc _ F => lifted os started H enc F)
theorem proved : Rows.SymmBothUptoSaid := over
#print axioms proved
end Go.Proofs.Ytmfnldkiaodkpaa.symmBoth
