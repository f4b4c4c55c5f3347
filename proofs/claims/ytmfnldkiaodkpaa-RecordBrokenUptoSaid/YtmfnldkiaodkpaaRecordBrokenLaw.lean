/- What RecordBroken says of the given program: a half that could not open a box does nothing any more. -/
import Derived.Test.YtmfnldkiaodkpaaRe
import Derived.Test.YtmfnldkiaodkpaaRows
import Derived.Test.YtmfnldkiaodkpaaBulk
import Derived.Test.YtmfnldkiaodkpaaVmc
import Derived.WalkKit
import Derived.ProofKit
import Derived.OpenShut
import Derived.ChangeOld
import Derived.SizedLaws
import Derived.ChangeSlices
import Derived.JoinedCond
set_option linter.unusedSimpArgs false
set_option linter.unusedVariables false
namespace Go.Proofs.Ytmfnldkiaodkpaa.recordBroken
open Go.ChangeShapes Go.WideShapes Go.ChangeAt Go.RowKit Go.Proofs.Ytmfnldkiaodkpaa Go.Proofs.Ytmfnldkiaodkpaa.Vm
theorem own : ownKnob Try.prog.godebug = none := by kernel_rfl
theorem laidOut : laidOutB Try.prog = true := by kernel_rfl
set_option maxRecDepth 100000 in
theorem lifted (os : Os) (started : os.Started) (H : Type) (enc : TypeId × Value → H) (F : Stop.Interp) :
    ReturnsInHanded {} Try.checked os 11 .any ((Rows.OpenSpec.upto Rows.recordBrokenSpec).pre6 enc Try.prog Try.f11 Rows.recordBrokenUptoRow.domain false) (((Rows.OpenSpec.upto Rows.recordBrokenSpec).at F).post enc Try.prog Try.f11 false true false false) := by
  refine returnsInHanded_of_cond (C := Try.checked) (s := Rows.OpenSpec.upto Rows.recordBrokenSpec) (k := Rows.uptoSmall) rfl own started (by kernel_rfl) Try.func11
    (OpenSpec.witness (enc := enc) (C := Try.checked) (s := Rows.OpenSpec.upto Rows.recordBrokenSpec) (k := Rows.uptoSmall) rfl false ⟨#[], #[.agg (List.replicate 32 (.int .u8 0)).toArray, .slice none 0 0, .slice none 0 0], []⟩ 8 (by kernel_rfl) (by kernel_rfl) (by kernel_rfl)
      (x := ([.agg (List.replicate 32 (.lit (.int .u8 0))), .nil, .nil], [], [])) (by kernel_rfl) rfl (by kernel_rfl)) ?_
  intro W base args ds gs before hval0 hW _ hk _
  have hval : ∀ (j : Nat) t v, Try.f11.params[j]? = some t → args[j]? = some v → Value.okWide Try.prog W .any base t v := hval0
  have hW' := hW
  obtain ⟨p, q, hA0, hV, rfl, hfz, hnd⟩ := hW
  have hA : DataW.TrodAll enc Try.prog W 0 (fun _ => true) true Try.f11.params.toList args.toList ds p := hA0
  rw [Try.params11] at hA hval
  obtain ⟨v0, vs0, d0, ds0, p0, q0, hargs, rfl, rfl, h0, r0⟩ := trodAll_cons hA
  obtain ⟨v1, vs1, d1, ds1, p1, q1, rfl, rfl, rfl, h1, r1⟩ := trodAll_cons r0
  obtain ⟨v2, vs2, d2, ds2, p2, q2, rfl, rfl, rfl, h2, r2⟩ := trodAll_cons r1
  obtain ⟨rfl, rfl, rfl⟩ := trodAll_nil r2
  obtain rfl : args = #[v0, v1, v2] := by cases args; simp_all
  obtain ⟨rfl, rfl⟩ := trodVars_none hV
  have k0 := h0
  have k1 := h1
  have k2 := h2
  obtain ⟨l0, rfl, hl0, hwl0, rfl⟩ := open_array Try.underlying22 Try.underlying5 (by kernel_rfl) (by kernel_rfl) (hval 0 22 v0 rfl rfl) h0
  obtain ⟨a1, len1, cap1, rfl⟩ := okWide_slice Try.underlying37 (hval 1 37 v1 rfl rfl)
  have lt1 : ∀ x ∈ p1, x.block < W.heap.size := by obtain ⟨m, hm⟩ := k1; exact DataW.trod_lt m _ _ _ hm
  obtain ⟨fuel1, hf1⟩ := h1
  obtain ⟨N1, ln1, T1, hs1, hwz1, hd1⟩ := open_srcR Try.underlying37 Try.underlying23 Try.underlying5 (by kernel_rfl) (by kernel_rfl) hf1
  obtain ⟨a2, len2, cap2, rfl⟩ := okWide_slice Try.underlying23 (hval 2 23 v2 rfl rfl)
  have lt2 : ∀ x ∈ p2, x.block < W.heap.size := by obtain ⟨m, hm⟩ := k2; exact DataW.trod_lt m _ _ _ hm
  obtain ⟨fuel2, hf2⟩ := h2
  obtain ⟨zs2, hs2, hwz2, hd2⟩ := open_src Try.underlying23 Try.underlying5 (by kernel_rfl) hf2
  have hb0 : Go.Proofs.Ytmfnldkiaodkpaa.W.bytes l0 := fun x hx => okLit_u8 (hwl0 x hx)
  have hb2 : Go.Proofs.Ytmfnldkiaodkpaa.W.bytes zs2 := fun x hx => okLit_u8 (hwz2 x hx)
  have hsm2 : zs2.length ≤ 1048576 := by
    rcases hd2 with h0 | h0
    · rw [h0]; exact Nat.zero_le _
    · have h1 : Rows.uptoBulk d2 ≤ 1048576 := by
        refine Nat.le_trans (bulks.part_le ?_) (bulks.bound hk)
        simp
      have h3 : d2 = _ := h0
      rw [h3] at h1
      have h4 := bulks.slice_le (lits (H := H) .u8 (zs2.take len2)) (lits .u8 (zs2.drop len2))
      rw [lits_len, lits_len, List.length_take, List.length_drop] at h4
      have h5 := Nat.le_trans h4 h1
      omega
  have hb1 : ∀ r, Go.Proofs.Ytmfnldkiaodkpaa.W.bytes (T1 r) := fun r x hx => okLit_u8 (hwz1 r x hx)
  have h11 : Rows.uptoBulk d1 ≤ 1048576 := by
    refine Nat.le_trans (bulks.part_le ?_) (bulks.bound hk)
    simp
  have hlen1 : len1 ≤ 1048576 := by
    rcases hd1 with h0 | ⟨E, S, hE, hEl, _⟩
    · have := hs1.le; omega
    · have hE : d1 = _ := hE
      rw [hE] at h11
      have := bulks.slice_le E S; omega
  have hsm1 : ∀ r, (T1 r).length ≤ 1048576 := by
    intro r
    rcases hd1 with h0 | ⟨E, S, hE, _, hz⟩
    · rw [(hs1.1 r (by omega)).1]; exact Nat.zero_le _
    · have hE : d1 = _ := hE
      rcases hz r with e | ⟨z, hm, hzs⟩
      · rw [e]; exact Nat.zero_le _
      · have q1 := bulks.row_le hm
        rw [← hE, hzs] at q1
        have q2 := bulks.slice_le (lits (H := H) .u8 ((T1 r).take (ln1 r))) (lits .u8 ((T1 r).drop (ln1 r)))
        rw [lits_len, lits_len, List.length_take, List.length_drop] at q2
        omega
  obtain ⟨lc1, hat1, hv1⟩ := hs1.loc 1
  obtain ⟨lc2, hat2, hv2⟩ := hs2.loc
  have main : Calls Try.prog 11 [.agg (l0.map (Value.int .u8)).toArray, .slice a1 len1 cap1, .slice a2 len2 cap2].toArray W fun e W' => e = .returned (.bool true) ∧ Below W.heap.size W W' :=
    Contract0.law_src [.fam ⟨false, false, .gen N1 (fun j => C.sl 2 j 0 (ln1 j) 1)⟩ (fun j => ⟨false, false, .ints .u8 (T1 j)⟩), .one ⟨false, false, .ints .u8 zs2⟩] (recordBroken_law l0 hl0 hb0 N1 ln1 T1 len1 hs1.le hs1.lens hb1 hsm1 hlen1 zs2 len2 hs2.le hb2 hsm2) W [.fam lc1, .one lc2] ⟨hat1, ⟨hat2, trivial⟩⟩ (.cons rfl (.cons (hv1 _ rfl) (.cons (hv2 _ 3 rfl) .nil)))
  refine main.mono fun e W' ⟨he, bel⟩ => ?_
  subst he
  exact ⟨_, rfl, _, _, _, [], _, [], hW', trodAll_mk1 (shut_bool Try.underlying4 _), (trodAll_cons_mk (Below.trod laidOut (by kernel_rfl) (of_decide_eq_true (by kernel_rfl)) k0 bel (by simp)) (trodAll_cons_mk (Below.trod laidOut (by kernel_rfl) (of_decide_eq_true (by kernel_rfl)) k1 bel lt1) (trodAll_cons_mk (Below.trod laidOut (by kernel_rfl) (of_decide_eq_true (by kernel_rfl)) k2 bel lt2) trodAll_mk0))), rfl, bel.frame _, fun h => by cases h⟩
theorem over : Rows.recordBrokenUptoRow.holds Try.pinned (Rows.OpenSpec.upto Rows.recordBrokenSpec) :=
  OpenClaim.holds_of_cond 11 Try.f11 rfl rfl rfl rfl rfl rfl rfl ⟨rfl, rfl, rfl, rfl, rfl⟩ rfl rfl rfl rfl rfl (by kernel_rfl) Try.func11 (by kernel_rfl)
    (of_decide_eq_true (by kernel_rfl)) (by unfold Func.isWrapper; first | (rw [if_pos (by decide +kernel)]; kernel_rfl) | (rw [if_neg (by decide +kernel)]; exact ⟨rfl, rfl⟩))
    (fun os started H enc _ F => lifted os started H enc F)
theorem proved : Rows.RecordBrokenUptoSaid := over
#print axioms proved
end Go.Proofs.Ytmfnldkiaodkpaa.recordBroken
