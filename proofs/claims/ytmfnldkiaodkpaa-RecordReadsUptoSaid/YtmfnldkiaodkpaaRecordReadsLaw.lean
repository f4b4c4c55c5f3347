/- What functions of the program come to: parts of the walk (RecordReadsLaw). -/
import Derived.Test.YtmfnldkiaodkpaaHb
import Derived.Test.YtmfnldkiaodkpaaRows
import Derived.Test.YtmfnldkiaodkpaaBulk
import Derived.Test.YtmfnldkiaodkpaaVmc
import Derived.WalkKit
import Derived.ProofKit
import Derived.OpenShut
import Derived.ChangeOld
import Derived.SizedLaws
import Derived.ChangeSlices
import Derived.JoinedCond
set_option linter.unusedSimpArgs false
set_option linter.unusedVariables false
namespace Go.Proofs.Ytmfnldkiaodkpaa.recordReads
open Go.ChangeShapes Go.WideShapes Go.ChangeAt Go.RowKit Go.Proofs.Ytmfnldkiaodkpaa Go.Proofs.Ytmfnldkiaodkpaa.Vm
theorem own : ownKnob Try.prog.godebug = none := by kernel_rfl
theorem laidOut : laidOutB Try.prog = true := by kernel_rfl
set_option maxRecDepth 100000 in
theorem lifted (os : Os) (started : os.Started) (H : Type) (enc : TypeId × Value → H) (F : Stop.Interp) :
    ReturnsInHanded {} Try.checked os 8 .any ((Rows.OpenSpec.upto Rows.recordReadsSpec).pre6 enc Try.prog Try.f8 Rows.recordReadsUptoRow.domain false) (((Rows.OpenSpec.upto Rows.recordReadsSpec).at F).post enc Try.prog Try.f8 false true false false) := by
  refine returnsInHanded_of_cond (C := Try.checked) (s := Rows.OpenSpec.upto Rows.recordReadsSpec) (k := Rows.uptoSmall) rfl own started (by kernel_rfl) Try.func8
    (OpenSpec.witness (enc := enc) (C := Try.checked) (s := Rows.OpenSpec.upto Rows.recordReadsSpec) (k := Rows.uptoSmall) rfl false ⟨#[], #[.slice none 0 0, .slice none 0 0, .slice none 0 0], []⟩ 8 (by kernel_rfl) (by kernel_rfl) (by kernel_rfl)
      (x := ([.nil, .nil, .nil], [], [])) (by kernel_rfl) rfl (by kernel_rfl)) ?_
  intro W base args ds gs before hval0 hW _ hk _
  have hval : ∀ (j : Nat) t v, Try.f8.params[j]? = some t → args[j]? = some v → Value.okWide Try.prog W .any base t v := hval0
  have hW' := hW
  obtain ⟨p, q, hA0, hV, rfl, hfz, hnd⟩ := hW
  have hA : DataW.TrodAll enc Try.prog W 0 (fun _ => true) true Try.f8.params.toList args.toList ds p := hA0
  rw [Try.params8] at hA hval
  obtain ⟨v0, vs0, d0, ds0, p0, q0, hargs, rfl, rfl, h0, r0⟩ := trodAll_cons hA
  obtain ⟨v1, vs1, d1, ds1, p1, q1, rfl, rfl, rfl, h1, r1⟩ := trodAll_cons r0
  obtain ⟨v2, vs2, d2, ds2, p2, q2, rfl, rfl, rfl, h2, r2⟩ := trodAll_cons r1
  obtain ⟨rfl, rfl, rfl⟩ := trodAll_nil r2
  obtain rfl : args = #[v0, v1, v2] := by cases args; simp_all
  obtain ⟨rfl, rfl⟩ := trodVars_none hV
  have k0 := h0
  have k1 := h1
  have k2 := h2
  obtain ⟨a0, len0, cap0, rfl⟩ := okWide_slice Try.underlying37 (hval 0 37 v0 rfl rfl)
  have lt0 : ∀ x ∈ p0, x.block < W.heap.size := by obtain ⟨m, hm⟩ := k0; exact DataW.trod_lt m _ _ _ hm
  obtain ⟨fuel0, hf0⟩ := h0
  obtain ⟨N0, ln0, T0, hs0, hwz0, hd0⟩ := open_srcR Try.underlying37 Try.underlying23 Try.underlying5 (by kernel_rfl) (by kernel_rfl) hf0
  obtain ⟨a1, len1, cap1, rfl⟩ := okWide_slice Try.underlying38 (hval 1 38 v1 rfl rfl)
  have lt1 : ∀ x ∈ p1, x.block < W.heap.size := by obtain ⟨m, hm⟩ := k1; exact DataW.trod_lt m _ _ _ hm
  obtain ⟨fuel1, hf1⟩ := h1
  obtain ⟨zs1, hs1, hd1⟩ := open_srcB Try.underlying38 Try.underlying4 (by kernel_rfl) hf1
  obtain ⟨a2, len2, cap2, rfl⟩ := okWide_slice Try.underlying55 (hval 2 55 v2 rfl rfl)
  have lt2 : ∀ x ∈ p2, x.block < W.heap.size := by obtain ⟨m, hm⟩ := k2; exact DataW.trod_lt m _ _ _ hm
  obtain ⟨fuel2, hf2⟩ := h2
  obtain ⟨zs2, hs2, hwz2, hd2⟩ := open_src Try.underlying55 Try.underlying3 (by kernel_rfl) hf2
  have hb2 : ∀ j, -9223372036854775808 ≤ List.getD zs2 j 0 ∧ List.getD zs2 j 0 < 9223372036854775808 := by
    intro j
    by_cases h : j < zs2.length
    · have hz := hwz2 _ (List.getElem_mem h)
      rw [List.getD_eq_getElem?_getD, List.getElem?_eq_getElem h, Option.getD_some]
      simp [Lit.wf, IntKind.min, IntKind.max, IntKind.signed, IntKind.bits] at hz
      omega
    · rw [List.getD_eq_getElem?_getD, List.getElem?_eq_none (by omega), Option.getD_none]; omega
  have hsm2 : zs2.length ≤ 1048576 := by
    rcases hd2 with h0 | h0
    · rw [h0]; exact Nat.zero_le _
    · have h1 : Rows.uptoBulk d2 ≤ 1048576 := by
        refine Nat.le_trans (bulks.part_le ?_) (bulks.bound hk)
        simp
      have h3 : d2 = _ := h0
      rw [h3] at h1
      have h4 := bulks.slice_le (lits (H := H) .i64 (zs2.take len2)) (lits .i64 (zs2.drop len2))
      rw [lits_len, lits_len, List.length_take, List.length_drop] at h4
      have h5 := Nat.le_trans h4 h1
      omega
  have hb0 : ∀ r, Go.Proofs.Ytmfnldkiaodkpaa.W.bytes (T0 r) := fun r x hx => okLit_u8 (hwz0 r x hx)
  have h10 : Rows.uptoBulk d0 ≤ 1048576 := by
    refine Nat.le_trans (bulks.part_le ?_) (bulks.bound hk)
    simp
  have hlen0 : len0 ≤ 1048576 := by
    rcases hd0 with h0 | ⟨E, S, hE, hEl, _⟩
    · have := hs0.le; omega
    · have hE : d0 = _ := hE
      rw [hE] at h10
      have := bulks.slice_le E S; omega
  have hsm0 : ∀ r, (T0 r).length ≤ 1048576 := by
    intro r
    rcases hd0 with h0 | ⟨E, S, hE, _, hz⟩
    · rw [(hs0.1 r (by omega)).1]; exact Nat.zero_le _
    · have hE : d0 = _ := hE
      rcases hz r with e | ⟨z, hm, hzs⟩
      · rw [e]; exact Nat.zero_le _
      · have q1 := bulks.row_le hm
        rw [← hE, hzs] at q1
        have q2 := bulks.slice_le (lits (H := H) .u8 ((T0 r).take (ln0 r))) (lits .u8 ((T0 r).drop (ln0 r)))
        rw [lits_len, lits_len, List.length_take, List.length_drop] at q2
        omega
  obtain ⟨lc0, hat0, hv0⟩ := hs0.loc 1
  have hlen1 : len1 ≤ 1048576 := by
    have h1 : Rows.uptoBulk d1 ≤ 1048576 := by
      refine Nat.le_trans (bulks.part_le ?_) (bulks.bound hk)
      simp
    rcases hd1 with h0 | ⟨E, S, hE, hEl⟩
    · omega
    · have hE : d1 = _ := hE
      rw [hE] at h1
      have := bulks.slice_le E S; omega
  obtain ⟨lc2, hat2, hv2⟩ := hs2.loc
  obtain ⟨lc1, hat1, hv1⟩ := hs1.loc
  have main : Calls Try.prog 8 [.slice a0 len0 cap0, .slice a1 len1 cap1, .slice a2 len2 cap2].toArray W fun e W' => e = .returned (.bool true) ∧ Below W.heap.size W W' :=
    Contract0.law_src [.fam ⟨false, false, .gen N0 (fun j => C.sl 2 j 0 (ln0 j) 1)⟩ (fun j => ⟨false, false, .ints .u8 (T0 j)⟩), .one ⟨false, false, .gen cap1 (fun j => C.bool (zs1 j))⟩, .one ⟨false, false, .ints .i64 zs2⟩] (recordReads_law N0 ln0 T0 len0 hs0.le hs0.lens hb0 hsm0 hlen0 zs1 cap1 len1 hs1.le hlen1 zs2 len2 hs2.le hb2 hsm2) W [.fam lc0, .one lc1, .one lc2] ⟨hat0, ⟨hat1, ⟨hat2, trivial⟩⟩⟩ (.cons (hv0 _ rfl) (.cons (hv1 _ 3 rfl) (.cons (hv2 _ 4 rfl) .nil)))
  refine main.mono fun e W' ⟨he, bel⟩ => ?_
  subst he
  exact ⟨_, rfl, _, _, _, [], _, [], hW', trodAll_mk1 (shut_bool Try.underlying4 _), (trodAll_cons_mk (Below.trod laidOut (by kernel_rfl) (of_decide_eq_true (by kernel_rfl)) k0 bel lt0) (trodAll_cons_mk (Below.trod laidOut (by kernel_rfl) (of_decide_eq_true (by kernel_rfl)) k1 bel lt1) (trodAll_cons_mk (Below.trod laidOut (by kernel_rfl) (of_decide_eq_true (by kernel_rfl)) k2 bel lt2) trodAll_mk0))), rfl, bel.frame _, fun h => by cases h⟩
theorem over : Rows.recordReadsUptoRow.holds Try.pinned (Rows.OpenSpec.upto Rows.recordReadsSpec) :=
  OpenClaim.holds_of_cond 8 Try.f8 rfl rfl rfl rfl rfl rfl rfl ⟨rfl, rfl, rfl, rfl, rfl⟩ rfl rfl rfl rfl rfl (by kernel_rfl) Try.func8 (by kernel_rfl)
    (of_decide_eq_true (by kernel_rfl)) (by unfold Func.isWrapper; first | (rw [if_pos (by decide +kernel)]; kernel_rfl) | (rw [if_neg (by decide +kernel)]; exact ⟨rfl, rfl⟩))
    (fun os started H enc _ F => lifted os started H enc F)
theorem proved : Rows.RecordReadsUptoSaid := over
#print axioms proved
end Go.Proofs.Ytmfnldkiaodkpaa.recordReads
