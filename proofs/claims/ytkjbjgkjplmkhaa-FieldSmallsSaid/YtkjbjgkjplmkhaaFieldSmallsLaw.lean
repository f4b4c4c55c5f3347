/- FieldSmalls holds of the given program: for all its arguments the law answers true, no argument is changed, and nothing panics; there are no further conditions. -/
import Derived.Test.YtkjbjgkjplmkhaaFg
import Derived.Test.YtkjbjgkjplmkhaaRows
import Derived.WalkKit
import Derived.ProofKit
import Derived.OpenShut
import Derived.ChangeOld
import Derived.SizedLaws
namespace Go.Proofs.Ytkjbjgkjplmkhaa.Vm
open Go Go.Proofs Go.Proofs.Ytkjbjgkjplmkhaa
noncomputable def sumO (x : W.El) : Nat → W.El → W.El
  | 0, o => o
  | k + 1, o => sumO x k (sumE o x)
theorem sumO_ok {x : W.El} (hx : x.ok) : ∀ (k : Nat) {o : W.El} (_ : o.ok), (sumO x k o).ok ∧ (sumO x k o).f = o.f + x.f * toF k
  | 0, o, ho => ⟨ho, by
    show o.f = o.f + x.f * toF (0 : Int)
    rw [toF_zero]; grind⟩
  | k + 1, o, ho => by
    obtain ⟨_, h2, h3⟩ := sumE_spec ho hx
    obtain ⟨h4, h5⟩ := sumO_ok hx k h2
    refine ⟨h4, ?_⟩
    show (sumO x k (sumE o x)).f = _
    rw [h5, h3, Int.natCast_add, toF_add]
    show _ = o.f + x.f * (toF k + toF 1)
    rw [toF_one]; grind
theorem loop6 {x z : W.El} (hx : x.ok) (hz : z.ok) (x5 x7 : Int) (n : Nat) (hn : n < 12) :
    CodeOk Try.prog 57 369 (kAt (kOf Try.prog Try.f6) [true, true, true, true, true, true, false, true, false]) (L6I x x5 x7 n 0 z) (.exit 0) (L6J x x5 x7 n (sumO x n z)) := by
  have key := CodeOk.loop (P := Try.prog) (nt := 57) (n0 := 369) (k := kAt (kOf Try.prog Try.f6) [true, true, true, true, true, true, false, true, false, false]) (ex := .exit 0) (s' := L6J x x5 x7 n (sumO x n z))
    (fun y : Nat × W.El => L6I x x5 x7 n ((n - y.1 : Nat) : Int) y.2) (fun y => y.1 ≤ n ∧ y.2.ok ∧ sumO x y.1 y.2 = sumO x n z) (fun y => y.1) (by simp) ?_ (n, z) ⟨Nat.le_refl _, hz, rfl⟩
  · dsimp only at key
    rw [Nat.sub_self] at key
    exact key
  · rintro ⟨k, o⟩ ⟨hk, ho, hI⟩
    dsimp only at hk ho hI
    cases k with
    | zero =>
      right
      rw [← hI]
      exact run6_out x x5 x7 n _ o (decide_eq_false (by dsimp only; omega))
    | succ k =>
      left
      obtain ⟨c2, h2, _⟩ := sumE_spec ho hx
      exact ⟨(k, sumE o x), ⟨by dsimp only; omega, h2, hI⟩, by dsimp only; omega, run6_go x x5 x7 n _ o _ _ (decide_eq_true (by dsimp only; omega)) c2 (by dsimp only; omega)⟩
theorem fieldSmalls_ok (a : Int) {h n m : Int} (i_h : I64 h) (hn : 0 ≤ n ∧ n < 4294967296) (hm : 0 ≤ m ∧ m < 4294967296) : PureF Try.prog 6 [(.aggi .u8 (W.bts a)), (.c (.int .i64 h)), (.c (.int .u32 n)), (.c (.int .u32 m))] (.c (.bool true)) := by
  obtain ⟨r15_0n, c1⟩ := edge_ok a i_h
  obtain ⟨r14_2e, c3, ok_r14_2e, v_r14_2e⟩ := from_el r15_0n
  have f_r14_2e := congrArg toF v_r14_2e
  change r14_2e.f = _ at f_r14_2e
  obtain ⟨x5, h4⟩ : ∃ z : Int, Int.tmod n 2147483648 = z := ⟨_, rfl⟩
  have b5 : 0 ≤ x5 ∧ x5 < 2147483648 := by
    rw [Int.tmod_eq_emod_of_nonneg hn.1] at h4; omega
  have b_x5 : 0 ≤ x5 ∧ x5 < 4294967296 := by omega
  obtain ⟨x7, h6⟩ : ∃ z : Int, Int.tmod m 2147483648 = z := ⟨_, rfl⟩
  have b7 : 0 ≤ x7 ∧ x7 < 2147483648 := by
    rw [Int.tmod_eq_emod_of_nonneg hm.1] at h6; omega
  have b_x7 : 0 ≤ x7 ∧ x7 < 4294967296 := by omega
  have h8 : IntKind.wrap IntKind.i64 x5 = x5 := wrapI (by unfold I64; omega)
  have c11 := pick_ok (a := x5) (b := 12) (by decide)
  obtain ⟨k, hk⟩ : ∃ k : Nat, x5 % 12 = (k : Int) := ⟨(x5 % 12).toNat, by omega⟩
  have hk12 : k < 12 := by omega
  rw [hk] at c11
  have h12 : (k : Int) % 4294967296 = (k : Int) := by omega
  have b_x13 : 0 ≤ (k : Int) ∧ (k : Int) < 4294967296 := by omega
  obtain ⟨r24_14e, c15, ok_r24_14e, f_r24_14e⟩ := zero_el
  obtain ⟨ok_o, f_o⟩ := sumO_ok ok_r14_2e k ok_r24_14e
  have l16 := loop6 ok_r14_2e ok_r24_14e x5 x7 k hk12
  generalize sumO r14_2e k r24_14e = o at *
  have c17 := known_ok
  obtain ⟨r26_18e, c19, ok_r26_18e, f_r26_18e⟩ := small_el ok_r14_2e b_x5
  obtain ⟨r26_20e, c21, ok_r26_20e, f_r26_20e⟩ := small_el ok_r14_2e b_x7
  obtain ⟨r22_22e, c23, ok_r22_22e, f_r22_22e⟩ := add_el ok_r26_18e ok_r26_20e
  have h24 : (x5 + x7) % 4294967296 = x5 + x7 := by omega
  have b_x25 : 0 ≤ x5 + x7 ∧ x5 + x7 < 4294967296 := by omega
  obtain ⟨r26_26e, c27, ok_r26_26e, f_r26_26e⟩ := small_el ok_r14_2e b_x25
  have c28 := equal_yes ok_r22_22e ok_r26_26e (by simp only [f_r22_22e, f_r26_18e, f_r26_20e, f_r26_26e, toF_add]; grind)
  obtain ⟨r26_29e, c30, ok_r26_29e, f_r26_29e⟩ := small_el ok_r14_2e b_x13
  have c31 := equal_yes ok_r26_29e ok_o (by simp only [f_r26_29e, f_o, f_r24_14e]; grind)
  exact run6 a h n m r15_0n r14_2e x5 x7 x5 (k : Int) (k : Int) r24_14e o r26_18e r26_20e r22_22e (x5 + x7) r26_26e r26_29e c1 c3 h4 h6 h8 c11 h12 c15 l16 c17 c19 c21 c23 h24 c27 c28 c30 c31
end Go.Proofs.Ytkjbjgkjplmkhaa.Vm

namespace Go.Proofs.Ytkjbjgkjplmkhaa.fieldSmalls
open Go.ChangeShapes Go.WideShapes Go.ChangeAt Go.RowKit Go.Proofs.Ytkjbjgkjplmkhaa Go.Proofs.Ytkjbjgkjplmkhaa.Vm
theorem own : ownKnob Try.prog.godebug = none := by kernel_rfl
theorem laidOut : laidOutB Try.prog = true := by kernel_rfl
set_option maxRecDepth 100000 in
theorem lifted (os : Os) (started : os.Started) (H : Type) (enc : TypeId × Value → H) :
    ReturnsInHanded {} Try.checked os 6 .any (Rows.fieldSmallsSpec.pre6 enc Try.prog Try.f6 Rows.fieldSmallsRow.domain false) (Rows.fieldSmallsSpec.post enc Try.prog Try.f6 false true false false) := by
  refine returnsInHanded_of_change_sized (C := Try.checked) own started (by kernel_rfl) Try.func6
    (ChangeSpec.witness6 (enc := enc) (C := Try.checked) false ⟨#[], #[.agg (List.replicate 32 (.int .u8 0)).toArray, .int .i64 0, .int .u32 0, .int .u32 0], []⟩ 8 (by kernel_rfl) (by kernel_rfl) (by kernel_rfl) (by kernel_rfl)) ?_
  intro W base args ds gs before hval0 hW hcnd hsz0 _
  have hval : ∀ (j : Nat) t v, Try.f6.params[j]? = some t → args[j]? = some v → Value.okWide Try.prog W .any base t v := hval0
  have hW' := hW
  obtain ⟨p, q, hA0, hV, rfl, hfz, hnd⟩ := hW
  have hA : DataW.TrodAll enc Try.prog W 0 (fun _ => true) true Try.f6.params.toList args.toList ds p := hA0
  rw [Try.params6] at hA hval
  obtain ⟨v0, vs0, d0, ds0, p0, q0, hargs, rfl, rfl, h0, r0⟩ := trodAll_cons hA
  obtain ⟨v1, vs1, d1, ds1, p1, q1, rfl, rfl, rfl, h1, r1⟩ := trodAll_cons r0
  obtain ⟨v2, vs2, d2, ds2, p2, q2, rfl, rfl, rfl, h2, r2⟩ := trodAll_cons r1
  obtain ⟨v3, vs3, d3, ds3, p3, q3, rfl, rfl, rfl, h3, r3⟩ := trodAll_cons r2
  obtain ⟨rfl, rfl, rfl⟩ := trodAll_nil r3
  obtain rfl : args = #[v0, v1, v2, v3] := by cases args; simp_all
  obtain ⟨rfl, rfl⟩ := trodVars_none hV
  have k0 := h0
  obtain ⟨l0, rfl, hl0, hwl0, rfl⟩ := open_array Try.underlying22 Try.underlying5 (by kernel_rfl) (by kernel_rfl) (hval 0 22 v0 rfl rfl) h0
  obtain ⟨a1, rfl, rfl, rfl, w1⟩ := open_int Try.underlying3 (hval 1 3 v1 rfl rfl) h1
  obtain ⟨a2, rfl, rfl, rfl, w2⟩ := open_int Try.underlying40 (hval 2 40 v2 rfl rfl) h2
  obtain ⟨a3, rfl, rfl, rfl, w3⟩ := open_int Try.underlying40 (hval 3 40 v3 rfl rfl) h3
  clear hA0 hval0 hsz0
  have hb0 : l0 = Go.Proofs.Ytkjbjgkjplmkhaa.W.bts (numL l0) := bts_num hl0 fun x hx => okLit_u8 (hwl0 x hx)
  have he1 : I64 a1 := by
    simp [Lit.wf, IntKind.min, IntKind.max, IntKind.signed, IntKind.bits] at w1
    unfold I64; omega
  have he2 : 0 ≤ a2 ∧ a2 < 4294967296 := by
    simp [Lit.wf, IntKind.min, IntKind.max, IntKind.signed, IntKind.bits] at w2
    omega
  have he3 : 0 ≤ a3 ∧ a3 < 4294967296 := by
    simp [Lit.wf, IntKind.min, IntKind.max, IntKind.signed, IntKind.bits] at w3
    omega
  refine ((fieldSmalls_ok (numL l0) he1 he2 he3).law W (vals := [.agg (l0.map (Value.int .u8)).toArray, .int .i64 a1, .int .u32 a2, .int .u32 a3]) (fun φ => .cons ?_ (.cons rfl (.cons rfl (.cons rfl .nil))))).mono fun e W' ⟨he, bel⟩ => ?_
  · rw [← hb0]; rfl
  · subst he
    exact ⟨_, rfl, _, _, _, [], _, [], hW', trodAll_mk1 (shut_bool Try.underlying4 _), (trodAll_cons_mk (Below.trod laidOut (by kernel_rfl) (of_decide_eq_true (by kernel_rfl)) k0 bel (by simp)) (trodAll_cons_mk (shut_int Try.underlying3 w1) (trodAll_cons_mk (shut_int Try.underlying40 w2) (trodAll_cons_mk (shut_int Try.underlying40 w3) trodAll_mk0)))), rfl, bel.frame _, fun h => by cases h⟩
theorem over : Rows.fieldSmallsRow.holds Try.pinned (OpenSpec.ofChange Rows.fieldSmallsSpec) :=
  OpenClaim.holds_of_wide 6 Try.f6 rfl rfl rfl rfl rfl rfl rfl ⟨rfl, rfl, rfl, rfl, rfl⟩ rfl rfl rfl rfl rfl (by kernel_rfl) Try.func6 (by kernel_rfl)
    (of_decide_eq_true (by kernel_rfl)) (by unfold Func.isWrapper; first | (rw [if_pos (by decide +kernel)]; kernel_rfl) | (rw [if_neg (by decide +kernel)]; exact ⟨rfl, rfl⟩))
    (fun os started H enc _ => lifted os started H enc)
theorem proved : Rows.FieldSmallsSaid := over
#print axioms proved
end Go.Proofs.Ytkjbjgkjplmkhaa.fieldSmalls
