/- CurvePublic holds of the given program: for all its arguments the law answers true, no argument is changed, and nothing panics; there are no further conditions. -/
import Derived.Test.YtkjbjgkjplmkhaaFc
import Derived.Test.YtkjbjgkjplmkhaaCe
import Derived.Test.YtkjbjgkjplmkhaaRows
import Derived.WalkKit
import Derived.ProofKit
import Derived.OpenShut
import Derived.ChangeOld
import Derived.SizedLaws
/- 2^252 + 27742317777372353535851937790883648493 is prime: a tree of certificates. -/
namespace Go.Proofs.Ytkjbjgkjplmkhaa.Vm
theorem ell_small : ∀ q ∈ [2, 3, 5, 7, 11, 23, 41, 43, 73, 269, 307, 1361, 2851, 5879, 30703, 82163, 132667, 137849, 409477, 531581, 1224481], Prm q := prms (by decide +kernel)
theorem ell_14741173 : Prm 14741173 ∧ ∀ x, x % 14741173 ≠ 0 → x ^ (14741173 - 1) % 14741173 = 1 := by
  refine prm_cert 2 [2, 2, 3, 3, 409477] (by decide) ?_ (by decide +kernel)
  intro q hq
  simp only [List.mem_cons, List.not_mem_nil, or_false] at hq
  rcases hq with rfl | rfl | rfl | rfl | rfl
  · exact ell_small _ (by decide)
  · exact ell_small _ (by decide)
  · exact ell_small _ (by decide)
  · exact ell_small _ (by decide)
  · exact ell_small _ (by decide)
theorem ell_58964693 : Prm 58964693 ∧ ∀ x, x % 58964693 ≠ 0 → x ^ (58964693 - 1) % 58964693 = 1 := by
  refine prm_cert 2 [2, 2, 14741173] (by decide) ?_ (by decide +kernel)
  intro q hq
  simp only [List.mem_cons, List.not_mem_nil, or_false] at hq
  rcases hq with rfl | rfl | rfl
  · exact ell_small _ (by decide)
  · exact ell_small _ (by decide)
  · exact ell_14741173.1
theorem ell_292386187 : Prm 292386187 ∧ ∀ x, x % 292386187 ≠ 0 → x ^ (292386187 - 1) % 292386187 = 1 := by
  refine prm_cert 2 [2, 3, 3, 3, 3, 307, 5879] (by decide) ?_ (by decide +kernel)
  intro q hq
  simp only [List.mem_cons, List.not_mem_nil, or_false] at hq
  rcases hq with rfl | rfl | rfl | rfl | rfl | rfl | rfl
  · exact ell_small _ (by decide)
  · exact ell_small _ (by decide)
  · exact ell_small _ (by decide)
  · exact ell_small _ (by decide)
  · exact ell_small _ (by decide)
  · exact ell_small _ (by decide)
  · exact ell_small _ (by decide)
theorem ell_213441916511 : Prm 213441916511 ∧ ∀ x, x % 213441916511 ≠ 0 → x ^ (213441916511 - 1) % 213441916511 = 1 := by
  refine prm_cert 13 [2, 5, 73, 292386187] (by decide) ?_ (by decide +kernel)
  intro q hq
  simp only [List.mem_cons, List.not_mem_nil, or_false] at hq
  rcases hq with rfl | rfl | rfl | rfl
  · exact ell_small _ (by decide)
  · exact ell_small _ (by decide)
  · exact ell_small _ (by decide)
  · exact ell_292386187.1
theorem ell_1257559732178653 : Prm 1257559732178653 ∧ ∀ x, x % 1257559732178653 ≠ 0 → x ^ (1257559732178653 - 1) % 1257559732178653 = 1 := by
  refine prm_cert 2 [2, 2, 3, 7, 23, 531581, 1224481] (by decide) ?_ (by decide +kernel)
  intro q hq
  simp only [List.mem_cons, List.not_mem_nil, or_false] at hq
  rcases hq with rfl | rfl | rfl | rfl | rfl | rfl | rfl
  · exact ell_small _ (by decide)
  · exact ell_small _ (by decide)
  · exact ell_small _ (by decide)
  · exact ell_small _ (by decide)
  · exact ell_small _ (by decide)
  · exact ell_small _ (by decide)
  · exact ell_small _ (by decide)
theorem ell_4434155615661930479 : Prm 4434155615661930479 ∧ ∀ x, x % 4434155615661930479 ≠ 0 → x ^ (4434155615661930479 - 1) % 4434155615661930479 = 1 := by
  refine prm_cert 17 [2, 41, 43, 1257559732178653] (by decide) ?_ (by decide +kernel)
  intro q hq
  simp only [List.mem_cons, List.not_mem_nil, or_false] at hq
  rcases hq with rfl | rfl | rfl | rfl
  · exact ell_small _ (by decide)
  · exact ell_small _ (by decide)
  · exact ell_small _ (by decide)
  · exact ell_1257559732178653.1
theorem ell_b22 : Prm 3044861653679985063343 ∧ ∀ x, x % 3044861653679985063343 ≠ 0 → x ^ (3044861653679985063343 - 1) % 3044861653679985063343 = 1 := by
  refine prm_cert 5 [2, 3, 11, 30703, 82163, 132667, 137849] (by decide) ?_ (by decide +kernel)
  intro q hq
  simp only [List.mem_cons, List.not_mem_nil, or_false] at hq
  rcases hq with rfl | rfl | rfl | rfl | rfl | rfl | rfl
  · exact ell_small _ (by decide)
  · exact ell_small _ (by decide)
  · exact ell_small _ (by decide)
  · exact ell_small _ (by decide)
  · exact ell_small _ (by decide)
  · exact ell_small _ (by decide)
  · exact ell_small _ (by decide)
theorem ell_b27 : Prm 172054593956031949258510691 ∧ ∀ x, x % 172054593956031949258510691 ≠ 0 → x ^ (172054593956031949258510691 - 1) % 172054593956031949258510691 = 1 := by
  refine prm_cert 2 [2, 5, 1361, 2851, 4434155615661930479] (by decide) ?_ (by decide +kernel)
  intro q hq
  simp only [List.mem_cons, List.not_mem_nil, or_false] at hq
  rcases hq with rfl | rfl | rfl | rfl | rfl
  · exact ell_small _ (by decide)
  · exact ell_small _ (by decide)
  · exact ell_small _ (by decide)
  · exact ell_small _ (by decide)
  · exact ell_4434155615661930479.1
theorem ell_b33 : Prm 198211423230930754013084525763697 ∧ ∀ x, x % 198211423230930754013084525763697 ≠ 0 → x ^ (198211423230930754013084525763697 - 1) % 198211423230930754013084525763697 = 1 := by
  refine prm_cert 5 [2, 2, 2, 2, 3, 23, 58964693, 3044861653679985063343] (by decide) ?_ (by decide +kernel)
  intro q hq
  simp only [List.mem_cons, List.not_mem_nil, or_false] at hq
  rcases hq with rfl | rfl | rfl | rfl | rfl | rfl | rfl | rfl
  · exact ell_small _ (by decide)
  · exact ell_small _ (by decide)
  · exact ell_small _ (by decide)
  · exact ell_small _ (by decide)
  · exact ell_small _ (by decide)
  · exact ell_small _ (by decide)
  · exact ell_58964693.1
  · exact ell_b22.1
theorem ell_b41 : Prm 19757330305831588566944191468367130476339 ∧ ∀ x, x % 19757330305831588566944191468367130476339 ≠ 0 → x ^ (19757330305831588566944191468367130476339 - 1) % 19757330305831588566944191468367130476339 = 1 := by
  refine prm_cert 2 [2, 269, 213441916511, 172054593956031949258510691] (by decide) ?_ (by decide +kernel)
  intro q hq
  simp only [List.mem_cons, List.not_mem_nil, or_false] at hq
  rcases hq with rfl | rfl | rfl | rfl
  · exact ell_small _ (by decide)
  · exact ell_small _ (by decide)
  · exact ell_213441916511.1
  · exact ell_b27.1
theorem ell_b42 : Prm 276602624281642239937218680557139826668747 ∧ ∀ x, x % 276602624281642239937218680557139826668747 ≠ 0 → x ^ (276602624281642239937218680557139826668747 - 1) % 276602624281642239937218680557139826668747 = 1 := by
  refine prm_cert 2 [2, 7, 19757330305831588566944191468367130476339] (by decide) ?_ (by decide +kernel)
  intro q hq
  simp only [List.mem_cons, List.not_mem_nil, or_false] at hq
  rcases hq with rfl | rfl | rfl
  · exact ell_small _ (by decide)
  · exact ell_small _ (by decide)
  · exact ell_b41.1
theorem ell_b76 : Prm 7237005577332262213973186563042994240857116359379907606001950938285454250989 ∧ ∀ x, x % 7237005577332262213973186563042994240857116359379907606001950938285454250989 ≠ 0 → x ^ (7237005577332262213973186563042994240857116359379907606001950938285454250989 - 1) % 7237005577332262213973186563042994240857116359379907606001950938285454250989 = 1 := by
  refine prm_cert 2 [2, 2, 3, 11, 198211423230930754013084525763697, 276602624281642239937218680557139826668747] (by decide) ?_ (by decide +kernel)
  intro q hq
  simp only [List.mem_cons, List.not_mem_nil, or_false] at hq
  rcases hq with rfl | rfl | rfl | rfl | rfl | rfl
  · exact ell_small _ (by decide)
  · exact ell_small _ (by decide)
  · exact ell_small _ (by decide)
  · exact ell_small _ (by decide)
  · exact ell_b33.1
  · exact ell_b42.1
end Go.Proofs.Ytkjbjgkjplmkhaa.Vm

namespace Go.Proofs.Ytkjbjgkjplmkhaa.Vm
open Go Go.Proofs Go.Proofs.Ytkjbjgkjplmkhaa
abbrev ell : Nat := 7237005577332262213973186563042994240857116359379907606001950938285454250989
theorem unit_of {l : Nat} (hl : 2 < l) (hp : Prm l ∧ ∀ x, x % l ≠ 0 → x ^ (l - 1) % l = 1) {c : Nat} (h : c % l ≠ 0) : ∃ u v, c * u = 1 + l * v := by
  have key : ∀ w : Nat, w + 1 = l - 1 → ∃ u v, c * u = 1 + l * v := by
    intro w hw
    have f := pow_one_of hp (w + 1) hw c h
    refine ⟨c ^ w, c ^ (w + 1) / l, ?_⟩
    have e := Nat.mod_add_div (c ^ (w + 1)) l
    rw [f] at e
    rw [e, Nat.pow_succ, Nat.mul_comm]
  exact key (l - 2) (by omega)
theorem ell_eight {l i q : Nat} (h8 : l % 8 = 5) (hi : 0 < i) (h5 : i < l) (hq : 8 * i = l * q) : False := by
  have hq8 : q < 8 := by
    rcases Nat.lt_or_ge q 8 with h | h
    · exact h
    · have := Nat.mul_le_mul_left l h
      omega
  rcases (by omega : q = 0 ∨ q = 1 ∨ q = 2 ∨ q = 3 ∨ q = 4 ∨ q = 5 ∨ q = 6 ∨ q = 7) with rfl | rfl | rfl | rfl | rfl | rfl | rfl | rfl <;> omega
theorem ell_clamp (k : Int) : cN k % ell ≠ 0 := by
  obtain ⟨j, h1, h2, i, h3, h4, h5⟩ := clamp_nat k
  have e : cN k = 8 * i := by unfold cN; rw [h1, Int.toNat_natCast, h3]
  rw [e]
  intro h0
  obtain ⟨q, hq⟩ := Nat.dvd_of_mod_eq_zero h0
  exact ell_eight (by decide) (Nat.lt_of_lt_of_le (by decide) h4) (Nat.lt_of_lt_of_le h5 (by decide)) hq
theorem ell_lad : ladK ell 9 255 1 0 9 1 = ((ladK ell 9 255 1 0 9 1).1, 0) := by decide +kernel
theorem val9 : (toF 9).val = 9 := by decide
theorem ell_x : xF (ell : Int) (toF 9) = 0 := by
  have h := ell_lad
  have := xF_of (k := ell) (x := toF 9) (a := (ladK ell 9 255 1 0 9 1).1) (b := 0) (r := 0) (by rw [val9]; exact h) (by decide) (by decide) rfl
  exact this
theorem uOf_zero' {P : EP} (h : uOf P = 0) : P.y = 1 ∨ P.y = -1 := by
  by_cases b1 : P.y = 1
  · exact .inl b1
  · right
    have e := uOf_eq b1
    rw [h] at e
    generalize P.y = y at *
    grind (splits := 0) (ringSteps := 1000000) -lia -linarith
theorem val_zero {a : Fp} (h : ((a.val : Nat) : Int) = 0) : a = 0 := Fin.ext (Int.ofNat.inj h)
theorem twice_O {l : Nat} (hl : l < 2 ^ 255) (hx : xF (l : Int) (toF 9) = 0) : B0.mul (l + l) = EP.O := by
  have h := xF_mul B0_ne.1 B0_ne.2 hl
  rw [B0_u, hx] at h
  have y := uOf_zero' (val_zero h.symm)
  rw [mul_add']
  exact two_O y
theorem dbl_O (P : EP) (h : P.add P = EP.O) : P.y * P.y + P.x * P.x = 1 * (1 - dE * (P.x * P.x * P.y * P.y)) := by
  have hy := addY_eq P P
  have h1 : (P.add P).y = EP.O.y := by rw [h]
  have h2 : (P.add P).y = addY P P := rfl
  have h3 : EP.O.y = 1 := rfl
  rw [h2, h3] at h1
  rw [h1] at hy
  exact hy.symm
theorem mul_two (P : EP) : P.mul 2 = P.add P := by
  show (EP.O.add P).add P = _
  rw [zero_add']
theorem B0_val : B0.y * B0.y + B0.x * B0.x ≠ 1 * (1 - dE * (B0.x * B0.x * B0.y * B0.y)) := by decide +kernel
theorem B0_two : B0.mul 2 ≠ EP.O := by
  intro h
  rw [mul_two] at h
  exact B0_val (dbl_O B0 h)
theorem order_eq (x y u v u' v' l : Nat) (hu : x * u = 1 + l * v) (hu' : y * u' = 1 + l * v') : (x * y + x * y) * (u * u') = 2 + (l + l) * (v + v' + l * v * v') := by
  have : (x * y + x * y) * (u * u') = 2 * ((x * u) * (y * u')) := by grind
  rw [this, hu, hu']
  grind
theorem agree_of {l : Nat} (hl : 2 < l) (hp : Prm l ∧ ∀ x, x % l ≠ 0 → x ^ (l - 1) % l = 1) (hO : B0.mul (l + l) = EP.O) {x y : Nat} (hx : x % l ≠ 0) (hy : y % l ≠ 0) : uOf ((B0.mul x).mul y) ≠ 0 := by
  intro h
  have h1 := two_O (uOf_zero' h)
  rw [← mul_mul', ← mul_add'] at h1
  obtain ⟨u, v, hu⟩ := unit_of hl hp hx
  obtain ⟨u', v', hu'⟩ := unit_of hl hp hy
  have e := order_eq x y u v u' v' l hu hu'
  have k1 : B0.mul ((x * y + x * y) * (u * u')) = EP.O := by rw [mul_mul', h1, mul_O]
  rw [e, mul_add', mul_mul', hO, mul_O, add_zero'] at k1
  exact B0_two k1
/-- What two make of each other's is never 0. -/
theorem agree_ne (a b : Int) : uOf ((B0.mul (cN a)).mul (cN b)) ≠ 0 :=
  agree_of (by decide) ell_b76 (twice_O (by decide) ell_x) (ell_clamp a) (ell_clamp b)
theorem curvePublic_ok (a b : Int) : PureF Try.prog 13 [(.aggi .u8 (W.bts a)), (.aggi .u8 (W.bts b))] (.c (.bool true)) := by
  have c1 := pub_ed a
  have c11 := x_ed b (B0.mul (cN a))
  have c3 := shared_ok b ((uOf (B0.mul (cN a))).val : Int)
  have c6 := x_ok a 9
  obtain ⟨hc, j, hj, hlt⟩ := clamp_cast b
  rw [fval_mod, hc, xF_even (B0.mul (cN a)) hlt hj] at c3
  have e9 : toF ((9 : Int) % 57896044618658097711785492504343953926634992332820282019728792003956564819968) = uOf B0 := by rw [B0_u]; rfl
  obtain ⟨hca, ja, hja, hlta⟩ := clamp_cast a
  rw [e9, hca, xF_even B0 hlta hja] at c6
  have ne := agree_ne a b
  have nz : (((uOf ((B0.mul (cN a)).mul (cN b))).val : Nat) : Int) ≠ 0 := fun e => ne (val_zero e)
  have b1 : (((uOf ((B0.mul (cN a)).mul (cN b))).val : Nat) : Int) < pP := by rw [pP_N]; exact Int.ofNat_lt.mpr (Fin.isLt _)
  have b2 : (((uOf (B0.mul (cN a))).val : Nat) : Int) < pP := by rw [pP_N]; exact Int.ofNat_lt.mpr (Fin.isLt _)
  have p1 : 0 ≤ (((uOf ((B0.mul (cN a)).mul (cN b))).val : Nat) : Int) := Int.natCast_nonneg _
  have p2 : 0 ≤ (((uOf (B0.mul (cN a))).val : Nat) : Int) := Int.natCast_nonneg _
  generalize (((uOf ((B0.mul (cN a)).mul (cN b))).val : Nat) : Int) = s at *
  generalize (((uOf (B0.mul (cN a))).val : Nat) : Int) = p at *
  have hz : (s == 0) = false := beq_false_of_ne nz
  rw [hz] at c3
  have hb : (!(W.bts s == W.bts 0)) = true := by
    have : W.bts s ≠ W.bts 0 := fun e => nz (bts_inj ⟨p1, b1⟩ ⟨by decide, by decide⟩ e)
    rw [beq_false_of_ne this]; rfl
  exact run13 a b p s 0 p s _ c1 c3 curveKnown_ok c6 (by simp [W.bts]) (by decide) hb c11 (by simp [W.bts]) rfl (decide_eq_true (by unfold pP at b2; omega))
end Go.Proofs.Ytkjbjgkjplmkhaa.Vm

namespace Go.Proofs.Ytkjbjgkjplmkhaa.curvePublic
open Go.ChangeShapes Go.WideShapes Go.ChangeAt Go.RowKit Go.Proofs.Ytkjbjgkjplmkhaa Go.Proofs.Ytkjbjgkjplmkhaa.Vm
theorem own : ownKnob Try.prog.godebug = none := by kernel_rfl
theorem laidOut : laidOutB Try.prog = true := by kernel_rfl
set_option maxRecDepth 100000 in
theorem lifted (os : Os) (started : os.Started) (H : Type) (enc : TypeId × Value → H) :
    ReturnsInHanded {} Try.checked os 13 .any (Rows.curvePublicSpec.pre6 enc Try.prog Try.f13 Rows.curvePublicRow.domain false) (Rows.curvePublicSpec.post enc Try.prog Try.f13 false true false false) := by
  refine returnsInHanded_of_change_sized (C := Try.checked) own started (by kernel_rfl) Try.func13
    (ChangeSpec.witness6 (enc := enc) (C := Try.checked) false ⟨#[], #[.agg (List.replicate 32 (.int .u8 0)).toArray, .agg (List.replicate 32 (.int .u8 0)).toArray], []⟩ 8 (by kernel_rfl) (by kernel_rfl) (by kernel_rfl) (by kernel_rfl)) ?_
  intro W base args ds gs before hval0 hW hcnd hsz0 _
  have hval : ∀ (j : Nat) t v, Try.f13.params[j]? = some t → args[j]? = some v → Value.okWide Try.prog W .any base t v := hval0
  have hW' := hW
  obtain ⟨p, q, hA0, hV, rfl, hfz, hnd⟩ := hW
  have hA : DataW.TrodAll enc Try.prog W 0 (fun _ => true) true Try.f13.params.toList args.toList ds p := hA0
  rw [Try.params13] at hA hval
  obtain ⟨v0, vs0, d0, ds0, p0, q0, hargs, rfl, rfl, h0, r0⟩ := trodAll_cons hA
  obtain ⟨v1, vs1, d1, ds1, p1, q1, rfl, rfl, rfl, h1, r1⟩ := trodAll_cons r0
  obtain ⟨rfl, rfl, rfl⟩ := trodAll_nil r1
  obtain rfl : args = #[v0, v1] := by cases args; simp_all
  obtain ⟨rfl, rfl⟩ := trodVars_none hV
  have k0 := h0
  have k1 := h1
  obtain ⟨l0, rfl, hl0, hwl0, rfl⟩ := open_array Try.underlying22 Try.underlying5 (by kernel_rfl) (by kernel_rfl) (hval 0 22 v0 rfl rfl) h0
  obtain ⟨l1, rfl, hl1, hwl1, rfl⟩ := open_array Try.underlying22 Try.underlying5 (by kernel_rfl) (by kernel_rfl) (hval 1 22 v1 rfl rfl) h1
  clear hA0 hval0 hsz0
  have hb0 : l0 = Go.Proofs.Ytkjbjgkjplmkhaa.W.bts (numL l0) := bts_num hl0 fun x hx => okLit_u8 (hwl0 x hx)
  have hb1 : l1 = Go.Proofs.Ytkjbjgkjplmkhaa.W.bts (numL l1) := bts_num hl1 fun x hx => okLit_u8 (hwl1 x hx)
  refine ((curvePublic_ok (numL l0) (numL l1)).law W (vals := [.agg (l0.map (Value.int .u8)).toArray, .agg (l1.map (Value.int .u8)).toArray]) (fun φ => .cons ?_ (.cons ?_ .nil))).mono fun e W' ⟨he, bel⟩ => ?_
  · rw [← hb0]; rfl
  · rw [← hb1]; rfl
  · subst he
    exact ⟨_, rfl, _, _, _, [], _, [], hW', trodAll_mk1 (shut_bool Try.underlying4 _), (trodAll_cons_mk (Below.trod laidOut (by kernel_rfl) (of_decide_eq_true (by kernel_rfl)) k0 bel (by simp)) (trodAll_cons_mk (Below.trod laidOut (by kernel_rfl) (of_decide_eq_true (by kernel_rfl)) k1 bel (by simp)) trodAll_mk0)), rfl, bel.frame _, fun h => by cases h⟩
theorem over : Rows.curvePublicRow.holds Try.pinned (OpenSpec.ofChange Rows.curvePublicSpec) :=
  OpenClaim.holds_of_wide 13 Try.f13 rfl rfl rfl rfl rfl rfl rfl ⟨rfl, rfl, rfl, rfl, rfl⟩ rfl rfl rfl rfl rfl (by kernel_rfl) Try.func13 (by kernel_rfl)
    (of_decide_eq_true (by kernel_rfl)) (by unfold Func.isWrapper; first | (rw [if_pos (by decide +kernel)]; kernel_rfl) | (rw [if_neg (by decide +kernel)]; exact ⟨rfl, rfl⟩))
    (fun os started H enc _ => lifted os started H enc)
theorem proved : Rows.CurvePublicSaid := over
#print axioms proved
end Go.Proofs.Ytkjbjgkjplmkhaa.curvePublic
