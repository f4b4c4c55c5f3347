/- What functions of the program come to: parts of the walk (Pi). -/
import Derived.Test.YtmfnldkiaodkpaaPg
import Derived.KernelRfl
import Derived.Test.YtmfnldkiaodkpaaProg
set_option linter.unusedSimpArgs false
set_option linter.unusedVariables false
namespace Go.Proofs.Ytmfnldkiaodkpaa.Vm
open Go Go.Proofs Go.Proofs.Ytmfnldkiaodkpaa
def v26 (a0 a1 a2 a3 a4 : Int) : Int := a0 + a1 * 67108864 + a2 * 4503599627370496 + a3 * 302231454903657293676544 + a4 * 20282409603651670423947251286016
def p130 : Int := 1361129467683753853853498429727072845819
def vP (e : W.El) : Int := v26 e.a0 e.a1 e.a2 e.a3 e.a4
def okP (e : W.El) : Prop := (0 ≤ e.a0 ∧ e.a0 < 67108864) ∧ (0 ≤ e.a1 ∧ e.a1 < 67141632) ∧ (0 ≤ e.a2 ∧ e.a2 < 67108864) ∧ (0 ≤ e.a3 ∧ e.a3 < 67108864) ∧ (0 ≤ e.a4 ∧ e.a4 < 67108864)
def B62 (a : Int) : Prop := 0 ≤ a ∧ a < 4611686018427387904
theorem mask26 {a : Int} (h1 : 0 ≤ a) (h2 : a < 18446744073709551616) : bAnd .u64 a 67108863 = a % 67108864 := by
  rw [bAnd64 h1 h2 (by decide) (by decide)]
  have : a.toNat &&& (67108863 : Int).toNat = a.toNat % 67108864 := Nat.and_two_pow_sub_one_eq_mod a.toNat 26
  rw [this]; omega
theorem cstep {a c x d l : Int} (ha : B62 a) (hc : 0 ≤ c ∧ c < 1099511627776) (h : (a + c) % 18446744073709551616 = x) (hd : x / 67108864 = d) (hl : bAnd IntKind.u64 x 67108863 = l) : a + c = 67108864 * d + l ∧ (0 ≤ l ∧ l < 67108864) ∧ (0 ≤ d ∧ d < 137438953472) := by
  unfold B62 at ha
  rw [mask26 (by omega) (by omega)] at hl
  omega
theorem carry_num {a0 a1 a2 a3 a4 : Int} (g0 : B62 a0) (g1 : B62 a1) (g2 : B62 a2) (g3 : B62 a3) (g4 : B62 a4) : ∃ e : W.El, PureF Try.prog 84 [(.aggi .u64 [a0, a1, a2, a3, a4])] (.aggi .u64 (W.el e)) ∧ okP e ∧ ∃ q, vP e = v26 a0 a1 a2 a3 a4 - p130 * q := by
  obtain ⟨x1, h0⟩ : ∃ z : Int, (a0 + 0) % 18446744073709551616 = z := ⟨_, rfl⟩
  obtain ⟨x3, h2⟩ : ∃ z : Int, x1 / 67108864 = z := ⟨_, rfl⟩
  obtain ⟨x5, h4⟩ : ∃ z : Int, bAnd IntKind.u64 x1 67108863 = z := ⟨_, rfl⟩
  obtain ⟨x7, h6⟩ : ∃ z : Int, (a1 + x3) % 18446744073709551616 = z := ⟨_, rfl⟩
  obtain ⟨x9, h8⟩ : ∃ z : Int, x7 / 67108864 = z := ⟨_, rfl⟩
  obtain ⟨x11, h10⟩ : ∃ z : Int, bAnd IntKind.u64 x7 67108863 = z := ⟨_, rfl⟩
  obtain ⟨x13, h12⟩ : ∃ z : Int, (a2 + x9) % 18446744073709551616 = z := ⟨_, rfl⟩
  obtain ⟨x15, h14⟩ : ∃ z : Int, x13 / 67108864 = z := ⟨_, rfl⟩
  obtain ⟨x17, h16⟩ : ∃ z : Int, bAnd IntKind.u64 x13 67108863 = z := ⟨_, rfl⟩
  obtain ⟨x19, h18⟩ : ∃ z : Int, (a3 + x15) % 18446744073709551616 = z := ⟨_, rfl⟩
  obtain ⟨x21, h20⟩ : ∃ z : Int, x19 / 67108864 = z := ⟨_, rfl⟩
  obtain ⟨x23, h22⟩ : ∃ z : Int, bAnd IntKind.u64 x19 67108863 = z := ⟨_, rfl⟩
  obtain ⟨x25, h24⟩ : ∃ z : Int, (a4 + x21) % 18446744073709551616 = z := ⟨_, rfl⟩
  obtain ⟨x27, h26⟩ : ∃ z : Int, x25 / 67108864 = z := ⟨_, rfl⟩
  obtain ⟨x29, h28⟩ : ∃ z : Int, bAnd IntKind.u64 x25 67108863 = z := ⟨_, rfl⟩
  obtain ⟨x31, h30⟩ : ∃ z : Int, 5 * x27 % 18446744073709551616 = z := ⟨_, rfl⟩
  obtain ⟨x33, h32⟩ : ∃ z : Int, (x5 + x31) % 18446744073709551616 = z := ⟨_, rfl⟩
  obtain ⟨x35, h34⟩ : ∃ z : Int, x33 / 67108864 = z := ⟨_, rfl⟩
  obtain ⟨x37, h36⟩ : ∃ z : Int, (x11 + x35) % 18446744073709551616 = z := ⟨_, rfl⟩
  obtain ⟨x39, h38⟩ : ∃ z : Int, bAnd IntKind.u64 x33 67108863 = z := ⟨_, rfl⟩
  have run := run64 a0 a1 a2 a3 a4 x1 x3 x5 x7 x9 x11 x13 x15 x17 x19 x21 x23 x25 x27 x29 x31 x33 x35 x37 x39 h0 h2 h4 h6 h8 h10 h12 h14 h16 h18 h20 h22 h24 h26 h28 h30 h32 h34 h36 h38
  obtain ⟨e1, l1, d1⟩ := cstep g0 ⟨by decide, by decide⟩ h0 h2 h4
  obtain ⟨e2, l2, d2⟩ := cstep g1 ⟨d1.1, Int.lt_trans d1.2 (by decide)⟩ h6 h8 h10
  obtain ⟨e3, l3, d3⟩ := cstep g2 ⟨d2.1, Int.lt_trans d2.2 (by decide)⟩ h12 h14 h16
  obtain ⟨e4, l4, d4⟩ := cstep g3 ⟨d3.1, Int.lt_trans d3.2 (by decide)⟩ h18 h20 h22
  obtain ⟨e5, l5, d5⟩ := cstep g4 ⟨d4.1, Int.lt_trans d4.2 (by decide)⟩ h24 h26 h28
  have m31 : x31 = 5 * x27 := by omega
  have m33 : x33 = x5 + x31 := by omega
  have k39 : bAnd IntKind.u64 x33 67108863 = x33 % 67108864 := mask26 (by omega) (by omega)
  have m39 : x33 = 67108864 * x35 + x39 ∧ (0 ≤ x39 ∧ x39 < 67108864) ∧ (0 ≤ x35 ∧ x35 < 32768) := by
    rw [k39] at h38
    omega
  have m37 : x37 = x11 + x35 := by omega
  refine ⟨⟨x39, x37, x17, x23, x29⟩, run, ⟨m39.2.1, ⟨by dsimp only; omega, by dsimp only; omega⟩, l3, l4, l5⟩, x27, ?_⟩
  show v26 x39 x37 x17 x23 x29 = _
  clear h0 h2 h4 h6 h8 h10 h12 h14 h16 h18 h20 h22 h24 h26 h28 h30 h32 h34 h36 h38 k39 run
  have n39 := m39.1
  unfold v26 p130
  omega
def Bq (k w : Int) : Prop := 0 ≤ w ∧ w ≤ k * 18014398509481984
theorem Bq.add {k l w p : Int} (h : Bq k w) (h' : Bq l p) : Bq (k + l) (w + p) := by unfold Bq at *; omega
theorem bq0 : Bq 0 0 := by unfold Bq; decide
theorem smod {k l w p : Int} (h : Bq k w) (h' : Bq l p) (hk : k + l ≤ 100) : (w + p) % 18446744073709551616 = w + p := by unfold Bq at *; omega
theorem pmod {l p : Int} (h : Bq l p) (hk : l ≤ 100) : p % 18446744073709551616 = p := by unfold Bq at *; omega
def B28 (a : Int) : Prop := 0 ≤ a ∧ a < 268435456
def B26 (a : Int) : Prop := 0 ≤ a ∧ a < 67108864
theorem pq {a b : Int} (ha : B28 a) (hb : B26 b) : Bq 1 (a * b) := by
  have h1 := Int.mul_nonneg ha.1 hb.1
  have h2 : a * b ≤ 268435456 * 67108864 := Int.mul_le_mul (Int.le_of_lt ha.2) (Int.le_of_lt hb.2) hb.1 (by decide)
  unfold Bq; omega
theorem pq5 {a b : Int} (ha : B28 a) (hb : B26 b) : Bq 5 (5 * a * b) := by
  have h := pq ha hb
  rw [Int.mul_assoc]
  unfold Bq at *; omega
theorem m5 {a : Int} (ha : B28 a) : 5 * a % 18446744073709551616 = 5 * a := by unfold B28 at ha; omega
theorem bq62 {k w : Int} (h : Bq k w) (hk : k ≤ 100) : B62 w := by unfold Bq at h; unfold B62; omega
theorem times_v (a0 a1 a2 a3 a4 b0 b1 b2 b3 b4 : Int) : ∃ q, v26 (((((0 + (a0 * b0)) + (5 * a1 * b4)) + (5 * a2 * b3)) + (5 * a3 * b2)) + (5 * a4 * b1)) (((((0 + (a0 * b1)) + (a1 * b0)) + (5 * a2 * b4)) + (5 * a3 * b3)) + (5 * a4 * b2)) (((((0 + (a0 * b2)) + (a1 * b1)) + (a2 * b0)) + (5 * a3 * b4)) + (5 * a4 * b3)) (((((0 + (a0 * b3)) + (a1 * b2)) + (a2 * b1)) + (a3 * b0)) + (5 * a4 * b4)) (((((0 + (a0 * b4)) + (a1 * b3)) + (a2 * b2)) + (a3 * b1)) + (a4 * b0)) = v26 a0 a1 a2 a3 a4 * v26 b0 b1 b2 b3 b4 - p130 * q := by
  refine ⟨v26 (a1 * b4 + a2 * b3 + a3 * b2 + a4 * b1) (a2 * b4 + a3 * b3 + a4 * b2) (a3 * b4 + a4 * b3) (a4 * b4) 0, ?_⟩
  unfold v26 p130
  grind
theorem times_num {a b : W.El} (g : B28 a.a0 ∧ B28 a.a1 ∧ B28 a.a2 ∧ B28 a.a3 ∧ B28 a.a4) (k : B26 b.a0 ∧ B26 b.a1 ∧ B26 b.a2 ∧ B26 b.a3 ∧ B26 b.a4) : ∃ e : W.El, PureF Try.prog 60 [(.aggi .u64 (W.el a)), (.aggi .u64 (W.el b))] (.aggi .u64 (W.el e)) ∧ okP e ∧ ∃ q, vP e = vP a * vP b - p130 * q := by
  obtain ⟨g0, g1, g2, g3, g4⟩ := g
  obtain ⟨k0, k1, k2, k3, k4⟩ := k
  obtain ⟨E, c, ok, q, hq⟩ := carry_num (bq62 (k := 21) (w := (((((0 + (a.a0 * b.a0)) + (5 * a.a1 * b.a4)) + (5 * a.a2 * b.a3)) + (5 * a.a3 * b.a2)) + (5 * a.a4 * b.a1))) (Bq.add (Bq.add (Bq.add (Bq.add (Bq.add bq0 (pq g0 k0)) (pq5 g1 k4)) (pq5 g2 k3)) (pq5 g3 k2)) (pq5 g4 k1)) (by decide)) (bq62 (k := 17) (w := (((((0 + (a.a0 * b.a1)) + (a.a1 * b.a0)) + (5 * a.a2 * b.a4)) + (5 * a.a3 * b.a3)) + (5 * a.a4 * b.a2))) (Bq.add (Bq.add (Bq.add (Bq.add (Bq.add bq0 (pq g0 k1)) (pq g1 k0)) (pq5 g2 k4)) (pq5 g3 k3)) (pq5 g4 k2)) (by decide)) (bq62 (k := 13) (w := (((((0 + (a.a0 * b.a2)) + (a.a1 * b.a1)) + (a.a2 * b.a0)) + (5 * a.a3 * b.a4)) + (5 * a.a4 * b.a3))) (Bq.add (Bq.add (Bq.add (Bq.add (Bq.add bq0 (pq g0 k2)) (pq g1 k1)) (pq g2 k0)) (pq5 g3 k4)) (pq5 g4 k3)) (by decide)) (bq62 (k := 9) (w := (((((0 + (a.a0 * b.a3)) + (a.a1 * b.a2)) + (a.a2 * b.a1)) + (a.a3 * b.a0)) + (5 * a.a4 * b.a4))) (Bq.add (Bq.add (Bq.add (Bq.add (Bq.add bq0 (pq g0 k3)) (pq g1 k2)) (pq g2 k1)) (pq g3 k0)) (pq5 g4 k4)) (by decide)) (bq62 (k := 5) (w := (((((0 + (a.a0 * b.a4)) + (a.a1 * b.a3)) + (a.a2 * b.a2)) + (a.a3 * b.a1)) + (a.a4 * b.a0))) (Bq.add (Bq.add (Bq.add (Bq.add (Bq.add bq0 (pq g0 k4)) (pq g1 k3)) (pq g2 k2)) (pq g3 k1)) (pq g4 k0)) (by decide))
  obtain ⟨q', hq'⟩ := times_v a.a0 a.a1 a.a2 a.a3 a.a4 b.a0 b.a1 b.a2 b.a3 b.a4
  refine ⟨E, run44 a b (a.a0) (b.a0) ((a.a0 * b.a0)) ((0 + (a.a0 * b.a0))) (b.a1) (0) ((a.a0 * b.a1)) ((0 + (a.a0 * b.a1))) (b.a2) (0) ((a.a0 * b.a2)) ((0 + (a.a0 * b.a2))) (b.a3) (0) ((a.a0 * b.a3)) ((0 + (a.a0 * b.a3))) (b.a4) (0) ((a.a0 * b.a4)) ((0 + (a.a0 * b.a4))) (a.a1) (b.a0) ((a.a1 * b.a0)) (((0 + (a.a0 * b.a1)) + (a.a1 * b.a0))) (b.a1) ((a.a1 * b.a1)) (((0 + (a.a0 * b.a2)) + (a.a1 * b.a1))) (b.a2) ((a.a1 * b.a2)) (((0 + (a.a0 * b.a3)) + (a.a1 * b.a2))) (b.a3) ((a.a1 * b.a3)) (((0 + (a.a0 * b.a4)) + (a.a1 * b.a3))) (b.a4) ((5 * a.a1)) ((5 * a.a1 * b.a4)) (((0 + (a.a0 * b.a0)) + (5 * a.a1 * b.a4))) (a.a2) (b.a0) ((a.a2 * b.a0)) ((((0 + (a.a0 * b.a2)) + (a.a1 * b.a1)) + (a.a2 * b.a0))) (b.a1) ((a.a2 * b.a1)) ((((0 + (a.a0 * b.a3)) + (a.a1 * b.a2)) + (a.a2 * b.a1))) (b.a2) ((a.a2 * b.a2)) ((((0 + (a.a0 * b.a4)) + (a.a1 * b.a3)) + (a.a2 * b.a2))) (b.a3) ((5 * a.a2)) ((5 * a.a2 * b.a3)) ((((0 + (a.a0 * b.a0)) + (5 * a.a1 * b.a4)) + (5 * a.a2 * b.a3))) (b.a4) ((5 * a.a2)) ((5 * a.a2 * b.a4)) ((((0 + (a.a0 * b.a1)) + (a.a1 * b.a0)) + (5 * a.a2 * b.a4))) (a.a3) (b.a0) ((a.a3 * b.a0)) (((((0 + (a.a0 * b.a3)) + (a.a1 * b.a2)) + (a.a2 * b.a1)) + (a.a3 * b.a0))) (b.a1) ((a.a3 * b.a1)) (((((0 + (a.a0 * b.a4)) + (a.a1 * b.a3)) + (a.a2 * b.a2)) + (a.a3 * b.a1))) (b.a2) ((5 * a.a3)) ((5 * a.a3 * b.a2)) (((((0 + (a.a0 * b.a0)) + (5 * a.a1 * b.a4)) + (5 * a.a2 * b.a3)) + (5 * a.a3 * b.a2))) (b.a3) ((5 * a.a3)) ((5 * a.a3 * b.a3)) (((((0 + (a.a0 * b.a1)) + (a.a1 * b.a0)) + (5 * a.a2 * b.a4)) + (5 * a.a3 * b.a3))) (b.a4) ((5 * a.a3)) ((5 * a.a3 * b.a4)) (((((0 + (a.a0 * b.a2)) + (a.a1 * b.a1)) + (a.a2 * b.a0)) + (5 * a.a3 * b.a4))) (a.a4) (b.a0) ((a.a4 * b.a0)) ((((((0 + (a.a0 * b.a4)) + (a.a1 * b.a3)) + (a.a2 * b.a2)) + (a.a3 * b.a1)) + (a.a4 * b.a0))) (b.a1) ((5 * a.a4)) ((5 * a.a4 * b.a1)) ((((((0 + (a.a0 * b.a0)) + (5 * a.a1 * b.a4)) + (5 * a.a2 * b.a3)) + (5 * a.a3 * b.a2)) + (5 * a.a4 * b.a1))) (b.a2) ((5 * a.a4)) ((5 * a.a4 * b.a2)) ((((((0 + (a.a0 * b.a1)) + (a.a1 * b.a0)) + (5 * a.a2 * b.a4)) + (5 * a.a3 * b.a3)) + (5 * a.a4 * b.a2))) (b.a3) ((5 * a.a4)) ((5 * a.a4 * b.a3)) ((((((0 + (a.a0 * b.a2)) + (a.a1 * b.a1)) + (a.a2 * b.a0)) + (5 * a.a3 * b.a4)) + (5 * a.a4 * b.a3))) (b.a4) ((5 * a.a4)) ((5 * a.a4 * b.a4)) ((((((0 + (a.a0 * b.a3)) + (a.a1 * b.a2)) + (a.a2 * b.a1)) + (a.a3 * b.a0)) + (5 * a.a4 * b.a4))) E rfl rfl (pmod (pq g0 k0) (by decide)) (smod bq0 (pq g0 k0) (by decide)) rfl rfl (pmod (pq g0 k1) (by decide)) (smod bq0 (pq g0 k1) (by decide)) rfl rfl (pmod (pq g0 k2) (by decide)) (smod bq0 (pq g0 k2) (by decide)) rfl rfl (pmod (pq g0 k3) (by decide)) (smod bq0 (pq g0 k3) (by decide)) rfl rfl (pmod (pq g0 k4) (by decide)) (smod bq0 (pq g0 k4) (by decide)) rfl rfl (pmod (pq g1 k0) (by decide)) (smod (Bq.add bq0 (pq g0 k1)) (pq g1 k0) (by decide)) rfl (pmod (pq g1 k1) (by decide)) (smod (Bq.add bq0 (pq g0 k2)) (pq g1 k1) (by decide)) rfl (pmod (pq g1 k2) (by decide)) (smod (Bq.add bq0 (pq g0 k3)) (pq g1 k2) (by decide)) rfl (pmod (pq g1 k3) (by decide)) (smod (Bq.add bq0 (pq g0 k4)) (pq g1 k3) (by decide)) rfl (m5 g1) (pmod (pq5 g1 k4) (by decide)) (smod (Bq.add bq0 (pq g0 k0)) (pq5 g1 k4) (by decide)) rfl rfl (pmod (pq g2 k0) (by decide)) (smod (Bq.add (Bq.add bq0 (pq g0 k2)) (pq g1 k1)) (pq g2 k0) (by decide)) rfl (pmod (pq g2 k1) (by decide)) (smod (Bq.add (Bq.add bq0 (pq g0 k3)) (pq g1 k2)) (pq g2 k1) (by decide)) rfl (pmod (pq g2 k2) (by decide)) (smod (Bq.add (Bq.add bq0 (pq g0 k4)) (pq g1 k3)) (pq g2 k2) (by decide)) rfl (m5 g2) (pmod (pq5 g2 k3) (by decide)) (smod (Bq.add (Bq.add bq0 (pq g0 k0)) (pq5 g1 k4)) (pq5 g2 k3) (by decide)) rfl (m5 g2) (pmod (pq5 g2 k4) (by decide)) (smod (Bq.add (Bq.add bq0 (pq g0 k1)) (pq g1 k0)) (pq5 g2 k4) (by decide)) rfl rfl (pmod (pq g3 k0) (by decide)) (smod (Bq.add (Bq.add (Bq.add bq0 (pq g0 k3)) (pq g1 k2)) (pq g2 k1)) (pq g3 k0) (by decide)) rfl (pmod (pq g3 k1) (by decide)) (smod (Bq.add (Bq.add (Bq.add bq0 (pq g0 k4)) (pq g1 k3)) (pq g2 k2)) (pq g3 k1) (by decide)) rfl (m5 g3) (pmod (pq5 g3 k2) (by decide)) (smod (Bq.add (Bq.add (Bq.add bq0 (pq g0 k0)) (pq5 g1 k4)) (pq5 g2 k3)) (pq5 g3 k2) (by decide)) rfl (m5 g3) (pmod (pq5 g3 k3) (by decide)) (smod (Bq.add (Bq.add (Bq.add bq0 (pq g0 k1)) (pq g1 k0)) (pq5 g2 k4)) (pq5 g3 k3) (by decide)) rfl (m5 g3) (pmod (pq5 g3 k4) (by decide)) (smod (Bq.add (Bq.add (Bq.add bq0 (pq g0 k2)) (pq g1 k1)) (pq g2 k0)) (pq5 g3 k4) (by decide)) rfl rfl (pmod (pq g4 k0) (by decide)) (smod (Bq.add (Bq.add (Bq.add (Bq.add bq0 (pq g0 k4)) (pq g1 k3)) (pq g2 k2)) (pq g3 k1)) (pq g4 k0) (by decide)) rfl (m5 g4) (pmod (pq5 g4 k1) (by decide)) (smod (Bq.add (Bq.add (Bq.add (Bq.add bq0 (pq g0 k0)) (pq5 g1 k4)) (pq5 g2 k3)) (pq5 g3 k2)) (pq5 g4 k1) (by decide)) rfl (m5 g4) (pmod (pq5 g4 k2) (by decide)) (smod (Bq.add (Bq.add (Bq.add (Bq.add bq0 (pq g0 k1)) (pq g1 k0)) (pq5 g2 k4)) (pq5 g3 k3)) (pq5 g4 k2) (by decide)) rfl (m5 g4) (pmod (pq5 g4 k3) (by decide)) (smod (Bq.add (Bq.add (Bq.add (Bq.add bq0 (pq g0 k2)) (pq g1 k1)) (pq g2 k0)) (pq5 g3 k4)) (pq5 g4 k3) (by decide)) rfl (m5 g4) (pmod (pq5 g4 k4) (by decide)) (smod (Bq.add (Bq.add (Bq.add (Bq.add bq0 (pq g0 k3)) (pq g1 k2)) (pq g2 k1)) (pq g3 k0)) (pq5 g4 k4) (by decide)) c, ok, q' + q, ?_⟩
  rw [hq, hq']
  show _ = v26 _ _ _ _ _ * v26 _ _ _ _ _ - _
  grind
end Go.Proofs.Ytmfnldkiaodkpaa.Vm

namespace Go.Proofs.Ytmfnldkiaodkpaa.Vm
open Go Go.Proofs Go.Proofs.Ytmfnldkiaodkpaa
def nP (e : W.El) : Prop := B26 e.a0 ∧ B26 e.a1 ∧ B26 e.a2 ∧ B26 e.a3 ∧ B26 e.a4
theorem by_0 {a0 a1 a2 a3 a4 lo hi y x : Int} (g0 : B26 a0) (_g1 : B26 a1) (_g2 : B26 a2) (_g3 : B26 a3) (_g4 : B26 a4) (h1 : a0 / 1 = lo) (h2 : a1 * 67108864 % 18446744073709551616 = hi) (h3 : bOr IntKind.u64 lo hi = y) (h4 : y % 256 = x) : x = v26 a0 a1 a2 a3 a4 / 1 % 256 := by
  unfold B26 at *
  rw [or64_add 26 (by omega) (by omega) (by omega) (by omega) (by omega)] at h3
  unfold v26; omega
theorem by_1 {a0 a1 a2 a3 a4 lo hi y x : Int} (g0 : B26 a0) (_g1 : B26 a1) (_g2 : B26 a2) (_g3 : B26 a3) (_g4 : B26 a4) (h1 : a0 / 256 = lo) (h2 : a1 * 262144 % 18446744073709551616 = hi) (h3 : bOr IntKind.u64 lo hi = y) (h4 : y % 256 = x) : x = v26 a0 a1 a2 a3 a4 / 256 % 256 := by
  unfold B26 at *
  rw [or64_add 18 (by omega) (by omega) (by omega) (by omega) (by omega)] at h3
  unfold v26; omega
theorem by_2 {a0 a1 a2 a3 a4 lo hi y x : Int} (g0 : B26 a0) (_g1 : B26 a1) (_g2 : B26 a2) (_g3 : B26 a3) (_g4 : B26 a4) (h1 : a0 / 65536 = lo) (h2 : a1 * 1024 % 18446744073709551616 = hi) (h3 : bOr IntKind.u64 lo hi = y) (h4 : y % 256 = x) : x = v26 a0 a1 a2 a3 a4 / 65536 % 256 := by
  unfold B26 at *
  rw [or64_add 10 (by omega) (by omega) (by omega) (by omega) (by omega)] at h3
  unfold v26; omega
theorem by_3 {a0 a1 a2 a3 a4 lo hi y x : Int} (g0 : B26 a0) (_g1 : B26 a1) (_g2 : B26 a2) (_g3 : B26 a3) (_g4 : B26 a4) (h1 : a0 / 16777216 = lo) (h2 : a1 * 4 % 18446744073709551616 = hi) (h3 : bOr IntKind.u64 lo hi = y) (h4 : y % 256 = x) : x = v26 a0 a1 a2 a3 a4 / 16777216 % 256 := by
  unfold B26 at *
  rw [or64_add 2 (by omega) (by omega) (by omega) (by omega) (by omega)] at h3
  unfold v26; omega
theorem by_4 {a0 a1 a2 a3 a4 lo hi y x : Int} (g0 : B26 a0) (g1 : B26 a1) (_g2 : B26 a2) (_g3 : B26 a3) (_g4 : B26 a4) (h1 : a1 / 64 = lo) (h2 : a2 * 1048576 % 18446744073709551616 = hi) (h3 : bOr IntKind.u64 lo hi = y) (h4 : y % 256 = x) : x = v26 a0 a1 a2 a3 a4 / 4294967296 % 256 := by
  unfold B26 at *
  rw [or64_add 20 (by omega) (by omega) (by omega) (by omega) (by omega)] at h3
  unfold v26; omega
theorem by_5 {a0 a1 a2 a3 a4 lo hi y x : Int} (g0 : B26 a0) (g1 : B26 a1) (_g2 : B26 a2) (_g3 : B26 a3) (_g4 : B26 a4) (h1 : a1 / 16384 = lo) (h2 : a2 * 4096 % 18446744073709551616 = hi) (h3 : bOr IntKind.u64 lo hi = y) (h4 : y % 256 = x) : x = v26 a0 a1 a2 a3 a4 / 1099511627776 % 256 := by
  unfold B26 at *
  rw [or64_add 12 (by omega) (by omega) (by omega) (by omega) (by omega)] at h3
  unfold v26; omega
theorem by_6 {a0 a1 a2 a3 a4 lo hi y x : Int} (g0 : B26 a0) (g1 : B26 a1) (_g2 : B26 a2) (_g3 : B26 a3) (_g4 : B26 a4) (h1 : a1 / 4194304 = lo) (h2 : a2 * 16 % 18446744073709551616 = hi) (h3 : bOr IntKind.u64 lo hi = y) (h4 : y % 256 = x) : x = v26 a0 a1 a2 a3 a4 / 281474976710656 % 256 := by
  unfold B26 at *
  rw [or64_add 4 (by omega) (by omega) (by omega) (by omega) (by omega)] at h3
  unfold v26; omega
theorem by_7 {a0 a1 a2 a3 a4 lo hi y x : Int} (g0 : B26 a0) (g1 : B26 a1) (g2 : B26 a2) (_g3 : B26 a3) (_g4 : B26 a4) (h1 : a2 / 16 = lo) (h2 : a3 * 4194304 % 18446744073709551616 = hi) (h3 : bOr IntKind.u64 lo hi = y) (h4 : y % 256 = x) : x = v26 a0 a1 a2 a3 a4 / 72057594037927936 % 256 := by
  unfold B26 at *
  rw [or64_add 22 (by omega) (by omega) (by omega) (by omega) (by omega)] at h3
  unfold v26; omega
theorem by_8 {a0 a1 a2 a3 a4 lo hi y x : Int} (g0 : B26 a0) (g1 : B26 a1) (g2 : B26 a2) (_g3 : B26 a3) (_g4 : B26 a4) (h1 : a2 / 4096 = lo) (h2 : a3 * 16384 % 18446744073709551616 = hi) (h3 : bOr IntKind.u64 lo hi = y) (h4 : y % 256 = x) : x = v26 a0 a1 a2 a3 a4 / 18446744073709551616 % 256 := by
  unfold B26 at *
  rw [or64_add 14 (by omega) (by omega) (by omega) (by omega) (by omega)] at h3
  unfold v26; omega
theorem by_9 {a0 a1 a2 a3 a4 lo hi y x : Int} (g0 : B26 a0) (g1 : B26 a1) (g2 : B26 a2) (_g3 : B26 a3) (_g4 : B26 a4) (h1 : a2 / 1048576 = lo) (h2 : a3 * 64 % 18446744073709551616 = hi) (h3 : bOr IntKind.u64 lo hi = y) (h4 : y % 256 = x) : x = v26 a0 a1 a2 a3 a4 / 4722366482869645213696 % 256 := by
  unfold B26 at *
  rw [or64_add 6 (by omega) (by omega) (by omega) (by omega) (by omega)] at h3
  unfold v26; omega
theorem by_10 {a0 a1 a2 a3 a4 lo hi y x : Int} (g0 : B26 a0) (g1 : B26 a1) (g2 : B26 a2) (g3 : B26 a3) (_g4 : B26 a4) (h1 : a3 / 4 = lo) (h2 : a4 * 16777216 % 18446744073709551616 = hi) (h3 : bOr IntKind.u64 lo hi = y) (h4 : y % 256 = x) : x = v26 a0 a1 a2 a3 a4 / 1208925819614629174706176 % 256 := by
  unfold B26 at *
  rw [or64_add 24 (by omega) (by omega) (by omega) (by omega) (by omega)] at h3
  unfold v26; omega
theorem by_11 {a0 a1 a2 a3 a4 lo hi y x : Int} (g0 : B26 a0) (g1 : B26 a1) (g2 : B26 a2) (g3 : B26 a3) (_g4 : B26 a4) (h1 : a3 / 1024 = lo) (h2 : a4 * 65536 % 18446744073709551616 = hi) (h3 : bOr IntKind.u64 lo hi = y) (h4 : y % 256 = x) : x = v26 a0 a1 a2 a3 a4 / 309485009821345068724781056 % 256 := by
  unfold B26 at *
  rw [or64_add 16 (by omega) (by omega) (by omega) (by omega) (by omega)] at h3
  unfold v26; omega
theorem by_12 {a0 a1 a2 a3 a4 lo hi y x : Int} (g0 : B26 a0) (g1 : B26 a1) (g2 : B26 a2) (g3 : B26 a3) (_g4 : B26 a4) (h1 : a3 / 262144 = lo) (h2 : a4 * 256 % 18446744073709551616 = hi) (h3 : bOr IntKind.u64 lo hi = y) (h4 : y % 256 = x) : x = v26 a0 a1 a2 a3 a4 / 79228162514264337593543950336 % 256 := by
  unfold B26 at *
  rw [or64_add 8 (by omega) (by omega) (by omega) (by omega) (by omega)] at h3
  unfold v26; omega
theorem by_13 {a0 a1 a2 a3 a4 y x : Int} (g0 : B26 a0) (g1 : B26 a1) (g2 : B26 a2) (g3 : B26 a3) (_g4 : B26 a4) (h1 : a4 / 1 = y) (h4 : y % 256 = x) : x = v26 a0 a1 a2 a3 a4 / 20282409603651670423947251286016 % 256 := by
  unfold B26 at *
  unfold v26; omega
theorem by_14 {a0 a1 a2 a3 a4 y x : Int} (g0 : B26 a0) (g1 : B26 a1) (g2 : B26 a2) (g3 : B26 a3) (_g4 : B26 a4) (h1 : a4 / 256 = y) (h4 : y % 256 = x) : x = v26 a0 a1 a2 a3 a4 / 5192296858534827628530496329220096 % 256 := by
  unfold B26 at *
  unfold v26; omega
theorem by_15 {a0 a1 a2 a3 a4 y x : Int} (g0 : B26 a0) (g1 : B26 a1) (g2 : B26 a2) (g3 : B26 a3) (_g4 : B26 a4) (h1 : a4 / 65536 = y) (h4 : y % 256 = x) : x = v26 a0 a1 a2 a3 a4 / 1329227995784915872903807060280344576 % 256 := by
  unfold B26 at *
  unfold v26; omega
theorem bytes_num {e : W.El} (h : nP e) : PureF Try.prog 62 [(.aggi .u64 (W.el e))] (.aggi .u8 [vP e / 1 % 256, vP e / 256 % 256, vP e / 65536 % 256, vP e / 16777216 % 256, vP e / 4294967296 % 256, vP e / 1099511627776 % 256, vP e / 281474976710656 % 256, vP e / 72057594037927936 % 256, vP e / 18446744073709551616 % 256, vP e / 4722366482869645213696 % 256, vP e / 1208925819614629174706176 % 256, vP e / 309485009821345068724781056 % 256, vP e / 79228162514264337593543950336 % 256, vP e / 20282409603651670423947251286016 % 256, vP e / 5192296858534827628530496329220096 % 256, vP e / 1329227995784915872903807060280344576 % 256]) := by
  obtain ⟨a0, a1, a2, a3, a4⟩ := e
  obtain ⟨g0, g1, g2, g3, g4⟩ := h
  have e0 : List.getD (W.el ⟨a0, a1, a2, a3, a4⟩) 0 0 = a0 := rfl
  have e1 : List.getD (W.el ⟨a0, a1, a2, a3, a4⟩) 1 0 = a1 := rfl
  have e2 : List.getD (W.el ⟨a0, a1, a2, a3, a4⟩) 2 0 = a2 := rfl
  have e3 : List.getD (W.el ⟨a0, a1, a2, a3, a4⟩) 3 0 = a3 := rfl
  have e4 : List.getD (W.el ⟨a0, a1, a2, a3, a4⟩) 4 0 = a4 := rfl
  obtain ⟨x3, h2⟩ : ∃ z : Int, a0 / 1 = z := ⟨_, rfl⟩
  obtain ⟨x7, h6⟩ : ∃ z : Int, a1 * 67108864 % 18446744073709551616 = z := ⟨_, rfl⟩
  obtain ⟨x9, h8⟩ : ∃ z : Int, bOr IntKind.u64 x3 x7 = z := ⟨_, rfl⟩
  obtain ⟨x11, h10⟩ : ∃ z : Int, x9 % 256 = z := ⟨_, rfl⟩
  obtain ⟨x15, h14⟩ : ∃ z : Int, a0 / 256 = z := ⟨_, rfl⟩
  obtain ⟨x19, h18⟩ : ∃ z : Int, a1 * 262144 % 18446744073709551616 = z := ⟨_, rfl⟩
  obtain ⟨x21, h20⟩ : ∃ z : Int, bOr IntKind.u64 x15 x19 = z := ⟨_, rfl⟩
  obtain ⟨x23, h22⟩ : ∃ z : Int, x21 % 256 = z := ⟨_, rfl⟩
  obtain ⟨x27, h26⟩ : ∃ z : Int, a0 / 65536 = z := ⟨_, rfl⟩
  obtain ⟨x31, h30⟩ : ∃ z : Int, a1 * 1024 % 18446744073709551616 = z := ⟨_, rfl⟩
  obtain ⟨x33, h32⟩ : ∃ z : Int, bOr IntKind.u64 x27 x31 = z := ⟨_, rfl⟩
  obtain ⟨x35, h34⟩ : ∃ z : Int, x33 % 256 = z := ⟨_, rfl⟩
  obtain ⟨x39, h38⟩ : ∃ z : Int, a0 / 16777216 = z := ⟨_, rfl⟩
  obtain ⟨x43, h42⟩ : ∃ z : Int, a1 * 4 % 18446744073709551616 = z := ⟨_, rfl⟩
  obtain ⟨x45, h44⟩ : ∃ z : Int, bOr IntKind.u64 x39 x43 = z := ⟨_, rfl⟩
  obtain ⟨x47, h46⟩ : ∃ z : Int, x45 % 256 = z := ⟨_, rfl⟩
  obtain ⟨x51, h50⟩ : ∃ z : Int, a1 / 64 = z := ⟨_, rfl⟩
  obtain ⟨x55, h54⟩ : ∃ z : Int, a2 * 1048576 % 18446744073709551616 = z := ⟨_, rfl⟩
  obtain ⟨x57, h56⟩ : ∃ z : Int, bOr IntKind.u64 x51 x55 = z := ⟨_, rfl⟩
  obtain ⟨x59, h58⟩ : ∃ z : Int, x57 % 256 = z := ⟨_, rfl⟩
  obtain ⟨x63, h62⟩ : ∃ z : Int, a1 / 16384 = z := ⟨_, rfl⟩
  obtain ⟨x67, h66⟩ : ∃ z : Int, a2 * 4096 % 18446744073709551616 = z := ⟨_, rfl⟩
  obtain ⟨x69, h68⟩ : ∃ z : Int, bOr IntKind.u64 x63 x67 = z := ⟨_, rfl⟩
  obtain ⟨x71, h70⟩ : ∃ z : Int, x69 % 256 = z := ⟨_, rfl⟩
  obtain ⟨x75, h74⟩ : ∃ z : Int, a1 / 4194304 = z := ⟨_, rfl⟩
  obtain ⟨x79, h78⟩ : ∃ z : Int, a2 * 16 % 18446744073709551616 = z := ⟨_, rfl⟩
  obtain ⟨x81, h80⟩ : ∃ z : Int, bOr IntKind.u64 x75 x79 = z := ⟨_, rfl⟩
  obtain ⟨x83, h82⟩ : ∃ z : Int, x81 % 256 = z := ⟨_, rfl⟩
  obtain ⟨x87, h86⟩ : ∃ z : Int, a2 / 16 = z := ⟨_, rfl⟩
  obtain ⟨x91, h90⟩ : ∃ z : Int, a3 * 4194304 % 18446744073709551616 = z := ⟨_, rfl⟩
  obtain ⟨x93, h92⟩ : ∃ z : Int, bOr IntKind.u64 x87 x91 = z := ⟨_, rfl⟩
  obtain ⟨x95, h94⟩ : ∃ z : Int, x93 % 256 = z := ⟨_, rfl⟩
  obtain ⟨x99, h98⟩ : ∃ z : Int, a2 / 4096 = z := ⟨_, rfl⟩
  obtain ⟨x103, h102⟩ : ∃ z : Int, a3 * 16384 % 18446744073709551616 = z := ⟨_, rfl⟩
  obtain ⟨x105, h104⟩ : ∃ z : Int, bOr IntKind.u64 x99 x103 = z := ⟨_, rfl⟩
  obtain ⟨x107, h106⟩ : ∃ z : Int, x105 % 256 = z := ⟨_, rfl⟩
  obtain ⟨x111, h110⟩ : ∃ z : Int, a2 / 1048576 = z := ⟨_, rfl⟩
  obtain ⟨x115, h114⟩ : ∃ z : Int, a3 * 64 % 18446744073709551616 = z := ⟨_, rfl⟩
  obtain ⟨x117, h116⟩ : ∃ z : Int, bOr IntKind.u64 x111 x115 = z := ⟨_, rfl⟩
  obtain ⟨x119, h118⟩ : ∃ z : Int, x117 % 256 = z := ⟨_, rfl⟩
  obtain ⟨x123, h122⟩ : ∃ z : Int, a3 / 4 = z := ⟨_, rfl⟩
  obtain ⟨x127, h126⟩ : ∃ z : Int, a4 * 16777216 % 18446744073709551616 = z := ⟨_, rfl⟩
  obtain ⟨x129, h128⟩ : ∃ z : Int, bOr IntKind.u64 x123 x127 = z := ⟨_, rfl⟩
  obtain ⟨x131, h130⟩ : ∃ z : Int, x129 % 256 = z := ⟨_, rfl⟩
  obtain ⟨x135, h134⟩ : ∃ z : Int, a3 / 1024 = z := ⟨_, rfl⟩
  obtain ⟨x139, h138⟩ : ∃ z : Int, a4 * 65536 % 18446744073709551616 = z := ⟨_, rfl⟩
  obtain ⟨x141, h140⟩ : ∃ z : Int, bOr IntKind.u64 x135 x139 = z := ⟨_, rfl⟩
  obtain ⟨x143, h142⟩ : ∃ z : Int, x141 % 256 = z := ⟨_, rfl⟩
  obtain ⟨x147, h146⟩ : ∃ z : Int, a3 / 262144 = z := ⟨_, rfl⟩
  obtain ⟨x151, h150⟩ : ∃ z : Int, a4 * 256 % 18446744073709551616 = z := ⟨_, rfl⟩
  obtain ⟨x153, h152⟩ : ∃ z : Int, bOr IntKind.u64 x147 x151 = z := ⟨_, rfl⟩
  obtain ⟨x155, h154⟩ : ∃ z : Int, x153 % 256 = z := ⟨_, rfl⟩
  obtain ⟨x159, h158⟩ : ∃ z : Int, a4 / 1 = z := ⟨_, rfl⟩
  obtain ⟨x161, h160⟩ : ∃ z : Int, x159 % 256 = z := ⟨_, rfl⟩
  obtain ⟨x165, h164⟩ : ∃ z : Int, a4 / 256 = z := ⟨_, rfl⟩
  obtain ⟨x167, h166⟩ : ∃ z : Int, x165 % 256 = z := ⟨_, rfl⟩
  obtain ⟨x171, h170⟩ : ∃ z : Int, a4 / 65536 = z := ⟨_, rfl⟩
  obtain ⟨x173, h172⟩ : ∃ z : Int, x171 % 256 = z := ⟨_, rfl⟩
  have run := run46 ⟨a0, a1, a2, a3, a4⟩ a0 x3 a1 x7 x9 x11 a0 x15 a1 x19 x21 x23 a0 x27 a1 x31 x33 x35 a0 x39 a1 x43 x45 x47 a1 x51 a2 x55 x57 x59 a1 x63 a2 x67 x69 x71 a1 x75 a2 x79 x81 x83 a2 x87 a3 x91 x93 x95 a2 x99 a3 x103 x105 x107 a2 x111 a3 x115 x117 x119 a3 x123 a4 x127 x129 x131 a3 x135 a4 x139 x141 x143 a3 x147 a4 x151 x153 x155 a4 x159 x161 a4 x165 x167 a4 x171 x173 e0 h2 e1 h6 h8 h10 e0 h14 e1 h18 h20 h22 e0 h26 e1 h30 h32 h34 e0 h38 e1 h42 h44 h46 e1 h50 e2 h54 h56 h58 e1 h62 e2 h66 h68 h70 e1 h74 e2 h78 h80 h82 e2 h86 e3 h90 h92 h94 e2 h98 e3 h102 h104 h106 e2 h110 e3 h114 h116 h118 e3 h122 e4 h126 h128 h130 e3 h134 e4 h138 h140 h142 e3 h146 e4 h150 h152 h154 e4 h158 h160 e4 h164 h166 e4 h170 h172
  rw [by_0 g0 g1 g2 g3 g4 h2 h6 h8 h10, by_1 g0 g1 g2 g3 g4 h14 h18 h20 h22, by_2 g0 g1 g2 g3 g4 h26 h30 h32 h34, by_3 g0 g1 g2 g3 g4 h38 h42 h44 h46, by_4 g0 g1 g2 g3 g4 h50 h54 h56 h58, by_5 g0 g1 g2 g3 g4 h62 h66 h68 h70, by_6 g0 g1 g2 g3 g4 h74 h78 h80 h82, by_7 g0 g1 g2 g3 g4 h86 h90 h92 h94, by_8 g0 g1 g2 g3 g4 h98 h102 h104 h106, by_9 g0 g1 g2 g3 g4 h110 h114 h116 h118, by_10 g0 g1 g2 g3 g4 h122 h126 h128 h130, by_11 g0 g1 g2 g3 g4 h134 h138 h140 h142, by_12 g0 g1 g2 g3 g4 h146 h150 h152 h154, by_13 g0 g1 g2 g3 g4 h158 h160, by_14 g0 g1 g2 g3 g4 h164 h166, by_15 g0 g1 g2 g3 g4 h170 h172] at run
  exact run
end Go.Proofs.Ytmfnldkiaodkpaa.Vm

namespace Go.Proofs.Ytmfnldkiaodkpaa.Vm
open Go Go.Proofs Go.Proofs.Ytmfnldkiaodkpaa
structure CR (a0 a1 a2 a3 a4 : Int) (e : W.El) (d0 d1 d2 d3 d4 f l0 l1 : Int) : Prop where
  e0 : a0 = 67108864 * d0 + l0
  e1 : a1 + d0 = 67108864 * d1 + l1
  e2 : a2 + d1 = 67108864 * d2 + e.a2
  e3 : a3 + d2 = 67108864 * d3 + e.a3
  e4 : a4 + d3 = 67108864 * d4 + e.a4
  ef : l0 + 5 * d4 = 67108864 * f + e.a0
  eg : e.a1 = l1 + f
  b0 : 0 ≤ l0 ∧ l0 < 67108864
  b1 : 0 ≤ l1 ∧ l1 < 67108864
  b2 : 0 ≤ e.a2 ∧ e.a2 < 67108864
  b3 : 0 ≤ e.a3 ∧ e.a3 < 67108864
  b4 : 0 ≤ e.a4 ∧ e.a4 < 67108864
  bf : 0 ≤ e.a0 ∧ e.a0 < 67108864
theorem carry_raw {a0 a1 a2 a3 a4 : Int} (g0 : B62 a0) (g1 : B62 a1) (g2 : B62 a2) (g3 : B62 a3) (g4 : B62 a4) : ∃ e d0 d1 d2 d3 d4 f l0 l1, PureF Try.prog 84 [(.aggi .u64 [a0, a1, a2, a3, a4])] (.aggi .u64 (W.el e)) ∧ CR a0 a1 a2 a3 a4 e d0 d1 d2 d3 d4 f l0 l1 := by
  obtain ⟨x1, h0⟩ : ∃ z : Int, (a0 + 0) % 18446744073709551616 = z := ⟨_, rfl⟩
  obtain ⟨x3, h2⟩ : ∃ z : Int, x1 / 67108864 = z := ⟨_, rfl⟩
  obtain ⟨x5, h4⟩ : ∃ z : Int, bAnd IntKind.u64 x1 67108863 = z := ⟨_, rfl⟩
  obtain ⟨x7, h6⟩ : ∃ z : Int, (a1 + x3) % 18446744073709551616 = z := ⟨_, rfl⟩
  obtain ⟨x9, h8⟩ : ∃ z : Int, x7 / 67108864 = z := ⟨_, rfl⟩
  obtain ⟨x11, h10⟩ : ∃ z : Int, bAnd IntKind.u64 x7 67108863 = z := ⟨_, rfl⟩
  obtain ⟨x13, h12⟩ : ∃ z : Int, (a2 + x9) % 18446744073709551616 = z := ⟨_, rfl⟩
  obtain ⟨x15, h14⟩ : ∃ z : Int, x13 / 67108864 = z := ⟨_, rfl⟩
  obtain ⟨x17, h16⟩ : ∃ z : Int, bAnd IntKind.u64 x13 67108863 = z := ⟨_, rfl⟩
  obtain ⟨x19, h18⟩ : ∃ z : Int, (a3 + x15) % 18446744073709551616 = z := ⟨_, rfl⟩
  obtain ⟨x21, h20⟩ : ∃ z : Int, x19 / 67108864 = z := ⟨_, rfl⟩
  obtain ⟨x23, h22⟩ : ∃ z : Int, bAnd IntKind.u64 x19 67108863 = z := ⟨_, rfl⟩
  obtain ⟨x25, h24⟩ : ∃ z : Int, (a4 + x21) % 18446744073709551616 = z := ⟨_, rfl⟩
  obtain ⟨x27, h26⟩ : ∃ z : Int, x25 / 67108864 = z := ⟨_, rfl⟩
  obtain ⟨x29, h28⟩ : ∃ z : Int, bAnd IntKind.u64 x25 67108863 = z := ⟨_, rfl⟩
  obtain ⟨x31, h30⟩ : ∃ z : Int, 5 * x27 % 18446744073709551616 = z := ⟨_, rfl⟩
  obtain ⟨x33, h32⟩ : ∃ z : Int, (x5 + x31) % 18446744073709551616 = z := ⟨_, rfl⟩
  obtain ⟨x35, h34⟩ : ∃ z : Int, x33 / 67108864 = z := ⟨_, rfl⟩
  obtain ⟨x37, h36⟩ : ∃ z : Int, (x11 + x35) % 18446744073709551616 = z := ⟨_, rfl⟩
  obtain ⟨x39, h38⟩ : ∃ z : Int, bAnd IntKind.u64 x33 67108863 = z := ⟨_, rfl⟩
  have run := run64 a0 a1 a2 a3 a4 x1 x3 x5 x7 x9 x11 x13 x15 x17 x19 x21 x23 x25 x27 x29 x31 x33 x35 x37 x39 h0 h2 h4 h6 h8 h10 h12 h14 h16 h18 h20 h22 h24 h26 h28 h30 h32 h34 h36 h38
  obtain ⟨e1, l1, d1⟩ := cstep g0 ⟨by decide, by decide⟩ h0 h2 h4
  obtain ⟨e2, l2, d2⟩ := cstep g1 ⟨d1.1, Int.lt_trans d1.2 (by decide)⟩ h6 h8 h10
  obtain ⟨e3, l3, d3⟩ := cstep g2 ⟨d2.1, Int.lt_trans d2.2 (by decide)⟩ h12 h14 h16
  obtain ⟨e4, l4, d4⟩ := cstep g3 ⟨d3.1, Int.lt_trans d3.2 (by decide)⟩ h18 h20 h22
  obtain ⟨e5, l5, d5⟩ := cstep g4 ⟨d4.1, Int.lt_trans d4.2 (by decide)⟩ h24 h26 h28
  have m31 : x31 = 5 * x27 := by omega
  have m33 : x33 = x5 + x31 := by omega
  have k39 : bAnd IntKind.u64 x33 67108863 = x33 % 67108864 := mask26 (by omega) (by omega)
  have m39 : x33 = 67108864 * x35 + x39 ∧ (0 ≤ x39 ∧ x39 < 67108864) ∧ (0 ≤ x35 ∧ x35 < 32768) := by
    rw [k39] at h38
    omega
  have m37 : x37 = x11 + x35 := by omega
  exact ⟨⟨x39, x37, x17, x23, x29⟩, x3, x9, x15, x21, x27, x35, x5, x11, run, ⟨by omega, e2, e3, e4, e5, by rw [← m31, ← m33]; exact m39.1, m37, l1, l2, l3, l4, l5, m39.2.1⟩⟩
theorem CR.val {a0 a1 a2 a3 a4 : Int} {e : W.El} {d0 d1 d2 d3 d4 f l0 l1 : Int} (h : CR a0 a1 a2 a3 a4 e d0 d1 d2 d3 d4 f l0 l1) : vP e = v26 a0 a1 a2 a3 a4 - p130 * d4 := by
  obtain ⟨h0, h1, h2, h3, h4, h5, h6, _, _, _, _, _, _⟩ := h
  unfold vP v26 p130
  omega
def okQ (e : W.El) : Prop := B26 e.a0 ∧ (0 ≤ e.a1 ∧ e.a1 ≤ 67108864 ∧ (e.a1 = 67108864 → e.a0 ≤ 4)) ∧ B26 e.a2 ∧ B26 e.a3 ∧ B26 e.a4
theorem CR.two {a0 a1 a2 a3 a4 : Int} {e : W.El} {d0 d1 d2 d3 d4 f l0 l1 : Int} (h : CR a0 a1 a2 a3 a4 e d0 d1 d2 d3 d4 f l0 l1) (k0 : B26 a0) (k1 : 0 ≤ a1 ∧ a1 < 67141632) (k2 : B26 a2) (k3 : B26 a3) (k4 : B26 a4) : okQ e := by
  obtain ⟨h0, h1, h2, h3, h4, h5, h6, b0, b1, b2, b3, b4, bf⟩ := h
  unfold B26 at *
  have q0 : d0 = 0 := by omega
  have q1 : 0 ≤ d1 ∧ d1 ≤ 1 := by omega
  have q2 : 0 ≤ d2 ∧ d2 ≤ 1 := by omega
  have q3 : 0 ≤ d3 ∧ d3 ≤ 1 := by omega
  have q4 : 0 ≤ d4 ∧ d4 ≤ 1 := by omega
  have qf : 0 ≤ f ∧ f ≤ 1 := by omega
  exact ⟨bf, ⟨by omega, by omega, fun hh => by omega⟩, b2, b3, b4⟩
theorem CR.three {a0 a1 a2 a3 a4 : Int} {e : W.El} {d0 d1 d2 d3 d4 f l0 l1 : Int} (h : CR a0 a1 a2 a3 a4 e d0 d1 d2 d3 d4 f l0 l1) (k0 : B26 a0) (k1 : 0 ≤ a1 ∧ a1 ≤ 67108864 ∧ (a1 = 67108864 → a0 ≤ 4)) (k2 : B26 a2) (k3 : B26 a3) (k4 : B26 a4) : nP e := by
  obtain ⟨h0, h1, h2, h3, h4, h5, h6, b0, b1, b2, b3, b4, bf⟩ := h
  unfold B26 at *
  have q0 : d0 = 0 := by omega
  by_cases hb : a1 = 67108864
  · have := k1.2.2 hb
    have q1 : d1 = 1 ∧ l1 = 0 := by omega
    have q2 : 0 ≤ d2 ∧ d2 ≤ 1 := by omega
    have q3 : 0 ≤ d3 ∧ d3 ≤ 1 := by omega
    have q4 : 0 ≤ d4 ∧ d4 ≤ 1 := by omega
    have qf : f = 0 := by omega
    exact ⟨bf, ⟨by omega, by omega⟩, b2, b3, b4⟩
  · have q1 : d1 = 0 := by omega
    have q2 : d2 = 0 := by omega
    have q3 : d3 = 0 := by omega
    have q4 : d4 = 0 := by omega
    have qf : f = 0 := by omega
    exact ⟨bf, ⟨by omega, by omega⟩, b2, b3, b4⟩
theorem B26.b62 {a : Int} (h : B26 a) : B62 a := by unfold B26 at h; unfold B62; omega
theorem three_num {a : W.El} (g : B62 a.a0 ∧ B62 a.a1 ∧ B62 a.a2 ∧ B62 a.a3 ∧ B62 a.a4) : ∃ e1 e2 e3 : W.El, PureF Try.prog 84 [(.aggi .u64 (W.el a))] (.aggi .u64 (W.el e1)) ∧ PureF Try.prog 84 [(.aggi .u64 (W.el e1))] (.aggi .u64 (W.el e2)) ∧ PureF Try.prog 84 [(.aggi .u64 (W.el e2))] (.aggi .u64 (W.el e3)) ∧ nP e3 ∧ vP e3 % p130 = vP a % p130 := by
  obtain ⟨e1, c1, k1, q1, v1⟩ := carry_num g.1 g.2.1 g.2.2.1 g.2.2.2.1 g.2.2.2.2
  obtain ⟨x0, x1, x2, x3, x4⟩ := k1
  obtain ⟨e2, _, _, _, _, D2, _, _, _, c2, r2⟩ := carry_raw (a0 := e1.a0) (a1 := e1.a1) (a2 := e1.a2) (a3 := e1.a3) (a4 := e1.a4) (B26.b62 x0) (by unfold B62; omega) (B26.b62 x2) (B26.b62 x3) (B26.b62 x4)
  have k2 := r2.two x0 x1 x2 x3 x4
  obtain ⟨y0, y1, y2, y3, y4⟩ := k2
  obtain ⟨e3, _, _, _, _, D3, _, _, _, c3, r3⟩ := carry_raw (a0 := e2.a0) (a1 := e2.a1) (a2 := e2.a2) (a3 := e2.a3) (a4 := e2.a4) y0.b62 (by unfold B62; omega) y2.b62 y3.b62 y4.b62
  refine ⟨e1, e2, e3, c1, c2, c3, r3.three y0 y1 y2 y3 y4, ?_⟩
  have w2 : vP e2 = vP e1 - p130 * D2 := r2.val
  have w3 : vP e3 = vP e2 - p130 * D3 := r3.val
  have w1 : vP e1 = vP a - p130 * q1 := v1
  rw [w3, Int.sub_mul_emod_self_left, w2, Int.sub_mul_emod_self_left, w1, Int.sub_mul_emod_self_left]
theorem gstep {a c x d l : Int} (ha : 0 ≤ a ∧ a < 67108870) (hc : 0 ≤ c ∧ c < 3) (h : (a + c) % 18446744073709551616 = x) (hd : x / 67108864 = d) (hl : bAnd IntKind.u64 x 67108863 = l) : a + c = 67108864 * d + l ∧ (0 ≤ l ∧ l < 67108864) ∧ (0 ≤ d ∧ d < 3) := by
  rw [mask26 (by omega) (by omega)] at hl
  omega
theorem vP_lt {e : W.El} (h : nP e) : 0 ≤ vP e ∧ vP e < 1361129467683753853853498429727072845824 := by
  obtain ⟨g0, g1, g2, g3, g4⟩ := h
  unfold B26 at *
  unfold vP v26; omega
theorem red_one {V G A : Int} (h : V % p130 = A % p130) (hV : 0 ≤ V ∧ V < 1361129467683753853853498429727072845824) (hG : 0 ≤ G ∧ G < 1361129467683753853853498429727072845824) (hv : V + 5 = G + 1361129467683753853853498429727072845824 * 1) : G = A % p130 := by
  rw [← h]; unfold p130; omega
theorem red_zero {V G A : Int} (h : V % p130 = A % p130) (hV : 0 ≤ V ∧ V < 1361129467683753853853498429727072845824) (hG : 0 ≤ G ∧ G < 1361129467683753853853498429727072845824) (hv : V + 5 = G + 1361129467683753853853498429727072845824 * 0) : V = A % p130 := by
  rw [← h]; unfold p130; omega
theorem least_num {a : W.El} (g : B62 a.a0 ∧ B62 a.a1 ∧ B62 a.a2 ∧ B62 a.a3 ∧ B62 a.a4) : ∃ e : W.El, PureF Try.prog 61 [(.aggi .u64 (W.el a))] (.aggi .u64 (W.el e)) ∧ nP e ∧ vP e = vP a % p130 := by
  obtain ⟨e1, e2, e3, c1, c2, c3, n3, v3⟩ := three_num g
  have hlt := vP_lt n3
  obtain ⟨b0, b1, b2, b3, b4⟩ := n3
  obtain ⟨x9, h8⟩ : ∃ z : Int, (e3.a0 + 5) % 18446744073709551616 = z := ⟨_, rfl⟩
  obtain ⟨x11, h10⟩ : ∃ z : Int, (x9 + 0) % 18446744073709551616 = z := ⟨_, rfl⟩
  obtain ⟨x13, h12⟩ : ∃ z : Int, x11 / 67108864 = z := ⟨_, rfl⟩
  obtain ⟨x15, h14⟩ : ∃ z : Int, bAnd IntKind.u64 x11 67108863 = z := ⟨_, rfl⟩
  obtain ⟨x19, h18⟩ : ∃ z : Int, (e3.a1 + x13) % 18446744073709551616 = z := ⟨_, rfl⟩
  obtain ⟨x21, h20⟩ : ∃ z : Int, x19 / 67108864 = z := ⟨_, rfl⟩
  obtain ⟨x23, h22⟩ : ∃ z : Int, bAnd IntKind.u64 x19 67108863 = z := ⟨_, rfl⟩
  obtain ⟨x27, h26⟩ : ∃ z : Int, (e3.a2 + x21) % 18446744073709551616 = z := ⟨_, rfl⟩
  obtain ⟨x29, h28⟩ : ∃ z : Int, x27 / 67108864 = z := ⟨_, rfl⟩
  obtain ⟨x31, h30⟩ : ∃ z : Int, bAnd IntKind.u64 x27 67108863 = z := ⟨_, rfl⟩
  obtain ⟨x35, h34⟩ : ∃ z : Int, (e3.a3 + x29) % 18446744073709551616 = z := ⟨_, rfl⟩
  obtain ⟨x37, h36⟩ : ∃ z : Int, x35 / 67108864 = z := ⟨_, rfl⟩
  obtain ⟨x39, h38⟩ : ∃ z : Int, bAnd IntKind.u64 x35 67108863 = z := ⟨_, rfl⟩
  obtain ⟨x43, h42⟩ : ∃ z : Int, (e3.a4 + x37) % 18446744073709551616 = z := ⟨_, rfl⟩
  obtain ⟨x45, h44⟩ : ∃ z : Int, x43 / 67108864 = z := ⟨_, rfl⟩
  obtain ⟨x47, h46⟩ : ∃ z : Int, bAnd IntKind.u64 x43 67108863 = z := ⟨_, rfl⟩
  have m9 : x9 = e3.a0 + 5 := by unfold B26 at b0; omega
  obtain ⟨E0, l0, d0⟩ := gstep (a := x9) (by unfold B26 at b0; omega) ⟨by decide, by decide⟩ h10 h12 h14
  obtain ⟨E1, l1, d1⟩ := gstep (by unfold B26 at b1; omega) d0 h18 h20 h22
  obtain ⟨E2, l2, d2⟩ := gstep (by unfold B26 at b2; omega) d1 h26 h28 h30
  obtain ⟨E3, l3, d3⟩ := gstep (by unfold B26 at b3; omega) d2 h34 h36 h38
  obtain ⟨E4, l4, d4⟩ := gstep (by unfold B26 at b4; omega) d3 h42 h44 h46
  have hv : vP e3 + 5 = v26 x15 x23 x31 x39 x47 + 1361129467683753853853498429727072845824 * x45 := by
    clear h10 h12 h14 h18 h20 h22 h26 h28 h30 h34 h36 h38 h42 h44 h46
    unfold vP v26
    omega
  have hg := vP_lt (e := ⟨x15, x23, x31, x39, x47⟩) ⟨l0, l1, l2, l3, l4⟩
  have hg : 0 ≤ v26 x15 x23 x31 x39 x47 ∧ v26 x15 x23 x31 x39 x47 < 1361129467683753853853498429727072845824 := hg
  by_cases hq : (x45 == 1) = true
  · have h1 : x45 = 1 := eq_of_beq hq
    refine ⟨⟨x15, x23, x31, x39, x47⟩, run45a a e1 e2 e3 e3.a0 x9 x11 x13 x15 e3.a1 x19 x21 x23 e3.a2 x27 x29 x31 e3.a3 x35 x37 x39 e3.a4 x43 x45 x47 true c1 c2 c3 rfl h8 h10 h12 h14 rfl h18 h20 h22 rfl h26 h28 h30 rfl h34 h36 h38 rfl h42 h44 h46 hq rfl, ⟨l0, l1, l2, l3, l4⟩, ?_⟩
    show v26 x15 x23 x31 x39 x47 = _
    rw [h1] at hv
    exact red_one v3 hlt hg hv
  · have h1 : x45 ≠ 1 := fun e => hq (by rw [e]; rfl)
    refine ⟨e3, run45b a e1 e2 e3 e3.a0 x9 x11 x13 x15 e3.a1 x19 x21 x23 e3.a2 x27 x29 x31 e3.a3 x35 x37 x39 e3.a4 x43 x45 x47 false c1 c2 c3 rfl h8 h10 h12 h14 rfl h18 h20 h22 rfl h26 h28 h30 rfl h34 h36 h38 rfl h42 h44 h46 (Bool.eq_false_iff.mpr hq) rfl, ⟨b0, b1, b2, b3, b4⟩, ?_⟩
    have h0 : x45 = 0 := by
      generalize vP e3 = V at *
      generalize v26 x15 x23 x31 x39 x47 = G at *
      clear h10 h12 h14 h18 h20 h22 h26 h28 h30 h34 h36 h38 h42 h44 h46 E0 E1 E2 E3 E4
      omega
    rw [h0] at hv
    exact red_zero v3 hlt hg hv
end Go.Proofs.Ytmfnldkiaodkpaa.Vm

namespace Go.Proofs.Ytmfnldkiaodkpaa.Vm
open Go Go.Proofs Go.Proofs.Ytmfnldkiaodkpaa
def By (b : Int) : Prop := 0 ≤ b ∧ b < 256
theorem ws_0 {b x y z : Int} (hb : By b) (h1 : b % 18446744073709551616 = x) (h2 : x * 1 % 18446744073709551616 = y) (h3 : bOr IntKind.u64 0 y = z) : z = b ∧ 0 ≤ z ∧ z < 256 := by
  unfold By at hb
  rw [or64_add 0 (by decide) (by decide) (by omega) (by omega) (by omega)] at h3
  omega
theorem ws_1 {acc b x y z : Int} (ha : 0 ≤ acc ∧ acc < 256) (hb : By b) (h1 : b % 18446744073709551616 = x) (h2 : x * 256 % 18446744073709551616 = y) (h3 : bOr IntKind.u64 acc y = z) : z = acc + b * 256 ∧ 0 ≤ z ∧ z < 65536 := by
  unfold By at hb
  rw [or64_add 8 (by omega) (by omega) (by omega) (by omega) (by omega)] at h3
  omega
theorem ws_2 {acc b x y z : Int} (ha : 0 ≤ acc ∧ acc < 65536) (hb : By b) (h1 : b % 18446744073709551616 = x) (h2 : x * 65536 % 18446744073709551616 = y) (h3 : bOr IntKind.u64 acc y = z) : z = acc + b * 65536 ∧ 0 ≤ z ∧ z < 16777216 := by
  unfold By at hb
  rw [or64_add 16 (by omega) (by omega) (by omega) (by omega) (by omega)] at h3
  omega
theorem ws_3 {acc b x y z : Int} (ha : 0 ≤ acc ∧ acc < 16777216) (hb : By b) (h1 : b % 18446744073709551616 = x) (h2 : x * 16777216 % 18446744073709551616 = y) (h3 : bOr IntKind.u64 acc y = z) : z = acc + b * 16777216 ∧ 0 ≤ z ∧ z < 4294967296 := by
  unfold By at hb
  rw [or64_add 24 (by omega) (by omega) (by omega) (by omega) (by omega)] at h3
  omega
theorem ws_4 {acc b x y z : Int} (ha : 0 ≤ acc ∧ acc < 4294967296) (hb : By b) (h1 : b % 18446744073709551616 = x) (h2 : x * 4294967296 % 18446744073709551616 = y) (h3 : bOr IntKind.u64 acc y = z) : z = acc + b * 4294967296 ∧ 0 ≤ z ∧ z < 1099511627776 := by
  unfold By at hb
  rw [or64_add 32 (by omega) (by omega) (by omega) (by omega) (by omega)] at h3
  omega
def n17 (b : Nat → Int) : Int := b 0 * 1 + b 1 * 256 + b 2 * 65536 + b 3 * 16777216 + b 4 * 4294967296 + b 5 * 1099511627776 + b 6 * 281474976710656 + b 7 * 72057594037927936 + b 8 * 18446744073709551616 + b 9 * 4722366482869645213696 + b 10 * 1208925819614629174706176 + b 11 * 309485009821345068724781056 + b 12 * 79228162514264337593543950336 + b 13 * 20282409603651670423947251286016 + b 14 * 5192296858534827628530496329220096 + b 15 * 1329227995784915872903807060280344576 + b 16 * 340282366920938463463374607431768211456
theorem limb_0 {w0 w1 w2 w3 w4 z lo N rest m : Int} (b0 : By w0) (b1 : By w1) (b2 : By w2) (b3 : By w3) (b4 : By w4) (hz : z = w0 + w1 * 256 + w2 * 65536 + w3 * 16777216 + w4 * 4294967296) (hlo : 0 ≤ lo ∧ lo < 1) (hN : N = lo + 1 * z + 1099511627776 * rest) (h1 : z / 1 = m) : bAnd IntKind.u64 m 67108863 = N / 1 % 67108864 := by
  unfold By at *
  rw [mask26 (by omega) (by omega)]
  omega
theorem limb_1 {w0 w1 w2 w3 w4 z lo N rest m : Int} (b0 : By w0) (b1 : By w1) (b2 : By w2) (b3 : By w3) (b4 : By w4) (hz : z = w0 + w1 * 256 + w2 * 65536 + w3 * 16777216 + w4 * 4294967296) (hlo : 0 ≤ lo ∧ lo < 16777216) (hN : N = lo + 16777216 * z + 18446744073709551616 * rest) (h1 : z / 4 = m) : bAnd IntKind.u64 m 67108863 = N / 67108864 % 67108864 := by
  unfold By at *
  rw [mask26 (by omega) (by omega)]
  omega
theorem limb_2 {w0 w1 w2 w3 w4 z lo N rest m : Int} (b0 : By w0) (b1 : By w1) (b2 : By w2) (b3 : By w3) (b4 : By w4) (hz : z = w0 + w1 * 256 + w2 * 65536 + w3 * 16777216 + w4 * 4294967296) (hlo : 0 ≤ lo ∧ lo < 281474976710656) (hN : N = lo + 281474976710656 * z + 309485009821345068724781056 * rest) (h1 : z / 16 = m) : bAnd IntKind.u64 m 67108863 = N / 4503599627370496 % 67108864 := by
  unfold By at *
  rw [mask26 (by omega) (by omega)]
  omega
theorem limb_3 {w0 w1 w2 w3 w4 z lo N rest m : Int} (b0 : By w0) (b1 : By w1) (b2 : By w2) (b3 : By w3) (b4 : By w4) (hz : z = w0 + w1 * 256 + w2 * 65536 + w3 * 16777216 + w4 * 4294967296) (hlo : 0 ≤ lo ∧ lo < 4722366482869645213696) (hN : N = lo + 4722366482869645213696 * z + 5192296858534827628530496329220096 * rest) (h1 : z / 64 = m) : bAnd IntKind.u64 m 67108863 = N / 302231454903657293676544 % 67108864 := by
  unfold By at *
  rw [mask26 (by omega) (by omega)]
  omega
theorem limb_4 {w0 w1 w2 w3 z lo N rest m : Int} (b0 : By w0) (b1 : By w1) (b2 : By w2) (b3 : By w3) (hz : z = w0 + w1 * 256 + w2 * 65536 + w3 * 16777216) (hlo : 0 ≤ lo ∧ lo < 20282409603651670423947251286016) (hN : N = lo + 20282409603651670423947251286016 * z + 87112285931760246646623899502532662132736 * rest) (h1 : z / 1 = m) : bAnd IntKind.u64 m 67108863 = N / 20282409603651670423947251286016 % 67108864 := by
  unfold By at *
  rw [mask26 (by omega) (by omega)]
  omega
theorem zr_1 (x8 x17 x26 x35 x44 x48 : Int) : List.getD (splice (splice (splice (splice (splice (splice [0, 0, 0, 0, 0] 0 [x8]) 0 [x17]) 0 [x26]) 0 [x35]) 0 [x44]) 0 [x48]) 1 0 = 0 := by kernel_rfl
theorem zr_2 (x8 x17 x26 x35 x44 x48 x59 x68 x77 x86 x95 x99 : Int) : List.getD (splice (splice (splice (splice (splice (splice (splice (splice (splice (splice (splice (splice [0, 0, 0, 0, 0] 0 [x8]) 0 [x17]) 0 [x26]) 0 [x35]) 0 [x44]) 0 [x48]) 1 [x59]) 1 [x68]) 1 [x77]) 1 [x86]) 1 [x95]) 1 [x99]) 2 0 = 0 := by kernel_rfl
theorem zr_3 (x8 x17 x26 x35 x44 x48 x59 x68 x77 x86 x95 x99 x110 x119 x128 x137 x146 x150 : Int) : List.getD (splice (splice (splice (splice (splice (splice (splice (splice (splice (splice (splice (splice (splice (splice (splice (splice (splice (splice [0, 0, 0, 0, 0] 0 [x8]) 0 [x17]) 0 [x26]) 0 [x35]) 0 [x44]) 0 [x48]) 1 [x59]) 1 [x68]) 1 [x77]) 1 [x86]) 1 [x95]) 1 [x99]) 2 [x110]) 2 [x119]) 2 [x128]) 2 [x137]) 2 [x146]) 2 [x150]) 3 0 = 0 := by kernel_rfl
theorem zr_4 (x8 x17 x26 x35 x44 x48 x59 x68 x77 x86 x95 x99 x110 x119 x128 x137 x146 x150 x161 x170 x179 x188 x197 x201 : Int) : List.getD (splice (splice (splice (splice (splice (splice (splice (splice (splice (splice (splice (splice (splice (splice (splice (splice (splice (splice (splice (splice (splice (splice (splice (splice [0, 0, 0, 0, 0] 0 [x8]) 0 [x17]) 0 [x26]) 0 [x35]) 0 [x44]) 0 [x48]) 1 [x59]) 1 [x68]) 1 [x77]) 1 [x86]) 1 [x95]) 1 [x99]) 2 [x110]) 2 [x119]) 2 [x128]) 2 [x137]) 2 [x146]) 2 [x150]) 3 [x161]) 3 [x170]) 3 [x179]) 3 [x188]) 3 [x197]) 3 [x201]) 4 0 = 0 := by kernel_rfl
theorem lo_3 {l : List Int} (hb : ∀ i, By (l.getD i 0)) : 0 ≤ l.getD 0 0 * 1 + l.getD 1 0 * 256 + l.getD 2 0 * 65536 ∧ l.getD 0 0 * 1 + l.getD 1 0 * 256 + l.getD 2 0 * 65536 < 16777216 := by
  have h0 := hb 0; have h1 := hb 1; have h2 := hb 2
  unfold By at *
  omega
theorem lo_6 {l : List Int} (hb : ∀ i, By (l.getD i 0)) : 0 ≤ l.getD 0 0 * 1 + l.getD 1 0 * 256 + l.getD 2 0 * 65536 + l.getD 3 0 * 16777216 + l.getD 4 0 * 4294967296 + l.getD 5 0 * 1099511627776 ∧ l.getD 0 0 * 1 + l.getD 1 0 * 256 + l.getD 2 0 * 65536 + l.getD 3 0 * 16777216 + l.getD 4 0 * 4294967296 + l.getD 5 0 * 1099511627776 < 281474976710656 := by
  have h0 := hb 0; have h1 := hb 1; have h2 := hb 2; have h3 := hb 3; have h4 := hb 4; have h5 := hb 5
  unfold By at *
  omega
theorem lo_9 {l : List Int} (hb : ∀ i, By (l.getD i 0)) : 0 ≤ l.getD 0 0 * 1 + l.getD 1 0 * 256 + l.getD 2 0 * 65536 + l.getD 3 0 * 16777216 + l.getD 4 0 * 4294967296 + l.getD 5 0 * 1099511627776 + l.getD 6 0 * 281474976710656 + l.getD 7 0 * 72057594037927936 + l.getD 8 0 * 18446744073709551616 ∧ l.getD 0 0 * 1 + l.getD 1 0 * 256 + l.getD 2 0 * 65536 + l.getD 3 0 * 16777216 + l.getD 4 0 * 4294967296 + l.getD 5 0 * 1099511627776 + l.getD 6 0 * 281474976710656 + l.getD 7 0 * 72057594037927936 + l.getD 8 0 * 18446744073709551616 < 4722366482869645213696 := by
  have h0 := hb 0; have h1 := hb 1; have h2 := hb 2; have h3 := hb 3; have h4 := hb 4; have h5 := hb 5; have h6 := hb 6; have h7 := hb 7; have h8 := hb 8
  unfold By at *
  omega
theorem lo_13 {l : List Int} (hb : ∀ i, By (l.getD i 0)) : 0 ≤ l.getD 0 0 * 1 + l.getD 1 0 * 256 + l.getD 2 0 * 65536 + l.getD 3 0 * 16777216 + l.getD 4 0 * 4294967296 + l.getD 5 0 * 1099511627776 + l.getD 6 0 * 281474976710656 + l.getD 7 0 * 72057594037927936 + l.getD 8 0 * 18446744073709551616 + l.getD 9 0 * 4722366482869645213696 + l.getD 10 0 * 1208925819614629174706176 + l.getD 11 0 * 309485009821345068724781056 + l.getD 12 0 * 79228162514264337593543950336 ∧ l.getD 0 0 * 1 + l.getD 1 0 * 256 + l.getD 2 0 * 65536 + l.getD 3 0 * 16777216 + l.getD 4 0 * 4294967296 + l.getD 5 0 * 1099511627776 + l.getD 6 0 * 281474976710656 + l.getD 7 0 * 72057594037927936 + l.getD 8 0 * 18446744073709551616 + l.getD 9 0 * 4722366482869645213696 + l.getD 10 0 * 1208925819614629174706176 + l.getD 11 0 * 309485009821345068724781056 + l.getD 12 0 * 79228162514264337593543950336 < 20282409603651670423947251286016 := by
  have h0 := hb 0; have h1 := hb 1; have h2 := hb 2; have h3 := hb 3; have h4 := hb 4; have h5 := hb 5; have h6 := hb 6; have h7 := hb 7; have h8 := hb 8; have h9 := hb 9; have h10 := hb 10; have h11 := hb 11; have h12 := hb 12
  unfold By at *
  omega
theorem digits26 (N : Int) : v26 (N / 1 % 67108864) (N / 67108864 % 67108864) (N / 4503599627370496 % 67108864) (N / 302231454903657293676544 % 67108864) (N / 20282409603651670423947251286016 % 67108864) = N % 1361129467683753853853498429727072845824 := by
  unfold v26; omega
theorem split_num {l : List Int} (h : 17 ≤ l.length) (hb : ∀ i, By (l.getD i 0)) : ∃ e : W.El, PureF Try.prog 59 [(.aggi .u8 l)] (.aggi .u64 (W.el e)) ∧ nP e ∧ vP e = n17 (fun i => l.getD i 0) % 1361129467683753853853498429727072845824 := by
  obtain ⟨x4, h3⟩ : ∃ z : Int, (l.getD 0 0) % 18446744073709551616 = z := ⟨_, rfl⟩
  obtain ⟨x6, h5⟩ : ∃ z : Int, x4 * 1 % 18446744073709551616 = z := ⟨_, rfl⟩
  obtain ⟨x8, h7⟩ : ∃ z : Int, bOr IntKind.u64 0 x6 = z := ⟨_, rfl⟩
  obtain ⟨qx8, bx8⟩ := ws_0 (hb 0) h3 h5 h7
  obtain ⟨x13, h12⟩ : ∃ z : Int, (l.getD 1 0) % 18446744073709551616 = z := ⟨_, rfl⟩
  obtain ⟨x15, h14⟩ : ∃ z : Int, x13 * 256 % 18446744073709551616 = z := ⟨_, rfl⟩
  obtain ⟨x17, h16⟩ : ∃ z : Int, bOr IntKind.u64 x8 x15 = z := ⟨_, rfl⟩
  obtain ⟨qx17, bx17⟩ := ws_1 bx8 (hb 1) h12 h14 h16
  obtain ⟨x22, h21⟩ : ∃ z : Int, (l.getD 2 0) % 18446744073709551616 = z := ⟨_, rfl⟩
  obtain ⟨x24, h23⟩ : ∃ z : Int, x22 * 65536 % 18446744073709551616 = z := ⟨_, rfl⟩
  obtain ⟨x26, h25⟩ : ∃ z : Int, bOr IntKind.u64 x17 x24 = z := ⟨_, rfl⟩
  obtain ⟨qx26, bx26⟩ := ws_2 bx17 (hb 2) h21 h23 h25
  obtain ⟨x31, h30⟩ : ∃ z : Int, (l.getD 3 0) % 18446744073709551616 = z := ⟨_, rfl⟩
  obtain ⟨x33, h32⟩ : ∃ z : Int, x31 * 16777216 % 18446744073709551616 = z := ⟨_, rfl⟩
  obtain ⟨x35, h34⟩ : ∃ z : Int, bOr IntKind.u64 x26 x33 = z := ⟨_, rfl⟩
  obtain ⟨qx35, bx35⟩ := ws_3 bx26 (hb 3) h30 h32 h34
  obtain ⟨x40, h39⟩ : ∃ z : Int, (l.getD 4 0) % 18446744073709551616 = z := ⟨_, rfl⟩
  obtain ⟨x42, h41⟩ : ∃ z : Int, x40 * 4294967296 % 18446744073709551616 = z := ⟨_, rfl⟩
  obtain ⟨x44, h43⟩ : ∃ z : Int, bOr IntKind.u64 x35 x42 = z := ⟨_, rfl⟩
  obtain ⟨qx44, bx44⟩ := ws_4 bx35 (hb 4) h39 h41 h43
  obtain ⟨x46, h45⟩ : ∃ z : Int, x44 / 1 = z := ⟨_, rfl⟩
  obtain ⟨x48, h47⟩ : ∃ z : Int, bAnd IntKind.u64 x46 67108863 = z := ⟨_, rfl⟩
  have w0 : x44 = l.getD 0 0 + l.getD 1 0 * 256 + l.getD 2 0 * 65536 + l.getD 3 0 * 16777216 + l.getD 4 0 * 4294967296 := by rw [qx44, qx35, qx26, qx17, qx8]
  have m0 : x48 = n17 (fun i => l.getD i 0) / 1 % 67108864 := h47.symm.trans (limb_0 (hb 0) (hb 1) (hb 2) (hb 3) (hb 4) w0 (lo := 0) (rest := l.getD 5 0 * 1 + l.getD 6 0 * 256 + l.getD 7 0 * 65536 + l.getD 8 0 * 16777216 + l.getD 9 0 * 4294967296 + l.getD 10 0 * 1099511627776 + l.getD 11 0 * 281474976710656 + l.getD 12 0 * 72057594037927936 + l.getD 13 0 * 18446744073709551616 + l.getD 14 0 * 4722366482869645213696 + l.getD 15 0 * 1208925819614629174706176 + l.getD 16 0 * 309485009821345068724781056) (by have := hb 0; unfold By at *; omega) (by unfold n17; dsimp only; rw [w0]; omega) h45)
  obtain ⟨x55, h54⟩ : ∃ z : Int, (l.getD 3 0) % 18446744073709551616 = z := ⟨_, rfl⟩
  obtain ⟨x57, h56⟩ : ∃ z : Int, x55 * 1 % 18446744073709551616 = z := ⟨_, rfl⟩
  obtain ⟨x59, h58⟩ : ∃ z : Int, bOr IntKind.u64 0 x57 = z := ⟨_, rfl⟩
  obtain ⟨qx59, bx59⟩ := ws_0 (hb 3) h54 h56 h58
  obtain ⟨x64, h63⟩ : ∃ z : Int, (l.getD 4 0) % 18446744073709551616 = z := ⟨_, rfl⟩
  obtain ⟨x66, h65⟩ : ∃ z : Int, x64 * 256 % 18446744073709551616 = z := ⟨_, rfl⟩
  obtain ⟨x68, h67⟩ : ∃ z : Int, bOr IntKind.u64 x59 x66 = z := ⟨_, rfl⟩
  obtain ⟨qx68, bx68⟩ := ws_1 bx59 (hb 4) h63 h65 h67
  obtain ⟨x73, h72⟩ : ∃ z : Int, (l.getD 5 0) % 18446744073709551616 = z := ⟨_, rfl⟩
  obtain ⟨x75, h74⟩ : ∃ z : Int, x73 * 65536 % 18446744073709551616 = z := ⟨_, rfl⟩
  obtain ⟨x77, h76⟩ : ∃ z : Int, bOr IntKind.u64 x68 x75 = z := ⟨_, rfl⟩
  obtain ⟨qx77, bx77⟩ := ws_2 bx68 (hb 5) h72 h74 h76
  obtain ⟨x82, h81⟩ : ∃ z : Int, (l.getD 6 0) % 18446744073709551616 = z := ⟨_, rfl⟩
  obtain ⟨x84, h83⟩ : ∃ z : Int, x82 * 16777216 % 18446744073709551616 = z := ⟨_, rfl⟩
  obtain ⟨x86, h85⟩ : ∃ z : Int, bOr IntKind.u64 x77 x84 = z := ⟨_, rfl⟩
  obtain ⟨qx86, bx86⟩ := ws_3 bx77 (hb 6) h81 h83 h85
  obtain ⟨x91, h90⟩ : ∃ z : Int, (l.getD 7 0) % 18446744073709551616 = z := ⟨_, rfl⟩
  obtain ⟨x93, h92⟩ : ∃ z : Int, x91 * 4294967296 % 18446744073709551616 = z := ⟨_, rfl⟩
  obtain ⟨x95, h94⟩ : ∃ z : Int, bOr IntKind.u64 x86 x93 = z := ⟨_, rfl⟩
  obtain ⟨qx95, bx95⟩ := ws_4 bx86 (hb 7) h90 h92 h94
  obtain ⟨x97, h96⟩ : ∃ z : Int, x95 / 4 = z := ⟨_, rfl⟩
  obtain ⟨x99, h98⟩ : ∃ z : Int, bAnd IntKind.u64 x97 67108863 = z := ⟨_, rfl⟩
  have w1 : x95 = l.getD 3 0 + l.getD 4 0 * 256 + l.getD 5 0 * 65536 + l.getD 6 0 * 16777216 + l.getD 7 0 * 4294967296 := by rw [qx95, qx86, qx77, qx68, qx59]
  have m1 : x99 = n17 (fun i => l.getD i 0) / 67108864 % 67108864 := h98.symm.trans (limb_1 (hb 3) (hb 4) (hb 5) (hb 6) (hb 7) w1 (lo := l.getD 0 0 * 1 + l.getD 1 0 * 256 + l.getD 2 0 * 65536) (rest := l.getD 8 0 * 1 + l.getD 9 0 * 256 + l.getD 10 0 * 65536 + l.getD 11 0 * 16777216 + l.getD 12 0 * 4294967296 + l.getD 13 0 * 1099511627776 + l.getD 14 0 * 281474976710656 + l.getD 15 0 * 72057594037927936 + l.getD 16 0 * 18446744073709551616) (lo_3 hb) (by unfold n17; dsimp only; rw [w1]; omega) h96)
  obtain ⟨x106, h105⟩ : ∃ z : Int, (l.getD 6 0) % 18446744073709551616 = z := ⟨_, rfl⟩
  obtain ⟨x108, h107⟩ : ∃ z : Int, x106 * 1 % 18446744073709551616 = z := ⟨_, rfl⟩
  obtain ⟨x110, h109⟩ : ∃ z : Int, bOr IntKind.u64 0 x108 = z := ⟨_, rfl⟩
  obtain ⟨qx110, bx110⟩ := ws_0 (hb 6) h105 h107 h109
  obtain ⟨x115, h114⟩ : ∃ z : Int, (l.getD 7 0) % 18446744073709551616 = z := ⟨_, rfl⟩
  obtain ⟨x117, h116⟩ : ∃ z : Int, x115 * 256 % 18446744073709551616 = z := ⟨_, rfl⟩
  obtain ⟨x119, h118⟩ : ∃ z : Int, bOr IntKind.u64 x110 x117 = z := ⟨_, rfl⟩
  obtain ⟨qx119, bx119⟩ := ws_1 bx110 (hb 7) h114 h116 h118
  obtain ⟨x124, h123⟩ : ∃ z : Int, (l.getD 8 0) % 18446744073709551616 = z := ⟨_, rfl⟩
  obtain ⟨x126, h125⟩ : ∃ z : Int, x124 * 65536 % 18446744073709551616 = z := ⟨_, rfl⟩
  obtain ⟨x128, h127⟩ : ∃ z : Int, bOr IntKind.u64 x119 x126 = z := ⟨_, rfl⟩
  obtain ⟨qx128, bx128⟩ := ws_2 bx119 (hb 8) h123 h125 h127
  obtain ⟨x133, h132⟩ : ∃ z : Int, (l.getD 9 0) % 18446744073709551616 = z := ⟨_, rfl⟩
  obtain ⟨x135, h134⟩ : ∃ z : Int, x133 * 16777216 % 18446744073709551616 = z := ⟨_, rfl⟩
  obtain ⟨x137, h136⟩ : ∃ z : Int, bOr IntKind.u64 x128 x135 = z := ⟨_, rfl⟩
  obtain ⟨qx137, bx137⟩ := ws_3 bx128 (hb 9) h132 h134 h136
  obtain ⟨x142, h141⟩ : ∃ z : Int, (l.getD 10 0) % 18446744073709551616 = z := ⟨_, rfl⟩
  obtain ⟨x144, h143⟩ : ∃ z : Int, x142 * 4294967296 % 18446744073709551616 = z := ⟨_, rfl⟩
  obtain ⟨x146, h145⟩ : ∃ z : Int, bOr IntKind.u64 x137 x144 = z := ⟨_, rfl⟩
  obtain ⟨qx146, bx146⟩ := ws_4 bx137 (hb 10) h141 h143 h145
  obtain ⟨x148, h147⟩ : ∃ z : Int, x146 / 16 = z := ⟨_, rfl⟩
  obtain ⟨x150, h149⟩ : ∃ z : Int, bAnd IntKind.u64 x148 67108863 = z := ⟨_, rfl⟩
  have w2 : x146 = l.getD 6 0 + l.getD 7 0 * 256 + l.getD 8 0 * 65536 + l.getD 9 0 * 16777216 + l.getD 10 0 * 4294967296 := by rw [qx146, qx137, qx128, qx119, qx110]
  have m2 : x150 = n17 (fun i => l.getD i 0) / 4503599627370496 % 67108864 := h149.symm.trans (limb_2 (hb 6) (hb 7) (hb 8) (hb 9) (hb 10) w2 (lo := l.getD 0 0 * 1 + l.getD 1 0 * 256 + l.getD 2 0 * 65536 + l.getD 3 0 * 16777216 + l.getD 4 0 * 4294967296 + l.getD 5 0 * 1099511627776) (rest := l.getD 11 0 * 1 + l.getD 12 0 * 256 + l.getD 13 0 * 65536 + l.getD 14 0 * 16777216 + l.getD 15 0 * 4294967296 + l.getD 16 0 * 1099511627776) (lo_6 hb) (by unfold n17; dsimp only; rw [w2]; omega) h147)
  obtain ⟨x157, h156⟩ : ∃ z : Int, (l.getD 9 0) % 18446744073709551616 = z := ⟨_, rfl⟩
  obtain ⟨x159, h158⟩ : ∃ z : Int, x157 * 1 % 18446744073709551616 = z := ⟨_, rfl⟩
  obtain ⟨x161, h160⟩ : ∃ z : Int, bOr IntKind.u64 0 x159 = z := ⟨_, rfl⟩
  obtain ⟨qx161, bx161⟩ := ws_0 (hb 9) h156 h158 h160
  obtain ⟨x166, h165⟩ : ∃ z : Int, (l.getD 10 0) % 18446744073709551616 = z := ⟨_, rfl⟩
  obtain ⟨x168, h167⟩ : ∃ z : Int, x166 * 256 % 18446744073709551616 = z := ⟨_, rfl⟩
  obtain ⟨x170, h169⟩ : ∃ z : Int, bOr IntKind.u64 x161 x168 = z := ⟨_, rfl⟩
  obtain ⟨qx170, bx170⟩ := ws_1 bx161 (hb 10) h165 h167 h169
  obtain ⟨x175, h174⟩ : ∃ z : Int, (l.getD 11 0) % 18446744073709551616 = z := ⟨_, rfl⟩
  obtain ⟨x177, h176⟩ : ∃ z : Int, x175 * 65536 % 18446744073709551616 = z := ⟨_, rfl⟩
  obtain ⟨x179, h178⟩ : ∃ z : Int, bOr IntKind.u64 x170 x177 = z := ⟨_, rfl⟩
  obtain ⟨qx179, bx179⟩ := ws_2 bx170 (hb 11) h174 h176 h178
  obtain ⟨x184, h183⟩ : ∃ z : Int, (l.getD 12 0) % 18446744073709551616 = z := ⟨_, rfl⟩
  obtain ⟨x186, h185⟩ : ∃ z : Int, x184 * 16777216 % 18446744073709551616 = z := ⟨_, rfl⟩
  obtain ⟨x188, h187⟩ : ∃ z : Int, bOr IntKind.u64 x179 x186 = z := ⟨_, rfl⟩
  obtain ⟨qx188, bx188⟩ := ws_3 bx179 (hb 12) h183 h185 h187
  obtain ⟨x193, h192⟩ : ∃ z : Int, (l.getD 13 0) % 18446744073709551616 = z := ⟨_, rfl⟩
  obtain ⟨x195, h194⟩ : ∃ z : Int, x193 * 4294967296 % 18446744073709551616 = z := ⟨_, rfl⟩
  obtain ⟨x197, h196⟩ : ∃ z : Int, bOr IntKind.u64 x188 x195 = z := ⟨_, rfl⟩
  obtain ⟨qx197, bx197⟩ := ws_4 bx188 (hb 13) h192 h194 h196
  obtain ⟨x199, h198⟩ : ∃ z : Int, x197 / 64 = z := ⟨_, rfl⟩
  obtain ⟨x201, h200⟩ : ∃ z : Int, bAnd IntKind.u64 x199 67108863 = z := ⟨_, rfl⟩
  have w3 : x197 = l.getD 9 0 + l.getD 10 0 * 256 + l.getD 11 0 * 65536 + l.getD 12 0 * 16777216 + l.getD 13 0 * 4294967296 := by rw [qx197, qx188, qx179, qx170, qx161]
  have m3 : x201 = n17 (fun i => l.getD i 0) / 302231454903657293676544 % 67108864 := h200.symm.trans (limb_3 (hb 9) (hb 10) (hb 11) (hb 12) (hb 13) w3 (lo := l.getD 0 0 * 1 + l.getD 1 0 * 256 + l.getD 2 0 * 65536 + l.getD 3 0 * 16777216 + l.getD 4 0 * 4294967296 + l.getD 5 0 * 1099511627776 + l.getD 6 0 * 281474976710656 + l.getD 7 0 * 72057594037927936 + l.getD 8 0 * 18446744073709551616) (rest := l.getD 14 0 * 1 + l.getD 15 0 * 256 + l.getD 16 0 * 65536) (lo_9 hb) (by unfold n17; dsimp only; rw [w3]; omega) h198)
  obtain ⟨x208, h207⟩ : ∃ z : Int, (l.getD 13 0) % 18446744073709551616 = z := ⟨_, rfl⟩
  obtain ⟨x210, h209⟩ : ∃ z : Int, x208 * 1 % 18446744073709551616 = z := ⟨_, rfl⟩
  obtain ⟨x212, h211⟩ : ∃ z : Int, bOr IntKind.u64 0 x210 = z := ⟨_, rfl⟩
  obtain ⟨qx212, bx212⟩ := ws_0 (hb 13) h207 h209 h211
  obtain ⟨x217, h216⟩ : ∃ z : Int, (l.getD 14 0) % 18446744073709551616 = z := ⟨_, rfl⟩
  obtain ⟨x219, h218⟩ : ∃ z : Int, x217 * 256 % 18446744073709551616 = z := ⟨_, rfl⟩
  obtain ⟨x221, h220⟩ : ∃ z : Int, bOr IntKind.u64 x212 x219 = z := ⟨_, rfl⟩
  obtain ⟨qx221, bx221⟩ := ws_1 bx212 (hb 14) h216 h218 h220
  obtain ⟨x226, h225⟩ : ∃ z : Int, (l.getD 15 0) % 18446744073709551616 = z := ⟨_, rfl⟩
  obtain ⟨x228, h227⟩ : ∃ z : Int, x226 * 65536 % 18446744073709551616 = z := ⟨_, rfl⟩
  obtain ⟨x230, h229⟩ : ∃ z : Int, bOr IntKind.u64 x221 x228 = z := ⟨_, rfl⟩
  obtain ⟨qx230, bx230⟩ := ws_2 bx221 (hb 15) h225 h227 h229
  obtain ⟨x235, h234⟩ : ∃ z : Int, (l.getD 16 0) % 18446744073709551616 = z := ⟨_, rfl⟩
  obtain ⟨x237, h236⟩ : ∃ z : Int, x235 * 16777216 % 18446744073709551616 = z := ⟨_, rfl⟩
  obtain ⟨x239, h238⟩ : ∃ z : Int, bOr IntKind.u64 x230 x237 = z := ⟨_, rfl⟩
  obtain ⟨qx239, bx239⟩ := ws_3 bx230 (hb 16) h234 h236 h238
  obtain ⟨x241, h240⟩ : ∃ z : Int, x239 / 1 = z := ⟨_, rfl⟩
  obtain ⟨x243, h242⟩ : ∃ z : Int, bAnd IntKind.u64 x241 67108863 = z := ⟨_, rfl⟩
  have w4 : x239 = l.getD 13 0 + l.getD 14 0 * 256 + l.getD 15 0 * 65536 + l.getD 16 0 * 16777216 := by rw [qx239, qx230, qx221, qx212]
  have m4 : x243 = n17 (fun i => l.getD i 0) / 20282409603651670423947251286016 % 67108864 := h242.symm.trans (limb_4 (hb 13) (hb 14) (hb 15) (hb 16) w4 (lo := l.getD 0 0 * 1 + l.getD 1 0 * 256 + l.getD 2 0 * 65536 + l.getD 3 0 * 16777216 + l.getD 4 0 * 4294967296 + l.getD 5 0 * 1099511627776 + l.getD 6 0 * 281474976710656 + l.getD 7 0 * 72057594037927936 + l.getD 8 0 * 18446744073709551616 + l.getD 9 0 * 4722366482869645213696 + l.getD 10 0 * 1208925819614629174706176 + l.getD 11 0 * 309485009821345068724781056 + l.getD 12 0 * 79228162514264337593543950336) (rest := 0) (lo_13 hb) (by unfold n17; dsimp only; rw [w4]; omega) h240)
  have run := run43 l (l.getD 0 0) x4 x6 x8 (l.getD 1 0) x13 x15 x17 (l.getD 2 0) x22 x24 x26 (l.getD 3 0) x31 x33 x35 (l.getD 4 0) x40 x42 x44 x46 x48 0 (l.getD 3 0) x55 x57 x59 (l.getD 4 0) x64 x66 x68 (l.getD 5 0) x73 x75 x77 (l.getD 6 0) x82 x84 x86 (l.getD 7 0) x91 x93 x95 x97 x99 0 (l.getD 6 0) x106 x108 x110 (l.getD 7 0) x115 x117 x119 (l.getD 8 0) x124 x126 x128 (l.getD 9 0) x133 x135 x137 (l.getD 10 0) x142 x144 x146 x148 x150 0 (l.getD 9 0) x157 x159 x161 (l.getD 10 0) x166 x168 x170 (l.getD 11 0) x175 x177 x179 (l.getD 12 0) x184 x186 x188 (l.getD 13 0) x193 x195 x197 x199 x201 0 (l.getD 13 0) x208 x210 x212 (l.getD 14 0) x217 x219 x221 (l.getD 15 0) x226 x228 x230 (l.getD 16 0) x235 x237 x239 x241 x243 rfl (by omega) h3 h5 h7 rfl (by omega) h12 h14 h16 rfl (by omega) h21 h23 h25 rfl (by omega) h30 h32 h34 rfl (by omega) h39 h41 h43 h45 h47 (zr_1 _ _ _ _ _ _) rfl (by omega) h54 h56 h58 rfl (by omega) h63 h65 h67 rfl (by omega) h72 h74 h76 rfl (by omega) h81 h83 h85 rfl (by omega) h90 h92 h94 h96 h98 (zr_2 _ _ _ _ _ _ _ _ _ _ _ _) rfl (by omega) h105 h107 h109 rfl (by omega) h114 h116 h118 rfl (by omega) h123 h125 h127 rfl (by omega) h132 h134 h136 rfl (by omega) h141 h143 h145 h147 h149 (zr_3 _ _ _ _ _ _ _ _ _ _ _ _ _ _ _ _ _ _) rfl (by omega) h156 h158 h160 rfl (by omega) h165 h167 h169 rfl (by omega) h174 h176 h178 rfl (by omega) h183 h185 h187 rfl (by omega) h192 h194 h196 h198 h200 (zr_4 _ _ _ _ _ _ _ _ _ _ _ _ _ _ _ _ _ _ _ _ _ _ _ _) rfl (by omega) h207 h209 h211 rfl (by omega) h216 h218 h220 rfl (by omega) h225 h227 h229 rfl (by omega) h234 h236 h238 h240 h242
  have nb : ∀ m : Int, B26 (m % 67108864) := fun m => ⟨Int.emod_nonneg _ (by decide), Int.emod_lt_of_pos _ (by decide)⟩
  refine ⟨⟨x48, x99, x150, x201, x243⟩, run, ⟨by dsimp only; rw [m0]; exact nb _, by dsimp only; rw [m1]; exact nb _, by dsimp only; rw [m2]; exact nb _, by dsimp only; rw [m3]; exact nb _, by dsimp only; rw [m4]; exact nb _⟩, ?_⟩
  rw [← digits26]
  show v26 _ _ _ _ _ = _
  rw [m0, m1, m2, m3, m4]
end Go.Proofs.Ytmfnldkiaodkpaa.Vm

namespace Go.Proofs.Ytmfnldkiaodkpaa.Vm
open Go Go.Proofs Go.Proofs.Ytmfnldkiaodkpaa
def AllB (l : List Int) : Prop := ∀ x ∈ l, By x
theorem AllB.get {l : List Int} (h : AllB l) : ∀ i, By (l.getD i 0) := bt_list h
theorem splice_B {l r : List Int} {o : Nat} (h : o + r.length ≤ l.length) (hl : AllB l) (hr : AllB r) : AllB (splice l o r) := by
  rw [splice_eq l o r h]
  intro x hx
  simp only [List.mem_append] at hx
  rcases hx with (hx | hx) | hx
  · exact hl x (List.mem_of_mem_take hx)
  · exact hr x hx
  · exact hl x (List.mem_of_mem_drop hx)
theorem blk_B {l : List Int} {p t : Nat} (hl : AllB l) (ht : t ≤ 16) : ∀ i, By ((blk l p t).getD i 0) := by
  apply AllB.get
  have e1 : (((t : Nat) : Int) - 0).toNat = t := by omega
  have hz : AllB [(0 : Int), 0, 0, 0, 0, 0, 0, 0, 0, 0, 0, 0, 0, 0, 0, 0, 0] := by
    intro x hx
    simp at hx
    subst hx
    exact ⟨by decide, by decide⟩
  have hA : AllB (blkA l p t) := by
    unfold blkA
    refine splice_B ?_ hz ?_
    · rw [e1, mulE1]
      simp only [List.length_take, List.length_drop, List.length_cons, List.length_nil]
      omega
    · intro x hx
      exact hl x (List.mem_of_mem_drop (List.mem_of_mem_take (List.mem_of_mem_drop (List.mem_of_mem_take hx))))
  have hB : AllB (blkB l p t) := by
    unfold blkB
    refine splice_B ?_ hA ?_
    · rw [blkA_len ht, Int.toNat_natCast, off_eqP]
      simp only [List.length_cons, List.length_nil]
      omega
    · intro x hx
      simp at hx
      subst hx
      exact ⟨by decide, by decide⟩
  intro x hx
  exact hB x (List.mem_of_mem_drop (List.mem_of_mem_take hx))
noncomputable def splitN (l : List Int) : W.El := open Classical in if h : 17 ≤ l.length ∧ ∀ i, By (l.getD i 0) then Classical.choose (split_num h.1 h.2) else ⟨0, 0, 0, 0, 0⟩
theorem splitN_ok {l : List Int} (h : 17 ≤ l.length) (hb : ∀ i, By (l.getD i 0)) : PureF Try.prog 59 [(.aggi .u8 l)] (.aggi .u64 (W.el (splitN l))) ∧ nP (splitN l) ∧ vP (splitN l) = n17 (fun i => l.getD i 0) % 1361129467683753853853498429727072845824 := by
  unfold splitN
  rw [dif_pos ⟨h, hb⟩]
  exact Classical.choose_spec (split_num h hb)
def a28 (a : W.El) : Prop := B28 a.a0 ∧ B28 a.a1 ∧ B28 a.a2 ∧ B28 a.a3 ∧ B28 a.a4
noncomputable def timesN (a b : W.El) : W.El := open Classical in if h : a28 a ∧ nP b then Classical.choose (times_num h.1 h.2) else a
theorem nP_B {r : W.El} (h : nP r) : nP r := h
theorem timesN_ok {a b : W.El} (ha : a28 a) (hb : nP b) : PureF Try.prog 60 [(.aggi .u64 (W.el a)), (.aggi .u64 (W.el b))] (.aggi .u64 (W.el (timesN a b))) ∧ okP (timesN a b) ∧ ∃ q, vP (timesN a b) = vP a * vP b - p130 * q := by
  unfold timesN
  rw [dif_pos ⟨ha, hb⟩]
  exact Classical.choose_spec (times_num ha hb)
theorem okP0 : okP ⟨0, 0, 0, 0, 0⟩ := ⟨⟨by decide, by decide⟩, ⟨by decide, by decide⟩, ⟨by decide, by decide⟩, ⟨by decide, by decide⟩, ⟨by decide, by decide⟩⟩
theorem addm {a s : Int} (ha : 0 ≤ a ∧ a < 67141632) (hs : B26 s) : (a + s) % 18446744073709551616 = a + s ∧ B28 (a + s) := by unfold B26 at hs; unfold B28; omega
theorem okw {a : Int} (h : 0 ≤ a ∧ a < 67108864) : 0 ≤ a ∧ a < 67141632 := ⟨h.1, Int.lt_trans h.2 (by decide)⟩
theorem b28_of {a s : W.El} (ha : okP a) (hs : nP s) : a28 (addEl a s) := by
  obtain ⟨h0, h1, h2, h3, h4⟩ := ha
  obtain ⟨k0, k1, k2, k3, k4⟩ := hs
  have e0 := addm (okw h0) k0; have e1 := addm h1 k1; have e2 := addm (okw h2) k2; have e3 := addm (okw h3) k3; have e4 := addm (okw h4) k4
  exact ⟨by show B28 ((a.a0 + s.a0) % 18446744073709551616); rw [e0.1]; exact e0.2, by show B28 ((a.a1 + s.a1) % 18446744073709551616); rw [e1.1]; exact e1.2, by show B28 ((a.a2 + s.a2) % 18446744073709551616); rw [e2.1]; exact e2.2, by show B28 ((a.a3 + s.a3) % 18446744073709551616); rw [e3.1]; exact e3.2, by show B28 ((a.a4 + s.a4) % 18446744073709551616); rw [e4.1]; exact e4.2⟩
theorem add_num {a s : W.El} (ha : okP a) (hs : nP s) : vP (addEl a s) = vP a + vP s := by
  obtain ⟨h0, h1, h2, h3, h4⟩ := ha
  obtain ⟨k0, k1, k2, k3, k4⟩ := hs
  have e0 := addm (okw h0) k0; have e1 := addm h1 k1; have e2 := addm (okw h2) k2; have e3 := addm (okw h3) k3; have e4 := addm (okw h4) k4
  show v26 _ _ _ _ _ = v26 _ _ _ _ _ + v26 _ _ _ _ _
  dsimp only [addEl]
  rw [e0.1, e1.1, e2.1, e3.1, e4.1]
  unfold v26
  omega
noncomputable def loopN (l : List Int) (r : W.El) (q m : Nat) (a : W.El) : W.El :=
  if _h : m = 0 then a else loopN l r q (m - min m 16) (timesN (addEl a (splitN (blk l (q - m) (min m 16)))) r)
termination_by m
decreasing_by omega
def evalP (l : List Int) (R : Int) (q m : Nat) (A : Int) : Int :=
  if _h : m = 0 then A else evalP l R q (m - min m 16) ((A + n17 (fun i => (blk l (q - m) (min m 16)).getD i 0) % 1361129467683753853853498429727072845824) * R % p130)
termination_by m
decreasing_by omega
theorem loop18n (k l : List Int) (r : W.El) {o n : Nat} (hl : o + n ≤ l.length) (hb : AllB l) (hr : nP r) :
    CodeOk Try.prog 95 4338 (kAt (kOf Try.prog Try.f18) [true, true, true, true, true, true, false, false]) (L18I k l r o n 0 0 0 0 0) (.exit 2) (L18J k l r (o + n) 0 (loopN l r (o + n) n ⟨0, 0, 0, 0, 0⟩).a0 (loopN l r (o + n) n ⟨0, 0, 0, 0, 0⟩).a1 (loopN l r (o + n) n ⟨0, 0, 0, 0, 0⟩).a2 (loopN l r (o + n) n ⟨0, 0, 0, 0, 0⟩).a3 (loopN l r (o + n) n ⟨0, 0, 0, 0, 0⟩).a4) := by
  generalize hF : loopN l r (o + n) n ⟨0, 0, 0, 0, 0⟩ = F
  have key := CodeOk.loop (P := Try.prog) (nt := 95) (n0 := 4338) (k := kAt (kOf Try.prog Try.f18) [true, true, true, true, true, true, false, false, false]) (ex := .exit 2) (s' := L18J k l r (o + n) 0 F.a0 F.a1 F.a2 F.a3 F.a4)
    (fun x : Nat × W.El => L18I k l r (o + n - x.1) x.1 x.2.a0 x.2.a1 x.2.a2 x.2.a3 x.2.a4) (fun x => x.1 ≤ n ∧ okP x.2 ∧ loopN l r (o + n) x.1 x.2 = F) (fun x => x.1) (by simp) ?_ (n, ⟨0, 0, 0, 0, 0⟩) ⟨Nat.le_refl _, okP0, hF⟩
  · have e : o + n - n = o := by omega
    dsimp only at key
    rw [e] at key
    have hk : kAt (kOf Try.prog Try.f18) [true, true, true, true, true, true, false, false] = .loop (kAt (kOf Try.prog Try.f18) [true, true, true, true, true, true, false, false, false]) := by kernel_rfl
    rw [hk]
    exact key
  · rintro ⟨m, a⟩ ⟨hm, ha, hI⟩
    dsimp only at hm ha hI ⊢
    rw [loopN] at hI
    by_cases h0 : m = 0
    · right
      subst h0
      rw [dif_pos rfl] at hI
      subst hI
      exact run18_out k l r (o + n) 0 _ _ _ _ _ _ rfl (by decide)
    · left
      rw [dif_neg h0] at hI
      obtain ⟨t, ht⟩ : ∃ t : Nat, t = min m 16 := ⟨_, rfl⟩
      rw [← ht] at hI
      have hx : (bif decide (((m : Nat) : Int) < 16) then ((m : Nat) : Int) else 16) = (t : Int) := by
        by_cases h : m < 16
        · rw [decide_eq_true (by omega), cond_true]; omega
        · rw [decide_eq_false (by omega), cond_false]; omega
      have b : 1 ≤ t ∧ t ≤ 16 ∧ t ≤ m := by omega
      have e1 : (((t : Nat) : Int) - 0).toNat = t := by omega
      have hlen := blkA_len (l := l) (p := o + n - m) b.2.1
      have hlen2 := blkB_len (l := l) (p := o + n - m) b.2.1
      have hS := splitN_ok (l := blk l (o + n - m) t) (by unfold blk; rw [List.length_take, List.drop_zero, hlen2]; omega) (blk_B hb b.2.1)
      have c104 := hS.1
      have hT := timesN_ok (b28_of ha hS.2.1) (nP_B hr)
      have run := run18_go k l r (o + n - m) m a.a0 a.a1 a.a2 a.a3 a.a4 _ _ _ _ (splitN (blk l (o + n - m) t)) _ _ _ _ _ _ _ _ _ _ (timesN (addEl a (splitN (blk l (o + n - m) t))) r) rfl (decide_eq_true (by omega)) rfl hx ⟨by omega, by omega, by omega⟩ rfl ⟨by rw [e1, addO_eq]; omega, by omega⟩ ⟨by omega, by omega⟩ ⟨by show _ ≤ (blkA l (o + n - m) t).length; rw [hlen, Int.toNat_natCast, off_eqP]; omega, rfl⟩ ⟨by omega, by omega, by omega⟩ (by show _ ≤ (blkB l (o + n - m) t).length; rw [hlen2]; omega) c104 rfl rfl rfl rfl rfl rfl rfl rfl rfl rfl (hT.1)
      refine ⟨(m - t, timesN (addEl a (splitN (blk l (o + n - m) t))) r), ⟨by dsimp only; omega, hT.2.1, hI⟩, by dsimp only; omega, ?_⟩
      have e2 : addO (o + n - m) (mulE (Int.toNat (t : Int)) 1) = o + n - (m - t) := by rw [addO_eq, mulE1, Int.toNat_natCast]; omega
      have e3 : Int.toNat (((m : Nat) : Int) - (t : Int)) = m - t := by omega
      rw [e2, e3] at run
      exact run
theorem blk_len {l : List Int} {p t : Nat} (ht : t ≤ 16) : 17 ≤ (blk l p t).length := by
  unfold blk
  rw [List.length_take, List.drop_zero, blkB_len ht]
  omega
theorem loopN_num {l : List Int} {r : W.El} (hb : AllB l) (hr : nP r) (q : Nat) : ∀ (m : Nat) (a : W.El) (A : Int), okP a → vP a % p130 = A % p130 → okP (loopN l r q m a) ∧ vP (loopN l r q m a) % p130 = evalP l (vP r) q m A % p130 := by
  intro m
  induction m using Nat.strongRecOn with
  | _ m ih =>
    intro a A ha hA
    rw [loopN, evalP]
    by_cases h0 : m = 0
    · rw [dif_pos h0, dif_pos h0]
      exact ⟨ha, hA⟩
    · rw [dif_neg h0, dif_neg h0]
      have b : min m 16 ≤ 16 := by omega
      obtain ⟨_, hs, hv⟩ := splitN_ok (blk_len (l := l) (p := q - m) b) (blk_B (p := q - m) hb b)
      obtain ⟨_, ho, q', hq⟩ := timesN_ok (b28_of ha hs) hr
      refine ih (m - min m 16) (by omega) _ _ ho ?_
      rw [hq, Int.sub_mul_emod_self_left, add_num ha hs, hv, Int.emod_emod_of_dvd _ (Int.dvd_refl p130), Int.mul_emod, Int.add_emod, hA, ← Int.add_emod, ← Int.mul_emod]
end Go.Proofs.Ytmfnldkiaodkpaa.Vm

namespace Go.Proofs.Ytmfnldkiaodkpaa.Vm
open Go Go.Proofs Go.Proofs.Ytmfnldkiaodkpaa
theorem and_By {x c : Int} (hx : By x) (hc : 0 ≤ c ∧ c < 256) : By (bAnd IntKind.u8 x c) := by
  have h : bAnd IntKind.u8 x c = (((x.toNat &&& c.toNat : Nat)) : Int) := u8_and x c hx.1 hx.2 hc.1 hc.2
  rw [h]
  have := Nat.and_le_left (n := x.toNat) (m := c.toNat)
  unfold By at *; omega
theorem b62_of {a c : Int} (h : 0 ≤ a ∧ a < c) (hc : c ≤ 4611686018427387904) : B62 a := ⟨h.1, Int.lt_of_lt_of_le h.2 hc⟩
theorem tag_num (k0 k1 k2 k3 k4 k5 k6 k7 k8 k9 k10 k11 k12 k13 k14 k15 : Int) (b0 : By k0) (b1 : By k1) (b2 : By k2) (b3 : By k3) (b4 : By k4) (b5 : By k5) (b6 : By k6) (b7 : By k7) (b8 : By k8) (b9 : By k9) (b10 : By k10) (b11 : By k11) (b12 : By k12) (b13 : By k13) (b14 : By k14) (b15 : By k15) (l : List Int) (hb : AllB l) {o n : Nat} (hl : o + n ≤ l.length) : ∃ h : Nat → Int, Bt h ∧
    (∀ i, i < 16 → h i = evalP l (n17 (fun i => [bAnd IntKind.u8 k0 255, bAnd IntKind.u8 k1 255, bAnd IntKind.u8 k2 255, bAnd IntKind.u8 k3 15, bAnd IntKind.u8 k4 252, bAnd IntKind.u8 k5 255, bAnd IntKind.u8 k6 255, bAnd IntKind.u8 k7 15, bAnd IntKind.u8 k8 252, bAnd IntKind.u8 k9 255, bAnd IntKind.u8 k10 255, bAnd IntKind.u8 k11 15, bAnd IntKind.u8 k12 252, bAnd IntKind.u8 k13 255, bAnd IntKind.u8 k14 255, bAnd IntKind.u8 k15 15, 0].getD i 0) % 1361129467683753853853498429727072845824) (o + n) n 0 % p130 / 256 ^ i % 256) ∧ ∀ {S : Nat → Int}, Bt S →
    Contract0 Try.prog 18 [(.aggi .u8 [k0, k1, k2, k3, k4, k5, k6, k7, k8, k9, k10, k11, k12, k13, k14, k15, (S 0), (S 1), (S 2), (S 3), (S 4), (S 5), (S 6), (S 7), (S 8), (S 9), (S 10), (S 11), (S 12), (S 13), (S 14), (S 15)]), (.c (.sl 1 0 o n 1))] [(1, .one ⟨false, false, .ints .u8 l⟩)] 2 (.aggi .u8 [cc h S 0 % 256, cc h S 1 % 256, cc h S 2 % 256, cc h S 3 % 256, cc h S 4 % 256, cc h S 5 % 256, cc h S 6 % 256, cc h S 7 % 256, cc h S 8 % 256, cc h S 9 % 256, cc h S 10 % 256, cc h S 11 % 256, cc h S 12 % 256, cc h S 13 % 256, cc h S 14 % 256, cc h S 15 % 256]) [] [] := by
  have hF : AllB [bAnd IntKind.u8 k0 255, bAnd IntKind.u8 k1 255, bAnd IntKind.u8 k2 255, bAnd IntKind.u8 k3 15, bAnd IntKind.u8 k4 252, bAnd IntKind.u8 k5 255, bAnd IntKind.u8 k6 255, bAnd IntKind.u8 k7 15, bAnd IntKind.u8 k8 252, bAnd IntKind.u8 k9 255, bAnd IntKind.u8 k10 255, bAnd IntKind.u8 k11 15, bAnd IntKind.u8 k12 252, bAnd IntKind.u8 k13 255, bAnd IntKind.u8 k14 255, bAnd IntKind.u8 k15 15, 0] := by
    simp only [AllB, List.forall_mem_cons]
    exact ⟨and_By b0 (by decide), and_By b1 (by decide), and_By b2 (by decide), and_By b3 (by decide), and_By b4 (by decide), and_By b5 (by decide), and_By b6 (by decide), and_By b7 (by decide), and_By b8 (by decide), and_By b9 (by decide), and_By b10 (by decide), and_By b11 (by decide), and_By b12 (by decide), and_By b13 (by decide), and_By b14 (by decide), and_By b15 (by decide), ⟨by decide, by decide⟩, fun _ h => by cases h⟩
  obtain ⟨c43, nR, vR⟩ := splitN_ok (l := [bAnd IntKind.u8 k0 255, bAnd IntKind.u8 k1 255, bAnd IntKind.u8 k2 255, bAnd IntKind.u8 k3 15, bAnd IntKind.u8 k4 252, bAnd IntKind.u8 k5 255, bAnd IntKind.u8 k6 255, bAnd IntKind.u8 k7 15, bAnd IntKind.u8 k8 252, bAnd IntKind.u8 k9 255, bAnd IntKind.u8 k10 255, bAnd IntKind.u8 k11 15, bAnd IntKind.u8 k12 252, bAnd IntKind.u8 k13 255, bAnd IntKind.u8 k14 255, bAnd IntKind.u8 k15 15, 0]) (Nat.le_of_ble_eq_true rfl) hF.get
  generalize splitN [bAnd IntKind.u8 k0 255, bAnd IntKind.u8 k1 255, bAnd IntKind.u8 k2 255, bAnd IntKind.u8 k3 15, bAnd IntKind.u8 k4 252, bAnd IntKind.u8 k5 255, bAnd IntKind.u8 k6 255, bAnd IntKind.u8 k7 15, bAnd IntKind.u8 k8 252, bAnd IntKind.u8 k9 255, bAnd IntKind.u8 k10 255, bAnd IntKind.u8 k11 15, bAnd IntKind.u8 k12 252, bAnd IntKind.u8 k13 255, bAnd IntKind.u8 k14 255, bAnd IntKind.u8 k15 15, 0] = R at c43 nR vR
  obtain ⟨ok, hv⟩ := loopN_num hb nR (o + n) n ⟨0, 0, 0, 0, 0⟩ 0 okP0 rfl
  obtain ⟨E, c45, nE, vE⟩ := least_num (a := loopN l R (o + n) n ⟨0, 0, 0, 0, 0⟩) ⟨b62_of ok.1 (by decide), b62_of ok.2.1 (by decide), b62_of ok.2.2.1 (by decide), b62_of ok.2.2.2.1 (by decide), b62_of ok.2.2.2.2 (by decide)⟩
  have c46 := bytes_num nE
  rw [vE, hv, vR] at c46
  generalize evalP l (n17 (fun i => [bAnd IntKind.u8 k0 255, bAnd IntKind.u8 k1 255, bAnd IntKind.u8 k2 255, bAnd IntKind.u8 k3 15, bAnd IntKind.u8 k4 252, bAnd IntKind.u8 k5 255, bAnd IntKind.u8 k6 255, bAnd IntKind.u8 k7 15, bAnd IntKind.u8 k8 252, bAnd IntKind.u8 k9 255, bAnd IntKind.u8 k10 255, bAnd IntKind.u8 k11 15, bAnd IntKind.u8 k12 252, bAnd IntKind.u8 k13 255, bAnd IntKind.u8 k14 255, bAnd IntKind.u8 k15 15, 0].getD i 0) % 1361129467683753853853498429727072845824) (o + n) n 0 % p130 = HH at c46 ⊢
  refine ⟨fun i => HH / 256 ^ i % 256, fun i => ⟨Int.emod_nonneg _ (by decide), Int.emod_lt_of_pos _ (by decide)⟩, fun i _ => rfl, ?_⟩
  intro S hS
  have hL := loop18n [k0, k1, k2, k3, k4, k5, k6, k7, k8, k9, k10, k11, k12, k13, k14, k15, (S 0), (S 1), (S 2), (S 3), (S 4), (S 5), (S 6), (S 7), (S 8), (S 9), (S 10), (S 11), (S 12), (S 13), (S 14), (S 15)] l R hl hb nR
  have hh : Bt (fun i => HH / 256 ^ i % 256) := fun i => ⟨Int.emod_nonneg _ (by decide), Int.emod_lt_of_pos _ (by decide)⟩
  have c46 : PureF Try.prog 62 [(.aggi .u64 (W.el E))] (.aggi .u8 [(fun i => HH / 256 ^ i % 256) 0, (fun i => HH / 256 ^ i % 256) 1, (fun i => HH / 256 ^ i % 256) 2, (fun i => HH / 256 ^ i % 256) 3, (fun i => HH / 256 ^ i % 256) 4, (fun i => HH / 256 ^ i % 256) 5, (fun i => HH / 256 ^ i % 256) 6, (fun i => HH / 256 ^ i % 256) 7, (fun i => HH / 256 ^ i % 256) 8, (fun i => HH / 256 ^ i % 256) 9, (fun i => HH / 256 ^ i % 256) 10, (fun i => HH / 256 ^ i % 256) 11, (fun i => HH / 256 ^ i % 256) 12, (fun i => HH / 256 ^ i % 256) 13, (fun i => HH / 256 ^ i % 256) 14, (fun i => HH / 256 ^ i % 256) 15]) := by
    exact c46
  generalize hdef : (fun i => HH / 256 ^ i % 256) = h at hh ⊢
  have c46 : PureF Try.prog 62 [(.aggi .u64 (W.el E))] (.aggi .u8 [h 0, h 1, h 2, h 3, h 4, h 5, h 6, h 7, h 8, h 9, h 10, h 11, h 12, h 13, h 14, h 15]) := by subst hdef; exact c46
  have cb := cc_bound hh hS
  exact run18 [k0, k1, k2, k3, k4, k5, k6, k7, k8, k9, k10, k11, k12, k13, k14, k15, (S 0), (S 1), (S 2), (S 3), (S 4), (S 5), (S 6), (S 7), (S 8), (S 9), (S 10), (S 11), (S 12), (S 13), (S 14), (S 15)] l o n k0 _ k1 _ k2 _ k3 _ k4 _ k5 _ k6 _ k7 _ k8 _ k9 _ k10 _ k11 _ k12 _ k13 _ k14 _ k15 _ R (o + n) 0 _ _ _ _ _ E (h 0) (h 1) (h 2) (h 3) (h 4) (h 5) (h 6) (h 7) (h 8) (h 9) (h 10) (h 11) (h 12) (h 13) (h 14) (h 15) (h 0) (S 0) (S 0) (h 0 + S 0) (cc h S 0) _ _ (h 1) (S 1) (S 1) (h 1 + S 1) (cc h S 1) _ _ (h 2) (S 2) (S 2) (h 2 + S 2) (cc h S 2) _ _ (h 3) (S 3) (S 3) (h 3 + S 3) (cc h S 3) _ _ (h 4) (S 4) (S 4) (h 4 + S 4) (cc h S 4) _ _ (h 5) (S 5) (S 5) (h 5 + S 5) (cc h S 5) _ _ (h 6) (S 6) (S 6) (h 6 + S 6) (cc h S 6) _ _ (h 7) (S 7) (S 7) (h 7 + S 7) (cc h S 7) _ _ (h 8) (S 8) (S 8) (h 8 + S 8) (cc h S 8) _ _ (h 9) (S 9) (S 9) (h 9 + S 9) (cc h S 9) _ _ (h 10) (S 10) (S 10) (h 10 + S 10) (cc h S 10) _ _ (h 11) (S 11) (S 11) (h 11 + S 11) (cc h S 11) _ _ (h 12) (S 12) (S 12) (h 12 + S 12) (cc h S 12) _ _ (h 13) (S 13) (S 13) (h 13 + S 13) (cc h S 13) _ _ (h 14) (S 14) (S 14) (h 14 + S 14) (cc h S 14) _ _ (h 15) (S 15) (S 15) (h 15 + S 15) (cc h S 15) _ _ run38a_ok run38b_ok run37 rfl (Nat.le_of_ble_eq_true rfl) rfl rfl (Nat.le_of_ble_eq_true rfl) rfl rfl (Nat.le_of_ble_eq_true rfl) rfl rfl (Nat.le_of_ble_eq_true rfl) rfl rfl (Nat.le_of_ble_eq_true rfl) rfl rfl (Nat.le_of_ble_eq_true rfl) rfl rfl (Nat.le_of_ble_eq_true rfl) rfl rfl (Nat.le_of_ble_eq_true rfl) rfl rfl (Nat.le_of_ble_eq_true rfl) rfl rfl (Nat.le_of_ble_eq_true rfl) rfl rfl (Nat.le_of_ble_eq_true rfl) rfl rfl (Nat.le_of_ble_eq_true rfl) rfl rfl (Nat.le_of_ble_eq_true rfl) rfl rfl (Nat.le_of_ble_eq_true rfl) rfl rfl (Nat.le_of_ble_eq_true rfl) rfl rfl (Nat.le_of_ble_eq_true rfl) rfl c43 hL c45 c46 (w1 (hh 0)) rfl (Nat.le_of_ble_eq_true rfl) (w1 (hS 0)) (wA (hh 0) (hS 0)) (wB (hh 0) (hS 0)) rfl rfl (w1 (hh 1)) rfl (Nat.le_of_ble_eq_true rfl) (w1 (hS 1)) (wA (hh 1) (hS 1)) (wC (cb 0) (hh 1) (hS 1)) rfl rfl (w1 (hh 2)) rfl (Nat.le_of_ble_eq_true rfl) (w1 (hS 2)) (wA (hh 2) (hS 2)) (wC (cb 1) (hh 2) (hS 2)) rfl rfl (w1 (hh 3)) rfl (Nat.le_of_ble_eq_true rfl) (w1 (hS 3)) (wA (hh 3) (hS 3)) (wC (cb 2) (hh 3) (hS 3)) rfl rfl (w1 (hh 4)) rfl (Nat.le_of_ble_eq_true rfl) (w1 (hS 4)) (wA (hh 4) (hS 4)) (wC (cb 3) (hh 4) (hS 4)) rfl rfl (w1 (hh 5)) rfl (Nat.le_of_ble_eq_true rfl) (w1 (hS 5)) (wA (hh 5) (hS 5)) (wC (cb 4) (hh 5) (hS 5)) rfl rfl (w1 (hh 6)) rfl (Nat.le_of_ble_eq_true rfl) (w1 (hS 6)) (wA (hh 6) (hS 6)) (wC (cb 5) (hh 6) (hS 6)) rfl rfl (w1 (hh 7)) rfl (Nat.le_of_ble_eq_true rfl) (w1 (hS 7)) (wA (hh 7) (hS 7)) (wC (cb 6) (hh 7) (hS 7)) rfl rfl (w1 (hh 8)) rfl (Nat.le_of_ble_eq_true rfl) (w1 (hS 8)) (wA (hh 8) (hS 8)) (wC (cb 7) (hh 8) (hS 8)) rfl rfl (w1 (hh 9)) rfl (Nat.le_of_ble_eq_true rfl) (w1 (hS 9)) (wA (hh 9) (hS 9)) (wC (cb 8) (hh 9) (hS 9)) rfl rfl (w1 (hh 10)) rfl (Nat.le_of_ble_eq_true rfl) (w1 (hS 10)) (wA (hh 10) (hS 10)) (wC (cb 9) (hh 10) (hS 10)) rfl rfl (w1 (hh 11)) rfl (Nat.le_of_ble_eq_true rfl) (w1 (hS 11)) (wA (hh 11) (hS 11)) (wC (cb 10) (hh 11) (hS 11)) rfl rfl (w1 (hh 12)) rfl (Nat.le_of_ble_eq_true rfl) (w1 (hS 12)) (wA (hh 12) (hS 12)) (wC (cb 11) (hh 12) (hS 12)) rfl rfl (w1 (hh 13)) rfl (Nat.le_of_ble_eq_true rfl) (w1 (hS 13)) (wA (hh 13) (hS 13)) (wC (cb 12) (hh 13) (hS 13)) rfl rfl (w1 (hh 14)) rfl (Nat.le_of_ble_eq_true rfl) (w1 (hS 14)) (wA (hh 14) (hS 14)) (wC (cb 13) (hh 14) (hS 14)) rfl rfl (w1 (hh 15)) rfl (Nat.le_of_ble_eq_true rfl) (w1 (hS 15)) (wA (hh 15) (hS 15)) (wC (cb 14) (hh 15) (hS 15)) rfl rfl
end Go.Proofs.Ytmfnldkiaodkpaa.Vm

namespace Go.Proofs.Ytmfnldkiaodkpaa.Vm
open Go Go.Proofs Go.Proofs.Ytmfnldkiaodkpaa
def evalF (l : List Int) (R : Int) (q : Nat) : Nat → Nat → Int → Int
  | 0, _, A => A
  | f + 1, m, A => if m = 0 then A else evalF l R q f (m - min m 16) ((A + n17 (fun i => (blk l (q - m) (min m 16)).getD i 0) % 1361129467683753853853498429727072845824) * R % p130)
theorem evalP_eq (l : List Int) (R : Int) (q : Nat) : ∀ (f m : Nat) (A : Int), m ≤ 16 * f → evalP l R q m A = evalF l R q f m A
  | 0, m, A, h => by
    have : m = 0 := by omega
    subst this
    rw [evalP, dif_pos rfl]; rfl
  | f + 1, m, A, h => by
    rw [evalP]
    unfold evalF
    by_cases h0 : m = 0
    · rw [dif_pos h0, if_pos h0]
    · rw [dif_neg h0, if_neg h0]
      exact evalP_eq l R q f _ _ (by omega)
end Go.Proofs.Ytmfnldkiaodkpaa.Vm
