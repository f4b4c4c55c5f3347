/- What functions of the program come to: parts of the walk (Fe). -/
import Derived.Test.YtkjbjgkjplmkhaaDoorFc
import Derived.Test.YtkjbjgkjplmkhaaDoorFd
set_option linter.unusedSimpArgs false
set_option linter.unusedVariables false
namespace Go.Proofs.YtkjbjgkjplmkhaaDoor.Vm
open Go Go.Proofs Go.Proofs.YtkjbjgkjplmkhaaDoor
theorem mulb {K x y : Int} (hx : 0 ≤ x ∧ x < K) (hy : 0 ≤ y ∧ y < K) : 0 ≤ x * y ∧ x * y ≤ (K - 1) * (K - 1) :=
  ⟨Int.mul_nonneg hx.1 hy.1, Int.mul_le_mul (by omega) (by omega) hy.1 (by omega)⟩
theorem mul64_split {a b x1 x3 x5 x7 : Int} (h1 : a = x3 * 4294967296 + x1) (h2 : b = x7 * 4294967296 + x5) : a * b = x3 * x7 * 18446744073709551616 + (x3 * x5 + x1 * x7) * 4294967296 + x1 * x5 := by
  subst h1; subst h2; grind
theorem mask32 {a : Int} (h1 : 0 ≤ a) (h2 : a < 18446744073709551616) : bAnd .u64 a 4294967295 = a % 4294967296 := by
  rw [bAnd64 h1 h2 (by decide) (by decide)]
  have : a.toNat &&& (4294967295 : Int).toNat = a.toNat % 4294967296 := Nat.and_two_pow_sub_one_eq_mod a.toNat 32
  rw [this]; omega
theorem mul64_hi {p00 p10 p01 p11 x9 x11 x13 x15 x17 x19 x21 x23 x25 x27 x29 x31 : Int}
    (b00 : 0 ≤ p00 ∧ p00 ≤ 18446744065119617025) (b10 : 0 ≤ p10 ∧ p10 ≤ 18446744065119617025) (b01 : 0 ≤ p01 ∧ p01 ≤ 18446744065119617025) (b11 : 0 ≤ p11 ∧ p11 ≤ 18446744065119617025)
    (h8 : p00 % 18446744073709551616 = x9) (h10 : p10 % 18446744073709551616 = x11) (h12 : x9 / 4294967296 = x13) (h14 : (x11 + x13) % 18446744073709551616 = x15) (h16 : x15 % 4294967296 = x17) (h18 : x15 / 4294967296 = x19)
    (h20 : p01 % 18446744073709551616 = x21) (h22 : (x17 + x21) % 18446744073709551616 = x23) (h24 : p11 % 18446744073709551616 = x25) (h26 : (x25 + x19) % 18446744073709551616 = x27) (h28 : x23 / 4294967296 = x29) (h30 : (x27 + x29) % 18446744073709551616 = x31) :
    (p11 * 18446744073709551616 + (p10 + p01) * 4294967296 + p00) / 18446744073709551616 = x31 := by
  have e9 : x9 = p00 := by omega
  have e11 : x11 = p10 := by omega
  have e21 : x21 = p01 := by omega
  have e25 : x25 = p11 := by omega
  subst e9; subst e11; subst e21; subst e25
  clear h8 h10 h20 h24
  have e15 : x15 = x11 + x13 := by omega
  have e23 : x23 = x17 + x21 := by omega
  obtain ⟨m9, f9⟩ : ∃ z : Int, x9 % 4294967296 = z := ⟨_, rfl⟩
  obtain ⟨m23, f23⟩ : ∃ z : Int, x23 % 4294967296 = z := ⟨_, rfl⟩
  have k9 : x9 = 4294967296 * x13 + m9 ∧ 0 ≤ m9 ∧ m9 < 4294967296 := by omega
  have k15 : x15 = 4294967296 * x19 + x17 ∧ 0 ≤ x17 ∧ x17 < 4294967296 := by omega
  have k23 : x23 = 4294967296 * x29 + m23 ∧ 0 ≤ m23 ∧ m23 < 4294967296 := by omega
  have b1 : 0 ≤ x19 ∧ x19 < 4294967296 := by omega
  have b2 : 0 ≤ x29 ∧ x29 < 4294967297 := by omega
  clear f9 f23 h12 h14 h16 h18 h22 h28
  have e27 : x27 = x25 + x19 := by omega
  clear h26
  have e : x25 * 18446744073709551616 + (x11 + x21) * 4294967296 + x9 = 18446744073709551616 * (x25 + x19 + x29) + (4294967296 * m23 + m9) := by omega
  rw [e]
  have : x25 + x19 + x29 < 18446744073709551616 := by
    have : 18446744073709551616 * (x25 + x19 + x29) ≤ x25 * 18446744073709551616 + (x11 + x21) * 4294967296 + x9 := by omega
    omega
  omega
/-- Mul64: the two words of a product. -/
theorem mul64_ok {a b : Int} (ha : U64 a) (hb : U64 b) : PureF Tryd.prog 46 [(.c (.int .u64 a)), (.c (.int .u64 b))] (.tup [(.c (.int .u64 (a * b / 18446744073709551616))), (.c (.int .u64 (a * b % 18446744073709551616)))]) := by
  have m1 := mask32 ha.1 ha.2
  have m2 := mask32 hb.1 hb.2
  unfold U64 at ha hb
  obtain ⟨x1, h0⟩ : ∃ z : Int, bAnd IntKind.u64 a 4294967295 = z := ⟨_, rfl⟩
  have r1 : 0 ≤ x1 ∧ x1 < 4294967296 := by omega
  obtain ⟨x3, h2⟩ : ∃ z : Int, a / 4294967296 = z := ⟨_, rfl⟩
  have r3 : 0 ≤ x3 ∧ x3 < 4294967296 := by omega
  obtain ⟨x5, h4⟩ : ∃ z : Int, bAnd IntKind.u64 b 4294967295 = z := ⟨_, rfl⟩
  have r5 : 0 ≤ x5 ∧ x5 < 4294967296 := by omega
  obtain ⟨x7, h6⟩ : ∃ z : Int, b / 4294967296 = z := ⟨_, rfl⟩
  have r7 : 0 ≤ x7 ∧ x7 < 4294967296 := by omega
  obtain ⟨x9, h8⟩ : ∃ z : Int, x1 * x5 % 18446744073709551616 = z := ⟨_, rfl⟩
  obtain ⟨x11, h10⟩ : ∃ z : Int, x3 * x5 % 18446744073709551616 = z := ⟨_, rfl⟩
  obtain ⟨x13, h12⟩ : ∃ z : Int, x9 / 4294967296 = z := ⟨_, rfl⟩
  obtain ⟨x15, h14⟩ : ∃ z : Int, (x11 + x13) % 18446744073709551616 = z := ⟨_, rfl⟩
  obtain ⟨x17, h16⟩ : ∃ z : Int, bAnd IntKind.u64 x15 4294967295 = z := ⟨_, rfl⟩
  have m17 : x15 % 4294967296 = x17 := (mask32 (mod64 h14).1 (mod64 h14).2).symm.trans h16
  obtain ⟨x19, h18⟩ : ∃ z : Int, x15 / 4294967296 = z := ⟨_, rfl⟩
  obtain ⟨x21, h20⟩ : ∃ z : Int, x1 * x7 % 18446744073709551616 = z := ⟨_, rfl⟩
  obtain ⟨x23, h22⟩ : ∃ z : Int, (x17 + x21) % 18446744073709551616 = z := ⟨_, rfl⟩
  obtain ⟨x25, h24⟩ : ∃ z : Int, x3 * x7 % 18446744073709551616 = z := ⟨_, rfl⟩
  obtain ⟨x27, h26⟩ : ∃ z : Int, (x25 + x19) % 18446744073709551616 = z := ⟨_, rfl⟩
  obtain ⟨x29, h28⟩ : ∃ z : Int, x23 / 4294967296 = z := ⟨_, rfl⟩
  obtain ⟨x31, h30⟩ : ∃ z : Int, (x27 + x29) % 18446744073709551616 = z := ⟨_, rfl⟩
  obtain ⟨x33, h32⟩ : ∃ z : Int, a * b % 18446744073709551616 = z := ⟨_, rfl⟩
  have run := run42 a b x1 x3 x5 x7 x9 x11 x13 x15 x17 x19 x21 x23 x25 x27 x29 x31 x33 h0 h2 h4 h6 h8 h10 h12 h14 h16 h18 h20 h22 h24 h26 h28 h30 h32
  have sp := mul64_split (a := a) (b := b) (x1 := x1) (x3 := x3) (x5 := x5) (x7 := x7) (by omega) (by omega)
  have e := mul64_hi (mulb r1 r5) (mulb r3 r5) (mulb r1 r7) (mulb r3 r7) h8 h10 h12 h14 m17 h18 h20 h22 h24 h26 h28 h30
  rw [← sp] at e
  rw [← e, ← h32] at run
  exact run
/-- Products' sums, by so many times 2^104. -/
def Bd (k w : Int) : Prop := 0 ≤ w ∧ w < k * 20282409603651670423947251286016 + 1
theorem bd0 : Bd 0 0 := by unfold Bd; decide
theorem Bd.add {k l w p : Int} (h : Bd k w) (h' : Bd l p) : Bd (k + l) (w + p) := by
  unfold Bd at *; omega
theorem prod1 {a b : Int} (ha : L52 a) (hb : L52 b) : Bd 1 (a * b) := by
  have := mulb ha hb
  unfold Bd; omega
theorem mul19 {a x : Int} (ha : L52 a) (h : 19 * a % 18446744073709551616 = x) : x = 19 * a := by unfold L52 at ha; omega
theorem prod19 {a b x : Int} (ha : L52 a) (hb : L52 b) (h : x = 19 * a) : Bd 19 (x * b) := by
  have := mulb ha hb
  subst h
  rw [Int.mul_assoc]
  unfold Bd; omega
theorem u19 {a x : Int} (ha : L52 a) (h : x = 19 * a) : U64 x := by unfold L52 at ha; unfold U64; omega
theorem wd_eq {w p x4 x7 x9 x11 x13 x15 : Int} (hw : 0 ≤ w) (hp : 0 ≤ p) (hs : w + p < 340282366920938463463374607431768211456) (h3 : w % 18446744073709551616 = x4) (h6 : (x4 + p % 18446744073709551616 + 0) % 18446744073709551616 = x7) (h8 : (x4 + p % 18446744073709551616 + 0) / 18446744073709551616 = x9)
    (h10 : w / 18446744073709551616 = x11) (h12 : (x11 + p / 18446744073709551616) % 18446744073709551616 = x13) (h14 : (x13 + x9) % 18446744073709551616 = x15) : [x15, x7] = W.wd (w + p) := by
  have a : x15 = (w + p) / 18446744073709551616 := by omega
  have b : x7 = (w + p) % 18446744073709551616 := by omega
  rw [a, b]; rfl
/-- more: a product more. -/
theorem more_bd {k l w a b : Int} (hw : Bd k w) (ha : U64 a) (hb : U64 b) (hp : Bd l (a * b)) (hk : k + l ≤ 100) : PureF Tryd.prog 38 [(.aggi .u64 (W.wd w)), (.c (.int .u64 a)), (.c (.int .u64 b))] (.aggi .u64 (W.wd (w + a * b))) := by
  have c2 := mul64_ok ha hb
  unfold Bd at hw hp
  generalize a * b = p at *
  obtain ⟨x4, h3⟩ : ∃ z : Int, w % 18446744073709551616 = z := ⟨_, rfl⟩
  obtain ⟨x7, h6⟩ : ∃ z : Int, (x4 + p % 18446744073709551616 + 0) % 18446744073709551616 = z := ⟨_, rfl⟩
  obtain ⟨x9, h8⟩ : ∃ z : Int, (x4 + p % 18446744073709551616 + 0) / 18446744073709551616 = z := ⟨_, rfl⟩
  obtain ⟨x11, h10⟩ : ∃ z : Int, w / 18446744073709551616 = z := ⟨_, rfl⟩
  obtain ⟨x13, h12⟩ : ∃ z : Int, (x11 + p / 18446744073709551616) % 18446744073709551616 = z := ⟨_, rfl⟩
  obtain ⟨x15, h14⟩ : ∃ z : Int, (x13 + x9) % 18446744073709551616 = z := ⟨_, rfl⟩
  have e := wd_eq hw.1 hp.1 (by omega) h3 h6 h8 h10 h12 h14
  rw [← e]
  exact run38 w a b _ _ x4 x7 x9 x11 x13 x15 c2 h3 ⟨by omega, by omega, by omega, by omega, by decide, by decide⟩ h6 h8 h10 h12 h14
theorem over_ok {k w x71 x73 x75 x77 x79 : Int} (hw : Bd k w) (hk : k ≤ 100) (h70 : w / 18446744073709551616 = x71) (h72 : x71 * 8192 % 18446744073709551616 = x73) (h74 : w % 18446744073709551616 = x75) (h76 : x75 / 2251799813685248 = x77) (h78 : bOr IntKind.u64 x73 x77 = x79) : x79 = w / 2251799813685248 := by
  unfold Bd at hw
  have e73 : x73 = x71 * 8192 := by omega
  have b77 : 0 ≤ x77 ∧ x77 < 8192 := by omega
  have b71 : 0 ≤ x71 ∧ x71 < 1099511627776000 := by omega
  have o := or64_add (a := x77) (b := x73) 13 b77.1 (by omega) (by omega) (by omega) (by omega)
  have c : bOr IntKind.u64 x73 x77 = bOr IntKind.u64 x77 x73 := by unfold bOr; rw [BitVec.or_comm]
  rw [c, o] at h78
  omega
theorem low_ok {w x81 x83 : Int} (h80 : w % 18446744073709551616 = x81) (m : x81 % 2251799813685248 = x83) : x83 = w % 2251799813685248 := by omega
theorem sum_ok {k l w u a b x : Int} (_hw : Bd k w) (hu : Bd l u) (hl : l ≤ 100) (ha : a = w % 2251799813685248) (hb : b = u / 2251799813685248) (h : (a + b) % 18446744073709551616 = x) : x = w % 2251799813685248 + u / 2251799813685248 := by
  unfold Bd at hu; omega
theorem sum19_ok {k l w u a b b' x : Int} (_hw : Bd k w) (hu : Bd l u) (hl : l ≤ 23) (ha : a = w % 2251799813685248) (hb : b = u / 2251799813685248) (h0 : 19 * b % 18446744073709551616 = b') (h : (a + b') % 18446744073709551616 = x) : x = w % 2251799813685248 + u / 2251799813685248 * 19 := by
  unfold Bd at hu; omega
theorem L52_u {x y z : Int} (hy : U64 y) (h : x % 2251799813685248 + y / 2251799813685248 * 19 = z) : L52 z := by unfold L52; unfold U64 at hy; omega
theorem L52_u' {x y z : Int} (hy : U64 y) (h : x % 2251799813685248 + y / 2251799813685248 = z) : L52 z := by unfold L52; unfold U64 at hy; omega
theorem mulv (a0 a1 a2 a3 a4 b0 b1 b2 b3 b4 : Int) :
    valE (0 + a0 * b0 + 19 * a1 * b4 + 19 * a2 * b3 + 19 * a3 * b2 + 19 * a4 * b1) (0 + a0 * b1 + a1 * b0 + 19 * a2 * b4 + 19 * a3 * b3 + 19 * a4 * b2) (0 + a0 * b2 + a1 * b1 + a2 * b0 + 19 * a3 * b4 + 19 * a4 * b3) (0 + a0 * b3 + a1 * b2 + a2 * b1 + a3 * b0 + 19 * a4 * b4) (0 + a0 * b4 + a1 * b3 + a2 * b2 + a3 * b1 + a4 * b0)
      = valE a0 a1 a2 a3 a4 * valE b0 b1 b2 b3 b4 - pP * valE (a1 * b4 + a2 * b3 + a3 * b2 + a4 * b1) (a2 * b4 + a3 * b3 + a4 * b2) (a3 * b4 + a4 * b3) (a4 * b4) 0 := by
  unfold valE pP
  grind
theorem carry_f {x0 x1 x2 x3 x4 y0 y1 y2 y3 y4 : Int} (h0 : x0 % 2251799813685248 + x4 / 2251799813685248 * 19 = y0) (h1 : x1 % 2251799813685248 + x0 / 2251799813685248 = y1) (h2 : x2 % 2251799813685248 + x1 / 2251799813685248 = y2) (h3 : x3 % 2251799813685248 + x2 / 2251799813685248 = y3) (h4 : x4 % 2251799813685248 + x3 / 2251799813685248 = y4) :
    valE y0 y1 y2 y3 y4 % pP = valE x0 x1 x2 x3 x4 % pP := by
  rw [← h0, ← h1, ← h2, ← h3, ← h4, carry_val, Int.sub_mul_emod_self_left]
/-- Mul: the product. -/
theorem mul_el {a b : W.El} (ha : a.ok) (hb : b.ok) : ∃ c : W.El, PureF Tryd.prog 11 [(.aggi .u64 (W.el a)), (.aggi .u64 (W.el b))] (.aggi .u64 (W.el c)) ∧ c.ok ∧ c.f = a.f * b.f := by
  obtain ⟨a0, a1, a2, a3, a4⟩ := a
  obtain ⟨b0, b1, b2, b3, b4⟩ := b
  obtain ⟨g0, g1, g2, g3, g4⟩ := ha
  obtain ⟨k0, k1, k2, k3, k4⟩ := hb
  dsimp only at g0 g1 g2 g3 g4 k0 k1 k2 k3 k4
  obtain ⟨r38_0w, v_r38_0w⟩ : ∃ z : Int, 0 + a0 * b0 = z := ⟨_, rfl⟩
  have B_r38_0w : Bd 1 r38_0w := v_r38_0w ▸ (Bd.add bd0 (prod1 g0 k0) : Bd (0 + 1) _)
  have c1 : PureF Tryd.prog 38 [(.aggi .u64 [0, 0]), (.c (.int .u64 a0)), (.c (.int .u64 b0))] (.aggi .u64 (W.wd r38_0w)) := by subst v_r38_0w; exact more_bd bd0 g0.u k0.u (prod1 g0 k0) (by decide)
  obtain ⟨r38_2w, v_r38_2w⟩ : ∃ z : Int, 0 + a0 * b1 = z := ⟨_, rfl⟩
  have B_r38_2w : Bd 1 r38_2w := v_r38_2w ▸ (Bd.add bd0 (prod1 g0 k1) : Bd (0 + 1) _)
  have c3 : PureF Tryd.prog 38 [(.aggi .u64 [0, 0]), (.c (.int .u64 a0)), (.c (.int .u64 b1))] (.aggi .u64 (W.wd r38_2w)) := by subst v_r38_2w; exact more_bd bd0 g0.u k1.u (prod1 g0 k1) (by decide)
  obtain ⟨r38_4w, v_r38_4w⟩ : ∃ z : Int, 0 + a0 * b2 = z := ⟨_, rfl⟩
  have B_r38_4w : Bd 1 r38_4w := v_r38_4w ▸ (Bd.add bd0 (prod1 g0 k2) : Bd (0 + 1) _)
  have c5 : PureF Tryd.prog 38 [(.aggi .u64 [0, 0]), (.c (.int .u64 a0)), (.c (.int .u64 b2))] (.aggi .u64 (W.wd r38_4w)) := by subst v_r38_4w; exact more_bd bd0 g0.u k2.u (prod1 g0 k2) (by decide)
  obtain ⟨r38_6w, v_r38_6w⟩ : ∃ z : Int, 0 + a0 * b3 = z := ⟨_, rfl⟩
  have B_r38_6w : Bd 1 r38_6w := v_r38_6w ▸ (Bd.add bd0 (prod1 g0 k3) : Bd (0 + 1) _)
  have c7 : PureF Tryd.prog 38 [(.aggi .u64 [0, 0]), (.c (.int .u64 a0)), (.c (.int .u64 b3))] (.aggi .u64 (W.wd r38_6w)) := by subst v_r38_6w; exact more_bd bd0 g0.u k3.u (prod1 g0 k3) (by decide)
  obtain ⟨r38_8w, v_r38_8w⟩ : ∃ z : Int, 0 + a0 * b4 = z := ⟨_, rfl⟩
  have B_r38_8w : Bd 1 r38_8w := v_r38_8w ▸ (Bd.add bd0 (prod1 g0 k4) : Bd (0 + 1) _)
  have c9 : PureF Tryd.prog 38 [(.aggi .u64 [0, 0]), (.c (.int .u64 a0)), (.c (.int .u64 b4))] (.aggi .u64 (W.wd r38_8w)) := by subst v_r38_8w; exact more_bd bd0 g0.u k4.u (prod1 g0 k4) (by decide)
  obtain ⟨r38_10w, v_r38_10w⟩ : ∃ z : Int, r38_2w + a1 * b0 = z := ⟨_, rfl⟩
  have B_r38_10w : Bd 2 r38_10w := v_r38_10w ▸ (Bd.add B_r38_2w (prod1 g1 k0) : Bd (1 + 1) _)
  have c11 : PureF Tryd.prog 38 [(.aggi .u64 [(r38_2w / 18446744073709551616), (r38_2w % 18446744073709551616)]), (.c (.int .u64 a1)), (.c (.int .u64 b0))] (.aggi .u64 (W.wd r38_10w)) := by subst v_r38_10w; exact more_bd B_r38_2w g1.u k0.u (prod1 g1 k0) (by decide)
  obtain ⟨r38_12w, v_r38_12w⟩ : ∃ z : Int, r38_4w + a1 * b1 = z := ⟨_, rfl⟩
  have B_r38_12w : Bd 2 r38_12w := v_r38_12w ▸ (Bd.add B_r38_4w (prod1 g1 k1) : Bd (1 + 1) _)
  have c13 : PureF Tryd.prog 38 [(.aggi .u64 [(r38_4w / 18446744073709551616), (r38_4w % 18446744073709551616)]), (.c (.int .u64 a1)), (.c (.int .u64 b1))] (.aggi .u64 (W.wd r38_12w)) := by subst v_r38_12w; exact more_bd B_r38_4w g1.u k1.u (prod1 g1 k1) (by decide)
  obtain ⟨r38_14w, v_r38_14w⟩ : ∃ z : Int, r38_6w + a1 * b2 = z := ⟨_, rfl⟩
  have B_r38_14w : Bd 2 r38_14w := v_r38_14w ▸ (Bd.add B_r38_6w (prod1 g1 k2) : Bd (1 + 1) _)
  have c15 : PureF Tryd.prog 38 [(.aggi .u64 [(r38_6w / 18446744073709551616), (r38_6w % 18446744073709551616)]), (.c (.int .u64 a1)), (.c (.int .u64 b2))] (.aggi .u64 (W.wd r38_14w)) := by subst v_r38_14w; exact more_bd B_r38_6w g1.u k2.u (prod1 g1 k2) (by decide)
  obtain ⟨r38_16w, v_r38_16w⟩ : ∃ z : Int, r38_8w + a1 * b3 = z := ⟨_, rfl⟩
  have B_r38_16w : Bd 2 r38_16w := v_r38_16w ▸ (Bd.add B_r38_8w (prod1 g1 k3) : Bd (1 + 1) _)
  have c17 : PureF Tryd.prog 38 [(.aggi .u64 [(r38_8w / 18446744073709551616), (r38_8w % 18446744073709551616)]), (.c (.int .u64 a1)), (.c (.int .u64 b3))] (.aggi .u64 (W.wd r38_16w)) := by subst v_r38_16w; exact more_bd B_r38_8w g1.u k3.u (prod1 g1 k3) (by decide)
  obtain ⟨x19, h18⟩ : ∃ z : Int, 19 * a1 % 18446744073709551616 = z := ⟨_, rfl⟩
  have q_x19 := mul19 g1 h18
  obtain ⟨r38_20w, v_r38_20w⟩ : ∃ z : Int, r38_0w + x19 * b4 = z := ⟨_, rfl⟩
  have B_r38_20w : Bd 20 r38_20w := v_r38_20w ▸ (Bd.add B_r38_0w (prod19 g1 k4 q_x19) : Bd (1 + 19) _)
  have c21 : PureF Tryd.prog 38 [(.aggi .u64 [(r38_0w / 18446744073709551616), (r38_0w % 18446744073709551616)]), (.c (.int .u64 x19)), (.c (.int .u64 b4))] (.aggi .u64 (W.wd r38_20w)) := by subst v_r38_20w; exact more_bd B_r38_0w (u19 g1 q_x19) k4.u (prod19 g1 k4 q_x19) (by decide)
  obtain ⟨r38_22w, v_r38_22w⟩ : ∃ z : Int, r38_12w + a2 * b0 = z := ⟨_, rfl⟩
  have B_r38_22w : Bd 3 r38_22w := v_r38_22w ▸ (Bd.add B_r38_12w (prod1 g2 k0) : Bd (2 + 1) _)
  have c23 : PureF Tryd.prog 38 [(.aggi .u64 [(r38_12w / 18446744073709551616), (r38_12w % 18446744073709551616)]), (.c (.int .u64 a2)), (.c (.int .u64 b0))] (.aggi .u64 (W.wd r38_22w)) := by subst v_r38_22w; exact more_bd B_r38_12w g2.u k0.u (prod1 g2 k0) (by decide)
  obtain ⟨r38_24w, v_r38_24w⟩ : ∃ z : Int, r38_14w + a2 * b1 = z := ⟨_, rfl⟩
  have B_r38_24w : Bd 3 r38_24w := v_r38_24w ▸ (Bd.add B_r38_14w (prod1 g2 k1) : Bd (2 + 1) _)
  have c25 : PureF Tryd.prog 38 [(.aggi .u64 [(r38_14w / 18446744073709551616), (r38_14w % 18446744073709551616)]), (.c (.int .u64 a2)), (.c (.int .u64 b1))] (.aggi .u64 (W.wd r38_24w)) := by subst v_r38_24w; exact more_bd B_r38_14w g2.u k1.u (prod1 g2 k1) (by decide)
  obtain ⟨r38_26w, v_r38_26w⟩ : ∃ z : Int, r38_16w + a2 * b2 = z := ⟨_, rfl⟩
  have B_r38_26w : Bd 3 r38_26w := v_r38_26w ▸ (Bd.add B_r38_16w (prod1 g2 k2) : Bd (2 + 1) _)
  have c27 : PureF Tryd.prog 38 [(.aggi .u64 [(r38_16w / 18446744073709551616), (r38_16w % 18446744073709551616)]), (.c (.int .u64 a2)), (.c (.int .u64 b2))] (.aggi .u64 (W.wd r38_26w)) := by subst v_r38_26w; exact more_bd B_r38_16w g2.u k2.u (prod1 g2 k2) (by decide)
  obtain ⟨x29, h28⟩ : ∃ z : Int, 19 * a2 % 18446744073709551616 = z := ⟨_, rfl⟩
  have q_x29 := mul19 g2 h28
  obtain ⟨r38_30w, v_r38_30w⟩ : ∃ z : Int, r38_20w + x29 * b3 = z := ⟨_, rfl⟩
  have B_r38_30w : Bd 39 r38_30w := v_r38_30w ▸ (Bd.add B_r38_20w (prod19 g2 k3 q_x29) : Bd (20 + 19) _)
  have c31 : PureF Tryd.prog 38 [(.aggi .u64 [(r38_20w / 18446744073709551616), (r38_20w % 18446744073709551616)]), (.c (.int .u64 x29)), (.c (.int .u64 b3))] (.aggi .u64 (W.wd r38_30w)) := by subst v_r38_30w; exact more_bd B_r38_20w (u19 g2 q_x29) k3.u (prod19 g2 k3 q_x29) (by decide)
  obtain ⟨x33, h32⟩ : ∃ z : Int, 19 * a2 % 18446744073709551616 = z := ⟨_, rfl⟩
  have q_x33 := mul19 g2 h32
  obtain ⟨r38_34w, v_r38_34w⟩ : ∃ z : Int, r38_10w + x33 * b4 = z := ⟨_, rfl⟩
  have B_r38_34w : Bd 21 r38_34w := v_r38_34w ▸ (Bd.add B_r38_10w (prod19 g2 k4 q_x33) : Bd (2 + 19) _)
  have c35 : PureF Tryd.prog 38 [(.aggi .u64 [(r38_10w / 18446744073709551616), (r38_10w % 18446744073709551616)]), (.c (.int .u64 x33)), (.c (.int .u64 b4))] (.aggi .u64 (W.wd r38_34w)) := by subst v_r38_34w; exact more_bd B_r38_10w (u19 g2 q_x33) k4.u (prod19 g2 k4 q_x33) (by decide)
  obtain ⟨r38_36w, v_r38_36w⟩ : ∃ z : Int, r38_24w + a3 * b0 = z := ⟨_, rfl⟩
  have B_r38_36w : Bd 4 r38_36w := v_r38_36w ▸ (Bd.add B_r38_24w (prod1 g3 k0) : Bd (3 + 1) _)
  have c37 : PureF Tryd.prog 38 [(.aggi .u64 [(r38_24w / 18446744073709551616), (r38_24w % 18446744073709551616)]), (.c (.int .u64 a3)), (.c (.int .u64 b0))] (.aggi .u64 (W.wd r38_36w)) := by subst v_r38_36w; exact more_bd B_r38_24w g3.u k0.u (prod1 g3 k0) (by decide)
  obtain ⟨r38_38w, v_r38_38w⟩ : ∃ z : Int, r38_26w + a3 * b1 = z := ⟨_, rfl⟩
  have B_r38_38w : Bd 4 r38_38w := v_r38_38w ▸ (Bd.add B_r38_26w (prod1 g3 k1) : Bd (3 + 1) _)
  have c39 : PureF Tryd.prog 38 [(.aggi .u64 [(r38_26w / 18446744073709551616), (r38_26w % 18446744073709551616)]), (.c (.int .u64 a3)), (.c (.int .u64 b1))] (.aggi .u64 (W.wd r38_38w)) := by subst v_r38_38w; exact more_bd B_r38_26w g3.u k1.u (prod1 g3 k1) (by decide)
  obtain ⟨x41, h40⟩ : ∃ z : Int, 19 * a3 % 18446744073709551616 = z := ⟨_, rfl⟩
  have q_x41 := mul19 g3 h40
  obtain ⟨r38_42w, v_r38_42w⟩ : ∃ z : Int, r38_30w + x41 * b2 = z := ⟨_, rfl⟩
  have B_r38_42w : Bd 58 r38_42w := v_r38_42w ▸ (Bd.add B_r38_30w (prod19 g3 k2 q_x41) : Bd (39 + 19) _)
  have c43 : PureF Tryd.prog 38 [(.aggi .u64 [(r38_30w / 18446744073709551616), (r38_30w % 18446744073709551616)]), (.c (.int .u64 x41)), (.c (.int .u64 b2))] (.aggi .u64 (W.wd r38_42w)) := by subst v_r38_42w; exact more_bd B_r38_30w (u19 g3 q_x41) k2.u (prod19 g3 k2 q_x41) (by decide)
  obtain ⟨x45, h44⟩ : ∃ z : Int, 19 * a3 % 18446744073709551616 = z := ⟨_, rfl⟩
  have q_x45 := mul19 g3 h44
  obtain ⟨r38_46w, v_r38_46w⟩ : ∃ z : Int, r38_34w + x45 * b3 = z := ⟨_, rfl⟩
  have B_r38_46w : Bd 40 r38_46w := v_r38_46w ▸ (Bd.add B_r38_34w (prod19 g3 k3 q_x45) : Bd (21 + 19) _)
  have c47 : PureF Tryd.prog 38 [(.aggi .u64 [(r38_34w / 18446744073709551616), (r38_34w % 18446744073709551616)]), (.c (.int .u64 x45)), (.c (.int .u64 b3))] (.aggi .u64 (W.wd r38_46w)) := by subst v_r38_46w; exact more_bd B_r38_34w (u19 g3 q_x45) k3.u (prod19 g3 k3 q_x45) (by decide)
  obtain ⟨x49, h48⟩ : ∃ z : Int, 19 * a3 % 18446744073709551616 = z := ⟨_, rfl⟩
  have q_x49 := mul19 g3 h48
  obtain ⟨r38_50w, v_r38_50w⟩ : ∃ z : Int, r38_22w + x49 * b4 = z := ⟨_, rfl⟩
  have B_r38_50w : Bd 22 r38_50w := v_r38_50w ▸ (Bd.add B_r38_22w (prod19 g3 k4 q_x49) : Bd (3 + 19) _)
  have c51 : PureF Tryd.prog 38 [(.aggi .u64 [(r38_22w / 18446744073709551616), (r38_22w % 18446744073709551616)]), (.c (.int .u64 x49)), (.c (.int .u64 b4))] (.aggi .u64 (W.wd r38_50w)) := by subst v_r38_50w; exact more_bd B_r38_22w (u19 g3 q_x49) k4.u (prod19 g3 k4 q_x49) (by decide)
  obtain ⟨r38_52w, v_r38_52w⟩ : ∃ z : Int, r38_38w + a4 * b0 = z := ⟨_, rfl⟩
  have B_r38_52w : Bd 5 r38_52w := v_r38_52w ▸ (Bd.add B_r38_38w (prod1 g4 k0) : Bd (4 + 1) _)
  have c53 : PureF Tryd.prog 38 [(.aggi .u64 [(r38_38w / 18446744073709551616), (r38_38w % 18446744073709551616)]), (.c (.int .u64 a4)), (.c (.int .u64 b0))] (.aggi .u64 (W.wd r38_52w)) := by subst v_r38_52w; exact more_bd B_r38_38w g4.u k0.u (prod1 g4 k0) (by decide)
  obtain ⟨x55, h54⟩ : ∃ z : Int, 19 * a4 % 18446744073709551616 = z := ⟨_, rfl⟩
  have q_x55 := mul19 g4 h54
  obtain ⟨r38_56w, v_r38_56w⟩ : ∃ z : Int, r38_42w + x55 * b1 = z := ⟨_, rfl⟩
  have B_r38_56w : Bd 77 r38_56w := v_r38_56w ▸ (Bd.add B_r38_42w (prod19 g4 k1 q_x55) : Bd (58 + 19) _)
  have c57 : PureF Tryd.prog 38 [(.aggi .u64 [(r38_42w / 18446744073709551616), (r38_42w % 18446744073709551616)]), (.c (.int .u64 x55)), (.c (.int .u64 b1))] (.aggi .u64 (W.wd r38_56w)) := by subst v_r38_56w; exact more_bd B_r38_42w (u19 g4 q_x55) k1.u (prod19 g4 k1 q_x55) (by decide)
  obtain ⟨x59, h58⟩ : ∃ z : Int, 19 * a4 % 18446744073709551616 = z := ⟨_, rfl⟩
  have q_x59 := mul19 g4 h58
  obtain ⟨r38_60w, v_r38_60w⟩ : ∃ z : Int, r38_46w + x59 * b2 = z := ⟨_, rfl⟩
  have B_r38_60w : Bd 59 r38_60w := v_r38_60w ▸ (Bd.add B_r38_46w (prod19 g4 k2 q_x59) : Bd (40 + 19) _)
  have c61 : PureF Tryd.prog 38 [(.aggi .u64 [(r38_46w / 18446744073709551616), (r38_46w % 18446744073709551616)]), (.c (.int .u64 x59)), (.c (.int .u64 b2))] (.aggi .u64 (W.wd r38_60w)) := by subst v_r38_60w; exact more_bd B_r38_46w (u19 g4 q_x59) k2.u (prod19 g4 k2 q_x59) (by decide)
  obtain ⟨x63, h62⟩ : ∃ z : Int, 19 * a4 % 18446744073709551616 = z := ⟨_, rfl⟩
  have q_x63 := mul19 g4 h62
  obtain ⟨r38_64w, v_r38_64w⟩ : ∃ z : Int, r38_50w + x63 * b3 = z := ⟨_, rfl⟩
  have B_r38_64w : Bd 41 r38_64w := v_r38_64w ▸ (Bd.add B_r38_50w (prod19 g4 k3 q_x63) : Bd (22 + 19) _)
  have c65 : PureF Tryd.prog 38 [(.aggi .u64 [(r38_50w / 18446744073709551616), (r38_50w % 18446744073709551616)]), (.c (.int .u64 x63)), (.c (.int .u64 b3))] (.aggi .u64 (W.wd r38_64w)) := by subst v_r38_64w; exact more_bd B_r38_50w (u19 g4 q_x63) k3.u (prod19 g4 k3 q_x63) (by decide)
  obtain ⟨x67, h66⟩ : ∃ z : Int, 19 * a4 % 18446744073709551616 = z := ⟨_, rfl⟩
  have q_x67 := mul19 g4 h66
  obtain ⟨r38_68w, v_r38_68w⟩ : ∃ z : Int, r38_36w + x67 * b4 = z := ⟨_, rfl⟩
  have B_r38_68w : Bd 23 r38_68w := v_r38_68w ▸ (Bd.add B_r38_36w (prod19 g4 k4 q_x67) : Bd (4 + 19) _)
  have c69 : PureF Tryd.prog 38 [(.aggi .u64 [(r38_36w / 18446744073709551616), (r38_36w % 18446744073709551616)]), (.c (.int .u64 x67)), (.c (.int .u64 b4))] (.aggi .u64 (W.wd r38_68w)) := by subst v_r38_68w; exact more_bd B_r38_36w (u19 g4 q_x67) k4.u (prod19 g4 k4 q_x67) (by decide)
  obtain ⟨x71, h70⟩ : ∃ z : Int, r38_56w / 18446744073709551616 = z := ⟨_, rfl⟩
  obtain ⟨x73, h72⟩ : ∃ z : Int, x71 * 8192 % 18446744073709551616 = z := ⟨_, rfl⟩
  obtain ⟨x75, h74⟩ : ∃ z : Int, r38_56w % 18446744073709551616 = z := ⟨_, rfl⟩
  obtain ⟨x77, h76⟩ : ∃ z : Int, x75 / 2251799813685248 = z := ⟨_, rfl⟩
  obtain ⟨x79, h78⟩ : ∃ z : Int, bOr IntKind.u64 x73 x77 = z := ⟨_, rfl⟩
  have e_x79 := over_ok B_r38_56w (by decide) h70 h72 h74 h76 h78
  obtain ⟨x81, h80⟩ : ∃ z : Int, r38_56w % 18446744073709551616 = z := ⟨_, rfl⟩
  obtain ⟨x83, h82⟩ : ∃ z : Int, bAnd IntKind.u64 x81 2251799813685247 = z := ⟨_, rfl⟩
  have m_h82 : x81 % 2251799813685248 = x83 := (mask51 (mod64 h80).1 (mod64 h80).2).symm.trans h82
  have e_x83 := low_ok h80 m_h82
  obtain ⟨x85, h84⟩ : ∃ z : Int, r38_60w / 18446744073709551616 = z := ⟨_, rfl⟩
  obtain ⟨x87, h86⟩ : ∃ z : Int, x85 * 8192 % 18446744073709551616 = z := ⟨_, rfl⟩
  obtain ⟨x89, h88⟩ : ∃ z : Int, r38_60w % 18446744073709551616 = z := ⟨_, rfl⟩
  obtain ⟨x91, h90⟩ : ∃ z : Int, x89 / 2251799813685248 = z := ⟨_, rfl⟩
  obtain ⟨x93, h92⟩ : ∃ z : Int, bOr IntKind.u64 x87 x91 = z := ⟨_, rfl⟩
  have e_x93 := over_ok B_r38_60w (by decide) h84 h86 h88 h90 h92
  obtain ⟨x95, h94⟩ : ∃ z : Int, r38_60w % 18446744073709551616 = z := ⟨_, rfl⟩
  obtain ⟨x97, h96⟩ : ∃ z : Int, bAnd IntKind.u64 x95 2251799813685247 = z := ⟨_, rfl⟩
  have m_h96 : x95 % 2251799813685248 = x97 := (mask51 (mod64 h94).1 (mod64 h94).2).symm.trans h96
  have e_x97 := low_ok h94 m_h96
  obtain ⟨x99, h98⟩ : ∃ z : Int, r38_64w / 18446744073709551616 = z := ⟨_, rfl⟩
  obtain ⟨x101, h100⟩ : ∃ z : Int, x99 * 8192 % 18446744073709551616 = z := ⟨_, rfl⟩
  obtain ⟨x103, h102⟩ : ∃ z : Int, r38_64w % 18446744073709551616 = z := ⟨_, rfl⟩
  obtain ⟨x105, h104⟩ : ∃ z : Int, x103 / 2251799813685248 = z := ⟨_, rfl⟩
  obtain ⟨x107, h106⟩ : ∃ z : Int, bOr IntKind.u64 x101 x105 = z := ⟨_, rfl⟩
  have e_x107 := over_ok B_r38_64w (by decide) h98 h100 h102 h104 h106
  obtain ⟨x109, h108⟩ : ∃ z : Int, r38_64w % 18446744073709551616 = z := ⟨_, rfl⟩
  obtain ⟨x111, h110⟩ : ∃ z : Int, bAnd IntKind.u64 x109 2251799813685247 = z := ⟨_, rfl⟩
  have m_h110 : x109 % 2251799813685248 = x111 := (mask51 (mod64 h108).1 (mod64 h108).2).symm.trans h110
  have e_x111 := low_ok h108 m_h110
  obtain ⟨x113, h112⟩ : ∃ z : Int, r38_68w / 18446744073709551616 = z := ⟨_, rfl⟩
  obtain ⟨x115, h114⟩ : ∃ z : Int, x113 * 8192 % 18446744073709551616 = z := ⟨_, rfl⟩
  obtain ⟨x117, h116⟩ : ∃ z : Int, r38_68w % 18446744073709551616 = z := ⟨_, rfl⟩
  obtain ⟨x119, h118⟩ : ∃ z : Int, x117 / 2251799813685248 = z := ⟨_, rfl⟩
  obtain ⟨x121, h120⟩ : ∃ z : Int, bOr IntKind.u64 x115 x119 = z := ⟨_, rfl⟩
  have e_x121 := over_ok B_r38_68w (by decide) h112 h114 h116 h118 h120
  obtain ⟨x123, h122⟩ : ∃ z : Int, r38_68w % 18446744073709551616 = z := ⟨_, rfl⟩
  obtain ⟨x125, h124⟩ : ∃ z : Int, bAnd IntKind.u64 x123 2251799813685247 = z := ⟨_, rfl⟩
  have m_h124 : x123 % 2251799813685248 = x125 := (mask51 (mod64 h122).1 (mod64 h122).2).symm.trans h124
  have e_x125 := low_ok h122 m_h124
  obtain ⟨x127, h126⟩ : ∃ z : Int, r38_52w / 18446744073709551616 = z := ⟨_, rfl⟩
  obtain ⟨x129, h128⟩ : ∃ z : Int, x127 * 8192 % 18446744073709551616 = z := ⟨_, rfl⟩
  obtain ⟨x131, h130⟩ : ∃ z : Int, r38_52w % 18446744073709551616 = z := ⟨_, rfl⟩
  obtain ⟨x133, h132⟩ : ∃ z : Int, x131 / 2251799813685248 = z := ⟨_, rfl⟩
  obtain ⟨x135, h134⟩ : ∃ z : Int, bOr IntKind.u64 x129 x133 = z := ⟨_, rfl⟩
  have e_x135 := over_ok B_r38_52w (by decide) h126 h128 h130 h132 h134
  obtain ⟨x137, h136⟩ : ∃ z : Int, r38_52w % 18446744073709551616 = z := ⟨_, rfl⟩
  obtain ⟨x139, h138⟩ : ∃ z : Int, bAnd IntKind.u64 x137 2251799813685247 = z := ⟨_, rfl⟩
  have m_h138 : x137 % 2251799813685248 = x139 := (mask51 (mod64 h136).1 (mod64 h136).2).symm.trans h138
  have e_x139 := low_ok h136 m_h138
  obtain ⟨x141, h140⟩ : ∃ z : Int, 19 * x135 % 18446744073709551616 = z := ⟨_, rfl⟩
  obtain ⟨x143, h142⟩ : ∃ z : Int, (x83 + x141) % 18446744073709551616 = z := ⟨_, rfl⟩
  have s_x143 := sum19_ok B_r38_56w B_r38_52w (by decide) e_x83 e_x135 h140 h142
  obtain ⟨x145, h144⟩ : ∃ z : Int, (x97 + x79) % 18446744073709551616 = z := ⟨_, rfl⟩
  have s_x145 := sum_ok B_r38_60w B_r38_56w (by decide) e_x97 e_x79 h144
  obtain ⟨x147, h146⟩ : ∃ z : Int, (x111 + x93) % 18446744073709551616 = z := ⟨_, rfl⟩
  have s_x147 := sum_ok B_r38_64w B_r38_60w (by decide) e_x111 e_x93 h146
  obtain ⟨x149, h148⟩ : ∃ z : Int, (x125 + x107) % 18446744073709551616 = z := ⟨_, rfl⟩
  have s_x149 := sum_ok B_r38_68w B_r38_64w (by decide) e_x125 e_x107 h148
  obtain ⟨x151, h150⟩ : ∃ z : Int, (x139 + x121) % 18446744073709551616 = z := ⟨_, rfl⟩
  have s_x151 := sum_ok B_r38_52w B_r38_68w (by decide) e_x139 e_x121 h150
  obtain ⟨r36_152, v_r36_152⟩ : ∃ z : Int, x143 % 2251799813685248 + x151 / 2251799813685248 * 19 = z := ⟨_, rfl⟩
  obtain ⟨r36_153, v_r36_153⟩ : ∃ z : Int, x145 % 2251799813685248 + x143 / 2251799813685248 = z := ⟨_, rfl⟩
  obtain ⟨r36_154, v_r36_154⟩ : ∃ z : Int, x147 % 2251799813685248 + x145 / 2251799813685248 = z := ⟨_, rfl⟩
  obtain ⟨r36_155, v_r36_155⟩ : ∃ z : Int, x149 % 2251799813685248 + x147 / 2251799813685248 = z := ⟨_, rfl⟩
  obtain ⟨r36_156, v_r36_156⟩ : ∃ z : Int, x151 % 2251799813685248 + x149 / 2251799813685248 = z := ⟨_, rfl⟩
  have c157 : PureF Tryd.prog 39 [(.aggi .u64 [x143, x145, x147, x149, x151])] (.aggi .u64 [r36_152, r36_153, r36_154, r36_155, r36_156]) := by subst v_r36_152; subst v_r36_153; subst v_r36_154; subst v_r36_155; subst v_r36_156; exact carry_ok (mod64 h142) (mod64 h144) (mod64 h146) (mod64 h148) (mod64 h150)
  have run := run21 a0 a1 a2 a3 a4 b0 b1 b2 b3 b4 r38_0w r38_2w r38_4w r38_6w r38_8w r38_10w r38_12w r38_14w r38_16w x19 r38_20w r38_22w r38_24w r38_26w x29 r38_30w x33 r38_34w r38_36w r38_38w x41 r38_42w x45 r38_46w x49 r38_50w r38_52w x55 r38_56w x59 r38_60w x63 r38_64w x67 r38_68w x71 x73 x75 x77 x79 x81 x83 x85 x87 x89 x91 x93 x95 x97 x99 x101 x103 x105 x107 x109 x111 x113 x115 x117 x119 x121 x123 x125 x127 x129 x131 x133 x135 x137 x139 x141 x143 x145 x147 x149 x151 r36_152 r36_153 r36_154 r36_155 r36_156 c1 c3 c5 c7 c9 c11 c13 c15 c17 h18 c21 c23 c25 c27 h28 c31 h32 c35 c37 c39 h40 c43 h44 c47 h48 c51 c53 h54 c57 h58 c61 h62 c65 h66 c69 h70 h72 h74 h76 h78 h80 h82 h84 h86 h88 h90 h92 h94 h96 h98 h100 h102 h104 h106 h108 h110 h112 h114 h116 h118 h120 h122 h124 h126 h128 h130 h132 h134 h136 h138 h140 h142 h144 h146 h148 h150 c157
  refine ⟨⟨_, _, _, _, _⟩, run, ⟨L52_u (mod64 h150) v_r36_152, L52_u' (mod64 h142) v_r36_153, L52_u' (mod64 h144) v_r36_154, L52_u' (mod64 h146) v_r36_155, L52_u' (mod64 h148) v_r36_156⟩, ?_⟩
  unfold W.El.f
  rw [← toF_mul]
  refine toF_iff.mpr ((carry_f v_r36_152 v_r36_153 v_r36_154 v_r36_155 v_r36_156).trans ((carry_f s_x143.symm s_x145.symm s_x147.symm s_x149.symm s_x151.symm).trans ?_))
  have e : valE r38_56w r38_60w r38_64w r38_68w r38_52w = valE a0 a1 a2 a3 a4 * valE b0 b1 b2 b3 b4 - pP * valE (a1 * b4 + a2 * b3 + a3 * b2 + a4 * b1) (a2 * b4 + a3 * b3 + a4 * b2) (a3 * b4 + a4 * b3) (a4 * b4) 0 := by
    rw [← mulv]
    congr 1
    · rw [← v_r38_56w, q_x55, ← v_r38_42w, q_x41, ← v_r38_30w, q_x29, ← v_r38_20w, q_x19, ← v_r38_0w]
    · rw [← v_r38_60w, q_x59, ← v_r38_46w, q_x45, ← v_r38_34w, q_x33, ← v_r38_10w, ← v_r38_2w]
    · rw [← v_r38_64w, q_x63, ← v_r38_50w, q_x49, ← v_r38_22w, ← v_r38_12w, ← v_r38_4w]
    · rw [← v_r38_68w, q_x67, ← v_r38_36w, ← v_r38_24w, ← v_r38_14w, ← v_r38_6w]
    · rw [← v_r38_52w, ← v_r38_38w, ← v_r38_26w, ← v_r38_16w, ← v_r38_8w]
  rw [e, Int.sub_mul_emod_self_left]
  rfl
end Go.Proofs.YtkjbjgkjplmkhaaDoor.Vm

namespace Go.Proofs.YtkjbjgkjplmkhaaDoor.Vm
open Go Go.Proofs Go.Proofs.YtkjbjgkjplmkhaaDoor
theorem numL_btsK : ∀ (k : Nat) (n : Int), numL (btsK k n) = n % 256 ^ k
  | 0, n => by simp [btsK, numL, Int.emod_one]
  | k + 1, n => by
    have hd : (0 : Int) < 256 ^ k := Int.pow_pos (by decide)
    rw [btsK, numL, numL_btsK k, Int.pow_succ]
    generalize (256 : Int) ^ k = d at *
    have e1 := Int.emod_add_mul_ediv (n / 256) d
    have e2 := Int.emod_add_mul_ediv n 256
    have b1 := Int.emod_nonneg (n / 256) (show d ≠ 0 by omega)
    have b2 := Int.emod_lt_of_pos (n / 256) hd
    generalize (n / 256) % d = r at *
    generalize hq : n / 256 / d = q at *
    have e : n = n % 256 + 256 * r + d * 256 * q := by
      have : d * 256 * q = 256 * (d * q) := by grind
      omega
    have b3 : 0 ≤ n % 256 ∧ n % 256 < 256 := by omega
    generalize n % 256 = m at *
    rw [e, Int.add_mul_emod_self_left, Int.emod_eq_of_lt (by omega) (by omega)]
theorem bts_inj {x y : Int} (hx : 0 ≤ x ∧ x < pP) (hy : 0 ≤ y ∧ y < pP) (h : W.bts x = W.bts y) : x = y := by
  have e := congrArg numL h
  rw [bts_eq, bts_eq, numL_btsK, numL_btsK] at e
  have hp : pP < 256 ^ 32 := by decide
  rwa [Int.emod_eq_of_lt hx.1 (Int.lt_trans hx.2 hp), Int.emod_eq_of_lt hy.1 (Int.lt_trans hy.2 hp)] at e
/-- From: the number of 32 bytes, without the highest bit. -/
theorem from_el (n : Int) : ∃ e : W.El, PureF Tryd.prog 8 [(.aggi .u8 (W.bts n))] (.aggi .u64 (W.el e)) ∧ e.ok ∧ e.v = n % 57896044618658097711785492504343953926634992332820282019728792003956564819968 :=
  ⟨⟨_, _, _, _, _⟩, from_ok n, ⟨fromU _, fromU _, fromU _, fromU _, fromU _⟩, by
    show valE _ _ _ _ _ = _
    unfold valE; dsimp only; omega⟩
/-- Bytes: of the number below the prime. -/
theorem bytes_el {e : W.El} (h : e.ok) : PureF Tryd.prog 12 [(.aggi .u64 (W.el e))] (.aggi .u8 (W.bts (e.v % pP))) :=
  bytes_ok' h rfl
theorem L52s : L52 0 ∧ L52 1 := ⟨⟨by decide, by decide⟩, ⟨by decide, by decide⟩⟩
theorem zero_el : ∃ e : W.El, PureF Tryd.prog 36 [] (.aggi .u64 (W.el e)) ∧ e.ok ∧ e.f = 0 :=
  ⟨⟨0, 0, 0, 0, 0⟩, run24, ⟨L52s.1, L52s.1, L52s.1, L52s.1, L52s.1⟩, toF_zero⟩
theorem one_el : ∃ e : W.El, PureF Tryd.prog 37 [] (.aggi .u64 (W.el e)) ∧ e.ok ∧ e.f = 1 :=
  ⟨⟨1, 0, 0, 0, 0⟩, run28, ⟨L52s.2, L52s.1, L52s.1, L52s.1, L52s.1⟩, toF_one⟩
theorem sub_el {a b : W.El} (ha : a.ok) (hb : b.ok) : ∃ c : W.El, PureF Tryd.prog 19 [(.aggi .u64 (W.el a)), (.aggi .u64 (W.el b))] (.aggi .u64 (W.el c)) ∧ c.ok ∧ c.f = a.f - b.f := by
  obtain ⟨c0, c1, c2, c3, c4, h, ok, e⟩ := sub_ok ha.1 ha.2.1 ha.2.2.1 ha.2.2.2.1 ha.2.2.2.2 hb.1.u hb.2.1.u hb.2.2.1.u hb.2.2.2.1.u hb.2.2.2.2.u
  refine ⟨⟨c0, c1, c2, c3, c4⟩, h, ok, ?_⟩
  unfold W.El.f
  rw [← toF_sub]
  exact toF_iff.mpr e
theorem addw {a b x : Int} (ha : L52 a) (hb : L52 b) (h : (a + b) % 18446744073709551616 = x) : a + b = x := by
  unfold L52 at ha hb; omega
theorem add_el {a b : W.El} (ha : a.ok) (hb : b.ok) : ∃ c : W.El, PureF Tryd.prog 17 [(.aggi .u64 (W.el a)), (.aggi .u64 (W.el b))] (.aggi .u64 (W.el c)) ∧ c.ok ∧ c.f = a.f + b.f := by
  obtain ⟨a0, a1, a2, a3, a4⟩ := a
  obtain ⟨b0, b1, b2, b3, b4⟩ := b
  obtain ⟨g0, g1, g2, g3, g4⟩ := ha
  obtain ⟨k0, k1, k2, k3, k4⟩ := hb
  dsimp only at g0 g1 g2 g3 g4 k0 k1 k2 k3 k4
  obtain ⟨x1, h0⟩ : ∃ z : Int, (a0 + b0) % 18446744073709551616 = z := ⟨_, rfl⟩
  have s0 := addw g0 k0 h0
  obtain ⟨x3, h2⟩ : ∃ z : Int, (a1 + b1) % 18446744073709551616 = z := ⟨_, rfl⟩
  have s1 := addw g1 k1 h2
  obtain ⟨x5, h4⟩ : ∃ z : Int, (a2 + b2) % 18446744073709551616 = z := ⟨_, rfl⟩
  have s2 := addw g2 k2 h4
  obtain ⟨x7, h6⟩ : ∃ z : Int, (a3 + b3) % 18446744073709551616 = z := ⟨_, rfl⟩
  have s3 := addw g3 k3 h6
  obtain ⟨x9, h8⟩ : ∃ z : Int, (a4 + b4) % 18446744073709551616 = z := ⟨_, rfl⟩
  have s4 := addw g4 k4 h8
  obtain ⟨r36_10, v_r36_10⟩ : ∃ z : Int, x1 % 2251799813685248 + x9 / 2251799813685248 * 19 = z := ⟨_, rfl⟩
  obtain ⟨r36_11, v_r36_11⟩ : ∃ z : Int, x3 % 2251799813685248 + x1 / 2251799813685248 = z := ⟨_, rfl⟩
  obtain ⟨r36_12, v_r36_12⟩ : ∃ z : Int, x5 % 2251799813685248 + x3 / 2251799813685248 = z := ⟨_, rfl⟩
  obtain ⟨r36_13, v_r36_13⟩ : ∃ z : Int, x7 % 2251799813685248 + x5 / 2251799813685248 = z := ⟨_, rfl⟩
  obtain ⟨r36_14, v_r36_14⟩ : ∃ z : Int, x9 % 2251799813685248 + x7 / 2251799813685248 = z := ⟨_, rfl⟩
  have c15 : PureF Tryd.prog 39 [(.aggi .u64 [x1, x3, x5, x7, x9])] (.aggi .u64 [r36_10, r36_11, r36_12, r36_13, r36_14]) := by subst v_r36_10; subst v_r36_11; subst v_r36_12; subst v_r36_13; subst v_r36_14; exact carry_ok (mod64 h0) (mod64 h2) (mod64 h4) (mod64 h6) (mod64 h8)
  have run := run22 a0 a1 a2 a3 a4 b0 b1 b2 b3 b4 x1 x3 x5 x7 x9 r36_10 r36_11 r36_12 r36_13 r36_14 h0 h2 h4 h6 h8 c15
  refine ⟨⟨_, _, _, _, _⟩, run, ⟨L52_u (mod64 h8) v_r36_10, L52_u' (mod64 h0) v_r36_11, L52_u' (mod64 h2) v_r36_12, L52_u' (mod64 h4) v_r36_13, L52_u' (mod64 h6) v_r36_14⟩, ?_⟩
  unfold W.El.f
  rw [← toF_add]
  refine toF_iff.mpr ((carry_f v_r36_10 v_r36_11 v_r36_12 v_r36_13 v_r36_14).trans (congrArg (· % pP) ?_))
  rw [← s0, ← s1, ← s2, ← s3, ← s4]
  show valE _ _ _ _ _ = valE _ _ _ _ _ + valE _ _ _ _ _
  dsimp only
  unfold valE; omega
/-- Small: so many times a number. -/
theorem small_el {a : W.El} (ha : a.ok) {n : Int} (hn : 0 ≤ n ∧ n < 4294967296) : ∃ c : W.El, PureF Tryd.prog 21 [(.aggi .u64 (W.el a)), (.c (.int .u32 n))] (.aggi .u64 (W.el c)) ∧ c.ok ∧ c.f = a.f * toF n := by
  obtain ⟨c, h, ok, e⟩ := mul_el ha (b := ⟨n, 0, 0, 0, 0⟩) ⟨⟨hn.1, by show n < _; omega⟩, L52s.1, L52s.1, L52s.1, L52s.1⟩
  refine ⟨c, run26 a n n c (by omega) h, ok, ?_⟩
  rw [e]
  congr 1
  unfold W.El.f W.El.v valE
  simp
theorem bXor64 {a b : Int} (h1 : U64 a) (h3 : U64 b) : bXor .u64 a b = ((a.toNat ^^^ b.toNat : Nat) : Int) := u64_xor a b h1.1 h1.2 h3.1 h3.2
theorem xor_0 {a : Int} (h : U64 a) : bXor .u64 a 0 = a := by
  rw [bXor64 h ⟨by decide, by decide⟩]
  have : a.toNat ^^^ (0 : Int).toNat = a.toNat := Nat.xor_zero _
  rw [this, Int.toNat_of_nonneg h.1]
theorem and_0 {a : Int} (h : U64 a) : bAnd .u64 0 a = 0 := by
  rw [bAnd64 (by decide) (by decide) h.1 h.2]
  have : (0 : Int).toNat &&& a.toNat = 0 := Nat.zero_and _
  rw [this]; rfl
theorem and_1 {a : Int} (h : U64 a) : bAnd .u64 18446744073709551615 a = a := by
  rw [bAnd64 (by decide) (by decide) h.1 h.2, Nat.and_comm]
  have : a.toNat &&& (18446744073709551615 : Int).toNat = a.toNat % 18446744073709551616 := Nat.and_two_pow_sub_one_eq_mod a.toNat 64
  rw [this, Nat.mod_eq_of_lt (by unfold U64 at h; omega), Int.toNat_of_nonneg h.1]
theorem xor_U {a b : Int} (h : U64 a) (k : U64 b) : U64 (bXor .u64 a b) := by
  rw [bXor64 h k]
  have : a.toNat ^^^ b.toNat < 2 ^ 64 := Nat.xor_lt_two_pow (by unfold U64 at h; omega) (by unfold U64 at k; omega)
  unfold U64; omega
theorem xor_x {a b : Int} (h : U64 a) (k : U64 b) : bXor .u64 a (bXor .u64 a b) = b := by
  rw [bXor64 h (xor_U h k), bXor64 h k, Int.toNat_natCast, ← Nat.xor_assoc, Nat.xor_self, Nat.zero_xor, Int.toNat_of_nonneg k.1]
theorem xor_y {a b : Int} (h : U64 a) (k : U64 b) : bXor .u64 b (bXor .u64 a b) = a := by
  rw [bXor64 k (xor_U h k), bXor64 h k, Int.toNat_natCast, Nat.xor_comm a.toNat, ← Nat.xor_assoc, Nat.xor_self, Nat.zero_xor, Int.toNat_of_nonneg h.1]
theorem lowbit {c : Int} (hc : U64 c) : bAnd .u64 c 1 = c % 2 := by
  rw [bAnd64 hc.1 hc.2 (by decide) (by decide)]
  have : c.toNat &&& (1 : Int).toNat = c.toNat % 2 := Nat.and_two_pow_sub_one_eq_mod c.toNat 1
  rw [this]; have := hc.1; omega
/-- Swap: the two change places where the bit is odd. -/
theorem swap_el {a b : W.El} (ha : a.ok) (hb : b.ok) {c : Int} (hc : U64 c) :
    PureF Tryd.prog 48 [(.aggi .u64 (W.el a)), (.aggi .u64 (W.el b)), (.c (.int .u64 c))] (.tup [(.aggi .u64 (W.el (bif c % 2 == 1 then b else a))), (.aggi .u64 (W.el (bif c % 2 == 1 then a else b)))]) := by
  obtain ⟨a0, a1, a2, a3, a4⟩ := a
  obtain ⟨b0, b1, b2, b3, b4⟩ := b
  obtain ⟨g0, g1, g2, g3, g4⟩ := ha
  obtain ⟨k0, k1, k2, k3, k4⟩ := hb
  dsimp only at g0 g1 g2 g3 g4 k0 k1 k2 k3 k4
  have hl := lowbit hc
  have h2 : c % 2 = 0 ∨ c % 2 = 1 := by omega
  rcases h2 with h2 | h2
  · rw [h2] at hl ⊢
    have q0 := and_0 (xor_U g0.u k0.u)
    have q1 := and_0 (xor_U g1.u k1.u)
    have q2 := and_0 (xor_U g2.u k2.u)
    have q3 := and_0 (xor_U g3.u k3.u)
    have q4 := and_0 (xor_U g4.u k4.u)
    exact run20 a0 a1 a2 a3 a4 b0 b1 b2 b3 b4 c 0 0 _ 0 a0 b0 _ 0 a1 b1 _ 0 a2 b2 _ 0 a3 b3 _ 0 a4 b4 hl (by decide) rfl q0 (xor_0 g0.u) (xor_0 k0.u) rfl q1 (xor_0 g1.u) (xor_0 k1.u) rfl q2 (xor_0 g2.u) (xor_0 k2.u) rfl q3 (xor_0 g3.u) (xor_0 k3.u) rfl q4 (xor_0 g4.u) (xor_0 k4.u)
  · rw [h2] at hl ⊢
    have q0 := and_1 (xor_U g0.u k0.u)
    have q1 := and_1 (xor_U g1.u k1.u)
    have q2 := and_1 (xor_U g2.u k2.u)
    have q3 := and_1 (xor_U g3.u k3.u)
    have q4 := and_1 (xor_U g4.u k4.u)
    exact run20 a0 a1 a2 a3 a4 b0 b1 b2 b3 b4 c 1 18446744073709551615 _ _ b0 a0 _ _ b1 a1 _ _ b2 a2 _ _ b3 a3 _ _ b4 a4 hl (by decide) rfl q0 (xor_x g0.u k0.u) (xor_y g0.u k0.u) rfl q1 (xor_x g1.u k1.u) (xor_y g1.u k1.u) rfl q2 (xor_x g2.u k2.u) (xor_y g2.u k2.u) rfl q3 (xor_x g3.u k3.u) (xor_y g3.u k3.u) rfl q4 (xor_x g4.u k4.u) (xor_y g4.u k4.u)
/-- Products and sums as functions. -/
noncomputable def prodE (a b : W.El) : W.El := open Classical in if h : a.ok ∧ b.ok then Classical.choose (mul_el h.1 h.2) else a
theorem prodE_spec {a b : W.El} (ha : a.ok) (hb : b.ok) : PureF Tryd.prog 11 [(.aggi .u64 (W.el a)), (.aggi .u64 (W.el b))] (.aggi .u64 (W.el (prodE a b))) ∧ (prodE a b).ok ∧ (prodE a b).f = a.f * b.f := by
  unfold prodE
  rw [dif_pos ⟨ha, hb⟩]
  exact Classical.choose_spec (mul_el ha hb)
end Go.Proofs.YtkjbjgkjplmkhaaDoor.Vm
