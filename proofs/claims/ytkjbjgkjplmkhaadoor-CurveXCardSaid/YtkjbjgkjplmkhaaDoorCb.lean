/- What functions of the program come to: parts of the walk (Cb). -/
import Derived.Test.YtkjbjgkjplmkhaaDoorFg
import Derived.Test.YtkjbjgkjplmkhaaDoorCa
import Derived.KernelRfl
import Derived.Test.YtkjbjgkjplmkhaaDoorProg
set_option linter.unusedSimpArgs false
set_option linter.unusedVariables false
namespace Go.Proofs.YtkjbjgkjplmkhaaDoor.Vm
open Go Go.Proofs Go.Proofs.YtkjbjgkjplmkhaaDoor
/-! ### The ladder, in the field -/
structure Q4 where
  a : Fp
  b : Fp
  c : Fp
  d : Fp
def Q4.swap (q : Q4) : Q4 := ⟨q.c, q.d, q.a, q.b⟩
def stepF (x : Fp) (q : Q4) : Q4 :=
  ⟨(q.a + q.b) * (q.a + q.b) * ((q.a - q.b) * (q.a - q.b)),
   ((q.a + q.b) * (q.a + q.b) - (q.a - q.b) * (q.a - q.b)) * ((q.a + q.b) * (q.a + q.b) + ((q.a + q.b) * (q.a + q.b) - (q.a - q.b) * (q.a - q.b)) * toF 121665),
   ((q.c - q.d) * (q.a + q.b) + (q.c + q.d) * (q.a - q.b)) * ((q.c - q.d) * (q.a + q.b) + (q.c + q.d) * (q.a - q.b)),
   x * (((q.c - q.d) * (q.a + q.b) - (q.c + q.d) * (q.a - q.b)) * ((q.c - q.d) * (q.a + q.b) - (q.c + q.d) * (q.a - q.b)))⟩
def bitF (x : Fp) (b : Bool) (q : Q4) : Q4 := bif b then (stepF x q.swap).swap else stepF x q
def ladF (k : Int) (x : Fp) : Nat → Q4 → Q4
  | 0, q => q
  | n + 1, q => ladF k x n (bitF x (k / 2 ^ n % 2 == 1) q)
def xF (k : Int) (x : Fp) : Int := (((ladF k x 255 ⟨1, 0, x, 1⟩).a * finv (ladF k x 255 ⟨1, 0, x, 1⟩).b : Fp).val : Int)
/-! ### Over elements -/
structure E4 where
  a : W.El
  b : W.El
  c : W.El
  d : W.El
def E4.ok (e : E4) : Prop := e.a.ok ∧ e.b.ok ∧ e.c.ok ∧ e.d.ok
def E4.f (e : E4) : Q4 := ⟨e.a.f, e.b.f, e.c.f, e.d.f⟩
def E4.swap (e : E4) : E4 := ⟨e.c, e.d, e.a, e.b⟩
theorem E4.swap_ok {e : E4} (h : e.ok) : e.swap.ok := ⟨h.2.2.1, h.2.2.2, h.1, h.2.1⟩
theorem square_el {a : W.El} (ok_a : a.ok) : ∃ c : W.El, PureF Tryd.prog 49 [(.aggi .u64 (W.el a))] (.aggi .u64 (W.el c)) ∧ c.ok ∧ c.f = a.f * a.f := by
  obtain ⟨c, h, ok, e⟩ := mul_el ok_a ok_a
  exact ⟨c, run44 a c h, ok, e⟩
theorem change_el {e : E4} (h : e.ok) {s : Int} (hs : s = 0 ∨ s = 1) :
    PureF Tryd.prog 41 [(.aggi .u64 (W.pt e.a e.b)), (.aggi .u64 (W.pt e.c e.d)), (.c (.int .u64 s))] (.tup [(.aggi .u64 (W.pt (bif s == 1 then e.swap else e).a (bif s == 1 then e.swap else e).b)), (.aggi .u64 (W.pt (bif s == 1 then e.swap else e).c (bif s == 1 then e.swap else e).d))]) := by
  have hu : U64 s := by unfold U64; omega
  have c1 := swap_el h.1 h.2.2.1 hu
  have c3 := swap_el h.2.1 h.2.2.2 hu
  rcases hs with rfl | rfl
  · exact run39 e.a e.b e.c e.d 0 _ _ _ _ c1 c3
  · exact run39 e.a e.b e.c e.d 1 _ _ _ _ c1 c3
theorem step_el {e : E4} {u : W.El} (h : e.ok) (hu : u.ok) : ∃ r : E4, PureF Tryd.prog 42 [(.aggi .u64 (W.pt e.a e.b)), (.aggi .u64 (W.pt e.c e.d)), (.aggi .u64 (W.el u))] (.tup [(.aggi .u64 (W.pt r.a r.b)), (.aggi .u64 (W.pt r.c r.d))]) ∧ r.ok ∧ r.f = stepF u.f e.f := by
  obtain ⟨a, b, c, d⟩ := e
  obtain ⟨ok_a, ok_b, ok_c, ok_d⟩ := h
  have ok_u := hu
  dsimp only at ok_a ok_b ok_c ok_d
  obtain ⟨r22_0e, c1, ok_r22_0e, f_r22_0e⟩ := add_el ok_a ok_b
  obtain ⟨r23_2e, c3, ok_r23_2e, f_r23_2e⟩ := sub_el ok_a ok_b
  obtain ⟨r44_4e, c5, ok_r44_4e, f_r44_4e⟩ := square_el ok_r22_0e
  obtain ⟨r44_6e, c7, ok_r44_6e, f_r44_6e⟩ := square_el ok_r23_2e
  obtain ⟨r23_8e, c9, ok_r23_8e, f_r23_8e⟩ := sub_el ok_r44_4e ok_r44_6e
  obtain ⟨r23_10e, c11, ok_r23_10e, f_r23_10e⟩ := sub_el ok_c ok_d
  obtain ⟨r21_12e, c13, ok_r21_12e, f_r21_12e⟩ := mul_el ok_r23_10e ok_r22_0e
  obtain ⟨r22_14e, c15, ok_r22_14e, f_r22_14e⟩ := add_el ok_c ok_d
  obtain ⟨r21_16e, c17, ok_r21_16e, f_r21_16e⟩ := mul_el ok_r22_14e ok_r23_2e
  obtain ⟨r22_18e, c19, ok_r22_18e, f_r22_18e⟩ := add_el ok_r21_12e ok_r21_16e
  obtain ⟨r44_20e, c21, ok_r44_20e, f_r44_20e⟩ := square_el ok_r22_18e
  obtain ⟨r23_22e, c23, ok_r23_22e, f_r23_22e⟩ := sub_el ok_r21_12e ok_r21_16e
  obtain ⟨r44_24e, c25, ok_r44_24e, f_r44_24e⟩ := square_el ok_r23_22e
  obtain ⟨r21_26e, c27, ok_r21_26e, f_r21_26e⟩ := mul_el ok_u ok_r44_24e
  obtain ⟨r21_28e, c29, ok_r21_28e, f_r21_28e⟩ := mul_el ok_r44_4e ok_r44_6e
  obtain ⟨r26_30e, c31, ok_r26_30e, f_r26_30e⟩ := small_el ok_r23_8e (n := 121665) (by decide)
  obtain ⟨r22_32e, c33, ok_r22_32e, f_r22_32e⟩ := add_el ok_r44_4e ok_r26_30e
  obtain ⟨r21_34e, c35, ok_r21_34e, f_r21_34e⟩ := mul_el ok_r23_8e ok_r22_32e
  refine ⟨⟨r21_28e, r21_34e, r44_20e, r21_26e⟩, run40 a b c d u r22_0e r23_2e r44_4e r44_6e r23_8e r23_10e r21_12e r22_14e r21_16e r22_18e r44_20e r23_22e r44_24e r21_26e r21_28e r26_30e r22_32e r21_34e c1 c3 c5 c7 c9 c11 c13 c15 c17 c19 c21 c23 c25 c27 c29 c31 c33 c35, ⟨ok_r21_28e, ok_r21_34e, ok_r44_20e, ok_r21_26e⟩, ?_⟩
  unfold E4.f stepF
  dsimp only
  rw [f_r21_34e, f_r22_32e, f_r26_30e, f_r21_28e, f_r21_26e, f_r44_24e, f_r23_22e, f_r44_20e, f_r22_18e, f_r21_16e, f_r22_14e, f_r21_12e, f_r23_10e, f_r23_8e, f_r44_6e, f_r44_4e, f_r23_2e, f_r22_0e]
noncomputable def stepE (u : W.El) (e : E4) : E4 := open Classical in if h : e.ok ∧ u.ok then Classical.choose (step_el h.1 h.2) else e
theorem stepE_spec {e : E4} {u : W.El} (h : e.ok) (hu : u.ok) : PureF Tryd.prog 42 [(.aggi .u64 (W.pt e.a e.b)), (.aggi .u64 (W.pt e.c e.d)), (.aggi .u64 (W.el u))] (.tup [(.aggi .u64 (W.pt (stepE u e).a (stepE u e).b)), (.aggi .u64 (W.pt (stepE u e).c (stepE u e).d))]) ∧ (stepE u e).ok ∧ (stepE u e).f = stepF u.f e.f := by
  unfold stepE
  rw [dif_pos ⟨h, hu⟩]
  exact Classical.choose_spec (step_el h hu)
/-- One round: the bit that was, the state. -/
noncomputable def nextE (k : Int) (u : W.El) (n : Nat) (s : Int) (e : E4) : E4 := stepE u (bif (s + k / 2 ^ n % 2) % 2 == 1 then e.swap else e)
noncomputable def runE (k : Int) (u : W.El) : Nat → Int → E4 → Int × E4
  | 0, s, e => (s, e)
  | n + 1, s, e => runE k u n (k / 2 ^ n % 2) (nextE k u n s e)
def unsw (s : Int) (q : Q4) : Q4 := bif s == 1 then q.swap else q
theorem bit01 (k : Int) (n : Nat) : k / 2 ^ n % 2 = 0 ∨ k / 2 ^ n % 2 = 1 := by omega
theorem nextE_ok {k : Int} {u : W.El} (hu : u.ok) {n : Nat} {s : Int} (hs : s = 0 ∨ s = 1) {e : E4} (h : e.ok) :
    (nextE k u n s e).ok ∧ unsw (k / 2 ^ n % 2) (nextE k u n s e).f = bitF u.f (k / 2 ^ n % 2 == 1) (unsw s e.f) := by
  have h1 := stepE_spec h hu
  have h2 := stepE_spec (E4.swap_ok h) hu
  have sw : e.swap.f = e.f.swap := rfl
  have sws : ∀ q : Q4, q.swap.swap = q := fun _ => rfl
  unfold nextE unsw bitF
  rcases bit01 k n with hb | hb <;> rw [hb] <;> rcases hs with rfl | rfl
  · exact ⟨h1.2.1, h1.2.2⟩
  · refine ⟨h2.2.1, ?_⟩
    show (stepE u e.swap).f = stepF u.f e.f.swap
    rw [h2.2.2, sw]
  · refine ⟨h2.2.1, ?_⟩
    show (stepE u e.swap).f.swap = (stepF u.f e.f.swap).swap
    rw [h2.2.2, sw]
  · refine ⟨h1.2.1, ?_⟩
    show (stepE u e).f.swap = (stepF u.f e.f.swap.swap).swap
    rw [h1.2.2, sws]
theorem runE_ok {k : Int} {u : W.El} (hu : u.ok) : ∀ (n : Nat) {s : Int} (_ : s = 0 ∨ s = 1) {e : E4} (_ : e.ok),
    ((runE k u n s e).1 = 0 ∨ (runE k u n s e).1 = 1) ∧ (runE k u n s e).2.ok ∧ unsw (runE k u n s e).1 (runE k u n s e).2.f = ladF k u.f n (unsw s e.f)
  | 0, _, hs, _, h => ⟨hs, h, rfl⟩
  | n + 1, s, hs, e, h => by
    obtain ⟨h1, h2⟩ := nextE_ok (k := k) hu (n := n) hs h
    have := runE_ok (k := k) hu n (bit01 k n) h1
    rw [h2] at this
    exact this
theorem lowbits {m : Int} {j : Nat} (hj : j < 8) : (m % 256) / 2 ^ j % 2 = m / 2 ^ j % 2 := by
  rcases (by omega : j = 0 ∨ j = 1 ∨ j = 2 ∨ j = 3 ∨ j = 4 ∨ j = 5 ∨ j = 6 ∨ j = 7) with rfl | rfl | rfl | rfl | rfl | rfl | rfl | rfl <;> simp only [Int.reducePow] <;> omega
theorem bit_at (k : Int) (n : Nat) : (k / 256 ^ (n / 8) % 256) / 2 ^ (n % 8) % 2 = k / 2 ^ n % 2 := by
  rw [lowbits (Nat.mod_lt _ (by decide)), Int.ediv_ediv_of_nonneg (Int.le_of_lt (pow0 _))]
  have e : (256 : Int) ^ (n / 8) * 2 ^ (n % 8) = 2 ^ n := by
    have : (256 : Int) = 2 ^ 8 := by decide
    rw [this, ← Int.pow_mul, ← Int.pow_add, Nat.div_add_mod]
  rw [e]
theorem xor01 {s b : Int} (hs : s = 0 ∨ s = 1) (hb : b = 0 ∨ b = 1) : bXor IntKind.u64 s b = (s + b) % 2 := by
  rcases hs with rfl | rfl <;> rcases hb with rfl | rfl <;> rfl
/-- One round of X's loop. -/
theorem round30 {k : Int} {u : W.El} (hu : u.ok) {s : Int} (hs : s = 0 ∨ s = 1) {e : E4} (h : e.ok) {n : Nat} (hn : n < 256) :
    CodeOk Tryd.prog 65 353 (kAt (kOf Tryd.prog Tryd.f24) [true, true, true, true, true, false, true, false, false]) (L30I k u s n e.a e.b e.c e.d) .normal (L30I k u (k / 2 ^ n % 2) ((n : Int) - 1) (nextE k u n s e).a (nextE k u n s e).b (nextE k u n s e).c (nextE k u n s e).d) := by
  have q1 : Int.tdiv (n : Int) 8 = ((n / 8 : Nat) : Int) := by
    rw [Int.tdiv_eq_ediv_of_nonneg (by omega)]; omega
  have q2 : Int.tmod (n : Int) 8 = ((n % 8 : Nat) : Int) := by
    rw [Int.tmod_eq_emod_of_nonneg (by omega)]; omega
  have h11 : IntKind.wrap IntKind.i64 (Int.tdiv (n : Int) 8) = ((n / 8 : Nat) : Int) := by rw [q1, wrapI (by unfold I64; omega)]
  have lt : n / 8 < 32 := by omega
  have h14 : List.getD (W.bts k) (addO 0 (mulE (Int.toNat ((n / 8 : Nat) : Int)) 1)) 0 = k / 256 ^ (n / 8) % 256 := by rw [Int.toNat_natCast, off_eq, bts_at k lt]
  have c16 : (addO (0 : Nat) (mulE (Int.toNat ((n / 8 : Nat) : Int)) (1 : Nat)) + (1 : Nat) ≤ (32 : Nat)) := by rw [Int.toNat_natCast, off_eq]; omega
  have h19 : (k / 256 ^ (n / 8) % 256) / 2 ^ min (Int.toNat ((n % 8 : Nat) : Int)) 8 = (k / 256 ^ (n / 8) % 256) / 2 ^ (n % 8) := by
    rw [Int.toNat_natCast, Nat.min_eq_left (by omega)]
  have p1 : (0 : Int) < 2 ^ (n % 8) := Int.pow_pos (by decide)
  have b1 : 0 ≤ (k / 256 ^ (n / 8) % 256) / 2 ^ (n % 8) := Int.ediv_nonneg (Int.emod_nonneg _ (by decide)) (Int.le_of_lt p1)
  have b2 : (k / 256 ^ (n / 8) % 256) / 2 ^ (n % 8) < 18446744073709551616 := Int.lt_of_le_of_lt (Int.ediv_le_self _ (Int.emod_nonneg _ (by decide))) (Int.lt_trans (Int.emod_lt_of_pos _ (by decide)) (by decide))
  have h22 := Int.emod_eq_of_lt b1 b2
  have h24 : bAnd IntKind.u64 ((k / 256 ^ (n / 8) % 256) / 2 ^ (n % 8)) 1 = k / 2 ^ n % 2 := by rw [lowbit ⟨b1, b2⟩, bit_at]
  have h26 := xor01 hs (bit01 k n)
  have hx : (s + k / 2 ^ n % 2) % 2 = 0 ∨ (s + k / 2 ^ n % 2) % 2 = 1 := by omega
  have c29 := change_el h hx
  have hok : (bif (s + k / 2 ^ n % 2) % 2 == 1 then e.swap else e).ok := by
    rcases hx with hx | hx <;> rw [hx]
    · exact h
    · exact E4.swap_ok h
  have c31 := (stepE_spec hok hu).1
  exact run30_go k u s n e.a e.b e.c e.d _ _ _ _ _ _ _ _ _ _ _ _ _ _ _ _ (decide_eq_true (by omega)) h11 ⟨by omega, by omega⟩ h14 c16 q2 h19 (by omega) h22 h24 h26 c29 c31 (wrapI (by unfold I64; omega))
theorem loop30 {k : Int} {u : W.El} (hu : u.ok) {e : E4} (h : e.ok) :
    CodeOk Tryd.prog 65 353 (kAt (kOf Tryd.prog Tryd.f24) [true, true, true, true, true, false, true, false]) (L30I k u 0 254 e.a e.b e.c e.d) (.exit 0) (L30J k u (runE k u 255 0 e).1 (runE k u 255 0 e).2.a (runE k u 255 0 e).2.b (runE k u 255 0 e).2.c (runE k u 255 0 e).2.d) := by
  have key := CodeOk.loop (P := Tryd.prog) (nt := 65) (n0 := 353) (k := kAt (kOf Tryd.prog Tryd.f24) [true, true, true, true, true, false, true, false, false]) (ex := .exit 0) (s' := L30J k u (runE k u 255 0 e).1 (runE k u 255 0 e).2.a (runE k u 255 0 e).2.b (runE k u 255 0 e).2.c (runE k u 255 0 e).2.d)
    (fun x : Nat × Int × E4 => L30I k u x.2.1 ((x.1 : Int) - 1) x.2.2.a x.2.2.b x.2.2.c x.2.2.d) (fun x => x.1 ≤ 255 ∧ (x.2.1 = 0 ∨ x.2.1 = 1) ∧ x.2.2.ok ∧ runE k u x.1 x.2.1 x.2.2 = runE k u 255 0 e) (fun x => x.1) (by simp) ?_ (255, 0, e) ⟨Nat.le_refl _, .inl rfl, h, rfl⟩
  · have e255 : ((255 : Nat) : Int) - 1 = 254 := rfl
    dsimp only at key
    rw [e255] at key
    have hk : kAt (kOf Tryd.prog Tryd.f24) [true, true, true, true, true, false, true, false] = .loop (kAt (kOf Tryd.prog Tryd.f24) [true, true, true, true, true, false, true, false, false]) := by kernel_rfl
    rw [hk]
    exact key
  · rintro ⟨n, s, e'⟩ ⟨hn, hs, he, hI⟩
    dsimp only at hn hs he hI
    cases n with
    | zero =>
      right
      rw [← hI]
      exact run30_out k u s _ _ _ _ _ (decide_eq_false (by dsimp only; omega))
    | succ n =>
      left
      have e1 : (((n + 1 : Nat) : Int) - 1) = (n : Int) := by omega
      refine ⟨(n, k / 2 ^ n % 2, nextE k u n s e'), ⟨by dsimp only; omega, bit01 k n, (nextE_ok hu hs he).1, hI⟩, by dsimp only; omega, ?_⟩
      dsimp only
      rw [e1]
      exact round30 hu hs he (by omega)
/-! ### Clamp -/
def clampN (k : Int) : Int := k % 28948022309329048855892746252171976963317496166410141009864396001978282409984 - k % 8 + 28948022309329048855892746252171976963317496166410141009864396001978282409984
theorem and248 : ∀ n : Nat, n < 256 → bAnd IntKind.u8 (n : Int) 248 = (n : Int) - (n : Int) % 8 := by decide +kernel
theorem and127 : ∀ n : Nat, n < 256 → bOr IntKind.u8 (bAnd IntKind.u8 (n : Int) 127) 64 = (n : Int) % 64 + 64 := by decide +kernel
theorem and248' {x : Int} (h : 0 ≤ x ∧ x < 256) : bAnd IntKind.u8 x 248 = x - x % 8 := by
  have := and248 x.toNat (by omega)
  rwa [Int.toNat_of_nonneg h.1] at this
theorem and127' {x : Int} (h : 0 ≤ x ∧ x < 256) : bOr IntKind.u8 (bAnd IntKind.u8 x 127) 64 = x % 64 + 64 := by
  have := and127 x.toNat (by omega)
  rwa [Int.toNat_of_nonneg h.1] at this
theorem clamp_ok (k : Int) : PureF Tryd.prog 28 [(.aggi .u8 (W.bts k))] (.aggi .u8 (W.bts (clampN k))) := by
  have h2 := and248' (x := k % 256) (by omega)
  have h8 := and127' (x := k / 452312848583266388373324160190187140051835877600158453279131187530910662656 % 256) (by omega)
  have run := run31 k _ _ _ _ _ rfl h2 rfl rfl h8
  refine Eq.mp (congrArg (fun l => PureF Tryd.prog 28 [(.aggi .u8 (W.bts k))] (.aggi .u8 l)) ?_) run
  unfold W.bts clampN
  simp only [List.cons.injEq, and_true]
  refine ⟨by omega, by omega, by omega, by omega, by omega, by omega, by omega, by omega, by omega, by omega, by omega, by omega, by omega, by omega, by omega, by omega, by omega, by omega, by omega, by omega, by omega, by omega, by omega, by omega, by omega, by omega, by omega, by omega, by omega, by omega, by omega, by omega⟩
/-- X: the ladder's answer. -/
theorem x_ok (k u : Int) : PureF Tryd.prog 24 [(.aggi .u8 (W.bts k)), (.aggi .u8 (W.bts u))] (.aggi .u8 (W.bts (xF (clampN k) (toF (u % 57896044618658097711785492504343953926634992332820282019728792003956564819968))))) := by
  obtain ⟨x, c3, okx, vx⟩ := from_el u
  have fx : x.f = toF (u % 57896044618658097711785492504343953926634992332820282019728792003956564819968) := congrArg toF vx
  obtain ⟨o, c5, oko, fo⟩ := one_el
  obtain ⟨z, c7, okz, fz⟩ := zero_el
  have hE : (⟨o, z, x, o⟩ : E4).ok := ⟨oko, okz, okx, oko⟩
  have l10 := loop30 (k := clampN k) okx hE
  obtain ⟨h1, h2, h3⟩ := runE_ok (k := clampN k) okx 255 (s := 0) (.inl rfl) hE
  have c12 := change_el h2 h1
  have hok : (bif (runE (clampN k) x 255 0 ⟨o, z, x, o⟩).1 == 1 then (runE (clampN k) x 255 0 ⟨o, z, x, o⟩).2.swap else (runE (clampN k) x 255 0 ⟨o, z, x, o⟩).2).ok := by
    rcases h1 with h1 | h1 <;> rw [h1]
    · exact h2
    · exact E4.swap_ok h2
  have hf : (bif (runE (clampN k) x 255 0 ⟨o, z, x, o⟩).1 == 1 then (runE (clampN k) x 255 0 ⟨o, z, x, o⟩).2.swap else (runE (clampN k) x 255 0 ⟨o, z, x, o⟩).2).f = ladF (clampN k) x.f 255 ⟨1, 0, x.f, 1⟩ := by
    have e0 : unsw 0 (⟨o, z, x, o⟩ : E4).f = ⟨1, 0, x.f, 1⟩ := by
      show (⟨o.f, z.f, x.f, o.f⟩ : Q4) = _
      rw [fo, fz]
    rw [← e0, ← h3]
    unfold unsw
    rcases h1 with h1 | h1 <;> rw [h1] <;> rfl
  generalize (bif (runE (clampN k) x 255 0 ⟨o, z, x, o⟩).1 == 1 then (runE (clampN k) x 255 0 ⟨o, z, x, o⟩).2.swap else (runE (clampN k) x 255 0 ⟨o, z, x, o⟩).2) = r at *
  obtain ⟨i, c14, oki, fi⟩ := inv_el hok.2.1
  obtain ⟨m, c16, okm, fm⟩ := mul_el hok.1 oki
  have c18 := bytes_el okm
  have e : m.v % pP = xF (clampN k) (toF (u % 57896044618658097711785492504343953926634992332820282019728792003956564819968)) := by
    rw [← toF_val]
    show (m.f.val : Int) = _
    have ea : r.a.f = (ladF (clampN k) x.f 255 ⟨1, 0, x.f, 1⟩).a := congrArg Q4.a hf
    have eb : r.b.f = (ladF (clampN k) x.f 255 ⟨1, 0, x.f, 1⟩).b := congrArg Q4.b hf
    rw [fm, fi, ea, eb, fx]
    rfl
  rw [e] at c18
  exact run30 k u (clampN k) x o z o _ _ _ _ _ r.a r.b r.c r.d i m _ (clamp_ok k) c3 c5 c7 c5 l10 c12 c14 c16 c18
end Go.Proofs.YtkjbjgkjplmkhaaDoor.Vm

namespace Go.Proofs.YtkjbjgkjplmkhaaDoor.Vm
open Go Go.Proofs Go.Proofs.YtkjbjgkjplmkhaaDoor
/-! ### The ladder over numbers, to be reckoned -/
def fz {α : Type} (n : Nat) (k : Nat → α) : α := match n with
  | 0 => k 0
  | m + 1 => k (m + 1)
theorem fz_eq {α : Type} (n : Nat) (k : Nat → α) : fz n k = k n := by cases n <;> rfl
def mmN (a b : Nat) : Nat := a * b % pN
def adN (a b : Nat) : Nat := (a + b) % pN
def sbN (a b : Nat) : Nat := (pN - b + a) % pN
def stepK {α : Type} (x a b c d : Nat) (k : Nat → Nat → Nat → Nat → α) : α :=
  fz (adN a b) fun A => fz (sbN a b) fun B => fz (mmN A A) fun AA => fz (mmN B B) fun BB => fz (sbN AA BB) fun E =>
  fz (mmN (sbN c d) A) fun DA => fz (mmN (adN c d) B) fun CB => fz (adN DA CB) fun s => fz (sbN DA CB) fun t =>
  fz (mmN AA BB) fun r1 => fz (mmN E (adN AA (mmN E 121665))) fun r2 => fz (mmN s s) fun r3 => fz (mmN x (mmN t t)) fun r4 => k r1 r2 r3 r4
def ladK (k x : Nat) : Nat → Nat → Nat → Nat → Nat → Nat × Nat
  | 0, a, b, _, _ => (a, b)
  | n + 1, a, b, c, d => bif k / 2 ^ n % 2 == 1 then stepK x c d a b (fun r1 r2 r3 r4 => ladK k x n r3 r4 r1 r2) else stepK x a b c d (ladK k x n)
theorem val_mul' (a b : Fp) : (a * b).val = mmN a.val b.val := Fin.val_mul a b
theorem val_add' (a b : Fp) : (a + b).val = adN a.val b.val := Fin.val_add a b
theorem val_sub' (a b : Fp) : (a - b).val = sbN a.val b.val := rfl
theorem val_c : (toF 121665).val = 121665 := by decide
theorem stepK_eq {α : Type} (x : Fp) (q : Q4) (k : Nat → Nat → Nat → Nat → α) : stepK x.val q.a.val q.b.val q.c.val q.d.val k = k (stepF x q).a.val (stepF x q).b.val (stepF x q).c.val (stepF x q).d.val := by
  unfold stepK stepF
  simp only [fz_eq, val_mul', val_add', val_sub', val_c]
theorem bit_cast (k n : Nat) : ((k : Int) / 2 ^ n % 2 == 1) = (k / 2 ^ n % 2 == 1) := by
  have e : (k : Int) / 2 ^ n % 2 = ((k / 2 ^ n % 2 : Nat) : Int) := by simp
  rw [e]
  rcases Nat.mod_two_eq_zero_or_one (k / 2 ^ n) with h | h <;> rw [h] <;> rfl
theorem ladK_eq (k : Nat) (x : Fp) : ∀ (n : Nat) (q : Q4), ladK k x.val n q.a.val q.b.val q.c.val q.d.val = ((ladF k x n q).a.val, (ladF k x n q).b.val)
  | 0, _ => rfl
  | n + 1, q => by
    unfold ladK ladF bitF
    rw [bit_cast]
    cases (k / 2 ^ n % 2 == 1) with
    | true =>
      rw [cond_true, cond_true]
      have := stepK_eq x q.swap (fun r1 r2 r3 r4 => ladK k x.val n r3 r4 r1 r2)
      refine this.trans ?_
      exact ladK_eq k x n (stepF x q.swap).swap
    | false =>
      rw [cond_false, cond_false, stepK_eq x q]
      exact ladK_eq k x n (stepF x q)
/-- What the ladder comes to, by reckoning. -/
theorem xF_of {k : Nat} {x : Fp} {a b r : Nat} (h : ladK k x.val 255 1 0 x.val 1 = (a, b)) (hr : r < pN) (hb : b < pN) (h1 : (bif b == 0 then r == 0 else r * b % pN == a) = true) : xF k x = r := by
  have e := ladK_eq k x 255 ⟨1, 0, x, 1⟩
  have e2 : ladK k x.val 255 1 0 x.val 1 = ((ladF k x 255 ⟨1, 0, x, 1⟩).a.val, (ladF k x 255 ⟨1, 0, x, 1⟩).b.val) := e
  rw [h] at e2
  unfold xF
  generalize (ladF k x 255 ⟨1, 0, x, 1⟩).a = A at *
  generalize (ladF k x 255 ⟨1, 0, x, 1⟩).b = B at *
  have ha : a = A.val := congrArg Prod.fst e2
  have hb2 : b = B.val := congrArg Prod.snd e2
  by_cases hz : b = 0
  · rw [hz] at h1
    have hB : B = 0 := Fin.ext (by rw [← hb2, hz]; rfl)
    have h1 : (r == 0) = true := h1
    have h1 : r = 0 := eq_of_beq h1
    rw [hB, finv_zero, h1]
    have : A * 0 = 0 := by grind
    rw [this]; rfl
  · have hzb : (b == 0) = false := beq_false_of_ne hz
    rw [hzb] at h1
    have h1 : (r * b % pN == a) = true := h1
    have h1 : r * b % pN = a := eq_of_beq h1
    have hB : B ≠ 0 := by
      intro h0
      apply hz
      rw [hb2, h0]; rfl
    have c := finv_cancel hB
    have hR : A = (⟨r, hr⟩ : Fp) * B := by
      apply Fin.ext
      rw [Fin.val_mul, ← ha, ← hb2]
      exact h1.symm
    have : A * finv B = (⟨r, hr⟩ : Fp) := by
      rw [hR]
      generalize (⟨r, hr⟩ : Fp) = R
      generalize finv B = I at *
      grind
    rw [this]
theorem s5_clamp : clampN 59113212129861306766292965511310747389060462232816290906727672674805732181993 = (30165189820532257910400219259138770425742966066406149896863276672827449772008 : Nat) := by decide +kernel
theorem s5_one : ladK 30165189820532257910400219259138770425742966066406149896863276672827449772008 1 255 1 0 1 1 = ((ladK 30165189820532257910400219259138770425742966066406149896863276672827449772008 1 255 1 0 1 1).1, 0) := by decide +kernel
/-! ### At 0 the answer is 0 -/
theorem zero_step (q : Q4) (h : q.a * q.b = 0 ∧ q.c * q.d = 0) (b : Bool) : (bitF 0 b q).b = 0 ∧ (bitF 0 b q).d = 0 := by
  obtain ⟨qa, qb, qc, qd⟩ := q
  obtain ⟨h1, h2⟩ := h
  dsimp only at h1 h2
  cases b
  · unfold bitF stepF
    dsimp only [cond_false]
    constructor <;> grind
  · unfold bitF stepF Q4.swap
    dsimp only [cond_true]
    constructor <;> grind
theorem zero_lad (k : Int) : ∀ (n : Nat) (q : Q4), (q.a * q.b = 0 ∧ q.c * q.d = 0) → (ladF k 0 (n + 1) q).b = 0
  | 0, q, h => (zero_step q h _).1
  | n + 1, q, h => by
    have h1 := zero_step q h (k / 2 ^ (n + 1) % 2 == 1)
    refine zero_lad k n (bitF 0 (k / 2 ^ (n + 1) % 2 == 1) q) ⟨?_, ?_⟩
    · rw [h1.1]; grind
    · rw [h1.2]; grind
theorem xF_zero (k : Int) : xF k 0 = 0 := by
  unfold xF
  rw [zero_lad k 254 ⟨1, 0, 0, 1⟩ ⟨by decide, by decide⟩, finv_zero]
  generalize (ladF k 0 255 ⟨1, 0, 0, 1⟩).a = A
  have : A * 0 = 0 := by grind
  rw [this]; rfl
end Go.Proofs.YtkjbjgkjplmkhaaDoor.Vm

namespace Go.Proofs.YtkjbjgkjplmkhaaDoor.Vm
open Go Go.Proofs Go.Proofs.YtkjbjgkjplmkhaaDoor
set_option maxRecDepth 100000
theorem run33_5 :
    PureF Tryd.prog 43 [(.c (.int .i64 5))] (.aggi .u8 [233, 135, 65, 30, 140, 60, 187, 4, 48, 9, 218, 190, 125, 117, 151, 104, 108, 51, 12, 100, 205, 16, 70, 9, 59, 99, 145, 48, 116, 228, 176, 130]) :=
  Contract0.of_frun (fn := Tryd.f43) (c := bodyOf Tryd.f43) (fuel := 300) (k := kOf Tryd.prog Tryd.f43) (outs := []) (hs := [])
    (cs := [])
    mixed Tryd.func43 (by kernel_rfl) (by kernel_rfl) (by kernel_rfl) rfl (by kernel_rfl) trivial


end Go.Proofs.YtkjbjgkjplmkhaaDoor.Vm

namespace Go.Proofs.YtkjbjgkjplmkhaaDoor.Vm
open Go Go.Proofs Go.Proofs.YtkjbjgkjplmkhaaDoor
theorem xF_lt (k : Int) (x : Fp) : 0 ≤ xF k x ∧ xF k x < pP := ⟨Int.natCast_nonneg _, by rw [pP_N]; exact Int.ofNat_lt.mpr (Fin.isLt _)⟩
/-- Shared: X's answer, and whether it is 0. -/
theorem shared_ok (k u : Int) : PureF Tryd.prog 25 [(.aggi .u8 (W.bts k)), (.aggi .u8 (W.bts u))] (.tup [(.aggi .u8 (W.bts (xF (clampN k) (toF (u % 57896044618658097711785492504343953926634992332820282019728792003956564819968))))), (.c (.int .i64 (bif xF (clampN k) (toF (u % 57896044618658097711785492504343953926634992332820282019728792003956564819968)) == 0 then 10 else 0)))]) := by
  have c1 := x_ok k u
  have b := xF_lt (clampN k) (toF (u % 57896044618658097711785492504343953926634992332820282019728792003956564819968))
  generalize xF (clampN k) (toF (u % 57896044618658097711785492504343953926634992332820282019728792003956564819968)) = r at *
  have c2 := same_ok r 0
  by_cases h : r = 0
  · subst h
    exact run34a k u 0 c1 c2
  · have hne : W.bts r ≠ W.bts 0 := fun e => h (bts_inj b ⟨by decide, by decide⟩ e)
    rw [decide_eq_false hne] at c2
    have hb : (r == 0) = false := beq_false_of_ne h
    rw [hb]
    exact run34b k u r c1 c2
/-- Public: of 9. -/
theorem public_ok (k : Int) : PureF Tryd.prog 31 [(.aggi .u8 (W.bts k))] (.aggi .u8 (W.bts (xF (clampN k) (toF 9)))) :=
  run32 k _ (x_ok k 9)
theorem s5_bts : PureF Tryd.prog 43 [(.c (.int .i64 5))] (.aggi .u8 (W.bts 59113212129861306766292965511310747389060462232816290906727672674805732181993)) := run33_5
theorem s5_x1 : xF (clampN 59113212129861306766292965511310747389060462232816290906727672674805732181993) (toF 1) = 0 := by
  rw [s5_clamp]
  exact xF_of (x := toF 1) (r := 0) s5_one (by decide) (by decide) rfl
end Go.Proofs.YtkjbjgkjplmkhaaDoor.Vm
