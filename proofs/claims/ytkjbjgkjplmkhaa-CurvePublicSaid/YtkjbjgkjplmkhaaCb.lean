/- What functions of the program come to: parts of the walk (Cb). -/
import Derived.Test.YtkjbjgkjplmkhaaFg
import Derived.Test.YtkjbjgkjplmkhaaCa
import Derived.KernelRfl
import Derived.Test.YtkjbjgkjplmkhaaProg
namespace Go.Proofs.Ytkjbjgkjplmkhaa.Vm
open Go Go.Proofs Go.Proofs.Ytkjbjgkjplmkhaa
/-! ### The ladder, in the field -/
structure Q4 where
  a : Fp
  b : Fp
  c : Fp
  d : Fp
def Q4.swap (q : Q4) : Q4 := ⟨q.c, q.d, q.a, q.b⟩
def stepF (x : Fp) (q : Q4) : Q4 :=
  ⟨(q.a + q.b) * (q.a + q.b) * ((q.a - q.b) * (q.a - q.b)),
   ((q.a + q.b) * (q.a + q.b) - (q.a - q.b) * (q.a - q.b)) * ((q.a + q.b) * (q.a + q.b) + ((q.a + q.b) * (q.a + q.b) - (q.a - q.b) * (q.a - q.b)) * toF 121665),
   ((q.c - q.d) * (q.a + q.b) + (q.c + q.d) * (q.a - q.b)) * ((q.c - q.d) * (q.a + q.b) + (q.c + q.d) * (q.a - q.b)),
   x * (((q.c - q.d) * (q.a + q.b) - (q.c + q.d) * (q.a - q.b)) * ((q.c - q.d) * (q.a + q.b) - (q.c + q.d) * (q.a - q.b)))⟩
def bitF (x : Fp) (b : Bool) (q : Q4) : Q4 := bif b then (stepF x q.swap).swap else stepF x q
def ladF (k : Int) (x : Fp) : Nat → Q4 → Q4
  | 0, q => q
  | n + 1, q => ladF k x n (bitF x (k / 2 ^ n % 2 == 1) q)
def xF (k : Int) (x : Fp) : Int := (((ladF k x 255 ⟨1, 0, x, 1⟩).a * finv (ladF k x 255 ⟨1, 0, x, 1⟩).b : Fp).val : Int)
/-! ### Over elements -/
structure E4 where
  a : W.El
  b : W.El
  c : W.El
  d : W.El
def E4.ok (e : E4) : Prop := e.a.ok ∧ e.b.ok ∧ e.c.ok ∧ e.d.ok
def E4.f (e : E4) : Q4 := ⟨e.a.f, e.b.f, e.c.f, e.d.f⟩
def E4.swap (e : E4) : E4 := ⟨e.c, e.d, e.a, e.b⟩
theorem E4.swap_ok {e : E4} (h : e.ok) : e.swap.ok := ⟨h.2.2.1, h.2.2.2, h.1, h.2.1⟩
theorem square_el {a : W.El} (ok_a : a.ok) : ∃ c : W.El, PureF Try.prog 44 [(.aggi .u64 (W.el a))] (.aggi .u64 (W.el c)) ∧ c.ok ∧ c.f = a.f * a.f := by
  obtain ⟨c, h, ok, e⟩ := mul_el ok_a ok_a
  exact ⟨c, run44 a c h, ok, e⟩
theorem change_el {e : E4} (h : e.ok) {s : Int} (hs : s = 0 ∨ s = 1) :
    PureF Try.prog 39 [(.aggi .u64 (W.pt e.a e.b)), (.aggi .u64 (W.pt e.c e.d)), (.c (.int .u64 s))] (.tup [(.aggi .u64 (W.pt (bif s == 1 then e.swap else e).a (bif s == 1 then e.swap else e).b)), (.aggi .u64 (W.pt (bif s == 1 then e.swap else e).c (bif s == 1 then e.swap else e).d))]) := by
  have hu : U64 s := by unfold U64; omega
  have c1 := swap_el h.1 h.2.2.1 hu
  have c3 := swap_el h.2.1 h.2.2.2 hu
  rcases hs with rfl | rfl
  · exact run39 e.a e.b e.c e.d 0 _ _ _ _ c1 c3
  · exact run39 e.a e.b e.c e.d 1 _ _ _ _ c1 c3
theorem step_el {e : E4} {u : W.El} (h : e.ok) (hu : u.ok) : ∃ r : E4, PureF Try.prog 40 [(.aggi .u64 (W.pt e.a e.b)), (.aggi .u64 (W.pt e.c e.d)), (.aggi .u64 (W.el u))] (.tup [(.aggi .u64 (W.pt r.a r.b)), (.aggi .u64 (W.pt r.c r.d))]) ∧ r.ok ∧ r.f = stepF u.f e.f := by
  obtain ⟨a, b, c, d⟩ := e
  obtain ⟨ok_a, ok_b, ok_c, ok_d⟩ := h
  have ok_u := hu
  dsimp only at ok_a ok_b ok_c ok_d
  obtain ⟨r22_0e, c1, ok_r22_0e, f_r22_0e⟩ := add_el ok_a ok_b
  obtain ⟨r23_2e, c3, ok_r23_2e, f_r23_2e⟩ := sub_el ok_a ok_b
  obtain ⟨r44_4e, c5, ok_r44_4e, f_r44_4e⟩ := square_el ok_r22_0e
  obtain ⟨r44_6e, c7, ok_r44_6e, f_r44_6e⟩ := square_el ok_r23_2e
  obtain ⟨r23_8e, c9, ok_r23_8e, f_r23_8e⟩ := sub_el ok_r44_4e ok_r44_6e
  obtain ⟨r23_10e, c11, ok_r23_10e, f_r23_10e⟩ := sub_el ok_c ok_d
  obtain ⟨r21_12e, c13, ok_r21_12e, f_r21_12e⟩ := mul_el ok_r23_10e ok_r22_0e
  obtain ⟨r22_14e, c15, ok_r22_14e, f_r22_14e⟩ := add_el ok_c ok_d
  obtain ⟨r21_16e, c17, ok_r21_16e, f_r21_16e⟩ := mul_el ok_r22_14e ok_r23_2e
  obtain ⟨r22_18e, c19, ok_r22_18e, f_r22_18e⟩ := add_el ok_r21_12e ok_r21_16e
  obtain ⟨r44_20e, c21, ok_r44_20e, f_r44_20e⟩ := square_el ok_r22_18e
  obtain ⟨r23_22e, c23, ok_r23_22e, f_r23_22e⟩ := sub_el ok_r21_12e ok_r21_16e
  obtain ⟨r44_24e, c25, ok_r44_24e, f_r44_24e⟩ := square_el ok_r23_22e
  obtain ⟨r21_26e, c27, ok_r21_26e, f_r21_26e⟩ := mul_el ok_u ok_r44_24e
  obtain ⟨r21_28e, c29, ok_r21_28e, f_r21_28e⟩ := mul_el ok_r44_4e ok_r44_6e
  obtain ⟨r26_30e, c31, ok_r26_30e, f_r26_30e⟩ := small_el ok_r23_8e (n := 121665) (by decide)
  obtain ⟨r22_32e, c33, ok_r22_32e, f_r22_32e⟩ := add_el ok_r44_4e ok_r26_30e
  obtain ⟨r21_34e, c35, ok_r21_34e, f_r21_34e⟩ := mul_el ok_r23_8e ok_r22_32e
  refine ⟨⟨r21_28e, r21_34e, r44_20e, r21_26e⟩, run40 a b c d u r22_0e r23_2e r44_4e r44_6e r23_8e r23_10e r21_12e r22_14e r21_16e r22_18e r44_20e r23_22e r44_24e r21_26e r21_28e r26_30e r22_32e r21_34e c1 c3 c5 c7 c9 c11 c13 c15 c17 c19 c21 c23 c25 c27 c29 c31 c33 c35, ⟨ok_r21_28e, ok_r21_34e, ok_r44_20e, ok_r21_26e⟩, ?_⟩
  unfold E4.f stepF
  dsimp only
  rw [f_r21_34e, f_r22_32e, f_r26_30e, f_r21_28e, f_r21_26e, f_r44_24e, f_r23_22e, f_r44_20e, f_r22_18e, f_r21_16e, f_r22_14e, f_r21_12e, f_r23_10e, f_r23_8e, f_r44_6e, f_r44_4e, f_r23_2e, f_r22_0e]
noncomputable def stepE (u : W.El) (e : E4) : E4 := open Classical in if h : e.ok ∧ u.ok then Classical.choose (step_el h.1 h.2) else e
theorem stepE_spec {e : E4} {u : W.El} (h : e.ok) (hu : u.ok) : PureF Try.prog 40 [(.aggi .u64 (W.pt e.a e.b)), (.aggi .u64 (W.pt e.c e.d)), (.aggi .u64 (W.el u))] (.tup [(.aggi .u64 (W.pt (stepE u e).a (stepE u e).b)), (.aggi .u64 (W.pt (stepE u e).c (stepE u e).d))]) ∧ (stepE u e).ok ∧ (stepE u e).f = stepF u.f e.f := by
  unfold stepE
  rw [dif_pos ⟨h, hu⟩]
  exact Classical.choose_spec (step_el h hu)
/-- One round: the bit that was, the state. -/
noncomputable def nextE (k : Int) (u : W.El) (n : Nat) (s : Int) (e : E4) : E4 := stepE u (bif (s + k / 2 ^ n % 2) % 2 == 1 then e.swap else e)
noncomputable def runE (k : Int) (u : W.El) : Nat → Int → E4 → Int × E4
  | 0, s, e => (s, e)
  | n + 1, s, e => runE k u n (k / 2 ^ n % 2) (nextE k u n s e)
def unsw (s : Int) (q : Q4) : Q4 := bif s == 1 then q.swap else q
theorem stepF_swap (x : Fp) (q : Q4) : (stepF x q.swap).c = (stepF x q).c ∧ (stepF x q.swap).d = (stepF x q).d := by
  unfold stepF Q4.swap
  dsimp only
  constructor <;> grind
theorem bit01 (k : Int) (n : Nat) : k / 2 ^ n % 2 = 0 ∨ k / 2 ^ n % 2 = 1 := by omega
theorem nextE_ok {k : Int} {u : W.El} (hu : u.ok) {n : Nat} {s : Int} (hs : s = 0 ∨ s = 1) {e : E4} (h : e.ok) :
    (nextE k u n s e).ok ∧ unsw (k / 2 ^ n % 2) (nextE k u n s e).f = bitF u.f (k / 2 ^ n % 2 == 1) (unsw s e.f) := by
  have h1 := stepE_spec h hu
  have h2 := stepE_spec (E4.swap_ok h) hu
  have sw : e.swap.f = e.f.swap := rfl
  have sws : ∀ q : Q4, q.swap.swap = q := fun _ => rfl
  unfold nextE unsw bitF
  rcases bit01 k n with hb | hb <;> rw [hb] <;> rcases hs with rfl | rfl
  · exact ⟨h1.2.1, h1.2.2⟩
  · refine ⟨h2.2.1, ?_⟩
    show (stepE u e.swap).f = stepF u.f e.f.swap
    rw [h2.2.2, sw]
  · refine ⟨h2.2.1, ?_⟩
    show (stepE u e.swap).f.swap = (stepF u.f e.f.swap).swap
    rw [h2.2.2, sw]
  · refine ⟨h1.2.1, ?_⟩
    show (stepE u e).f.swap = (stepF u.f e.f.swap.swap).swap
    rw [h1.2.2, sws]
theorem runE_ok {k : Int} {u : W.El} (hu : u.ok) : ∀ (n : Nat) {s : Int} (_ : s = 0 ∨ s = 1) {e : E4} (_ : e.ok),
    ((runE k u n s e).1 = 0 ∨ (runE k u n s e).1 = 1) ∧ (runE k u n s e).2.ok ∧ unsw (runE k u n s e).1 (runE k u n s e).2.f = ladF k u.f n (unsw s e.f)
  | 0, _, hs, _, h => ⟨hs, h, rfl⟩
  | n + 1, s, hs, e, h => by
    obtain ⟨h1, h2⟩ := nextE_ok (k := k) hu (n := n) hs h
    have := runE_ok (k := k) hu n (bit01 k n) h1
    rw [h2] at this
    exact this
theorem lowbits {m : Int} {j : Nat} (hj : j < 8) : (m % 256) / 2 ^ j % 2 = m / 2 ^ j % 2 := by
  rcases (by omega : j = 0 ∨ j = 1 ∨ j = 2 ∨ j = 3 ∨ j = 4 ∨ j = 5 ∨ j = 6 ∨ j = 7) with rfl | rfl | rfl | rfl | rfl | rfl | rfl | rfl <;> simp only [Int.reducePow] <;> omega
theorem bit_at (k : Int) (n : Nat) : (k / 256 ^ (n / 8) % 256) / 2 ^ (n % 8) % 2 = k / 2 ^ n % 2 := by
  rw [lowbits (Nat.mod_lt _ (by decide)), Int.ediv_ediv_of_nonneg (Int.le_of_lt (pow0 _))]
  have e : (256 : Int) ^ (n / 8) * 2 ^ (n % 8) = 2 ^ n := by
    have : (256 : Int) = 2 ^ 8 := by decide
    rw [this, ← Int.pow_mul, ← Int.pow_add, Nat.div_add_mod]
  rw [e]
theorem xor01 {s b : Int} (hs : s = 0 ∨ s = 1) (hb : b = 0 ∨ b = 1) : bXor IntKind.u64 s b = (s + b) % 2 := by
  rcases hs with rfl | rfl <;> rcases hb with rfl | rfl <;> rfl
/-- One round of X's loop. -/
theorem round30 {k : Int} {u : W.El} (hu : u.ok) {s : Int} (hs : s = 0 ∨ s = 1) {e : E4} (h : e.ok) {n : Nat} (hn : n < 256) :
    CodeOk Try.prog 65 353 (kAt (kOf Try.prog Try.f30) [true, true, true, true, true, false, true, false, false]) (L30I k u s n e.a e.b e.c e.d) .normal (L30I k u (k / 2 ^ n % 2) ((n : Int) - 1) (nextE k u n s e).a (nextE k u n s e).b (nextE k u n s e).c (nextE k u n s e).d) := by
  have q1 : Int.tdiv (n : Int) 8 = ((n / 8 : Nat) : Int) := by
    rw [Int.tdiv_eq_ediv_of_nonneg (by omega)]; omega
  have q2 : Int.tmod (n : Int) 8 = ((n % 8 : Nat) : Int) := by
    rw [Int.tmod_eq_emod_of_nonneg (by omega)]; omega
  have h11 : IntKind.wrap IntKind.i64 (Int.tdiv (n : Int) 8) = ((n / 8 : Nat) : Int) := by rw [q1, wrapI (by unfold I64; omega)]
  have lt : n / 8 < 32 := by omega
  have h14 : List.getD (W.bts k) (addO 0 (mulE (Int.toNat ((n / 8 : Nat) : Int)) 1)) 0 = k / 256 ^ (n / 8) % 256 := by rw [Int.toNat_natCast, off_eq, bts_at k lt]
  have c16 : (addO (0 : Nat) (mulE (Int.toNat ((n / 8 : Nat) : Int)) (1 : Nat)) + (1 : Nat) ≤ (32 : Nat)) := by rw [Int.toNat_natCast, off_eq]; omega
  have h19 : (k / 256 ^ (n / 8) % 256) / 2 ^ min (Int.toNat ((n % 8 : Nat) : Int)) 8 = (k / 256 ^ (n / 8) % 256) / 2 ^ (n % 8) := by
    rw [Int.toNat_natCast, Nat.min_eq_left (by omega)]
  have p1 : (0 : Int) < 2 ^ (n % 8) := Int.pow_pos (by decide)
  have b1 : 0 ≤ (k / 256 ^ (n / 8) % 256) / 2 ^ (n % 8) := Int.ediv_nonneg (Int.emod_nonneg _ (by decide)) (Int.le_of_lt p1)
  have b2 : (k / 256 ^ (n / 8) % 256) / 2 ^ (n % 8) < 18446744073709551616 := Int.lt_of_le_of_lt (Int.ediv_le_self _ (Int.emod_nonneg _ (by decide))) (Int.lt_trans (Int.emod_lt_of_pos _ (by decide)) (by decide))
  have h22 := Int.emod_eq_of_lt b1 b2
  have h24 : bAnd IntKind.u64 ((k / 256 ^ (n / 8) % 256) / 2 ^ (n % 8)) 1 = k / 2 ^ n % 2 := by rw [lowbit ⟨b1, b2⟩, bit_at]
  have h26 := xor01 hs (bit01 k n)
  have hx : (s + k / 2 ^ n % 2) % 2 = 0 ∨ (s + k / 2 ^ n % 2) % 2 = 1 := by omega
  have c29 := change_el h hx
  have hok : (bif (s + k / 2 ^ n % 2) % 2 == 1 then e.swap else e).ok := by
    rcases hx with hx | hx <;> rw [hx]
    · exact h
    · exact E4.swap_ok h
  have c31 := (stepE_spec hok hu).1
  exact run30_go k u s n e.a e.b e.c e.d _ _ _ _ _ _ _ _ _ _ _ _ _ _ _ _ (decide_eq_true (by omega)) h11 ⟨by omega, by omega⟩ h14 c16 q2 h19 (by omega) h22 h24 h26 c29 c31 (wrapI (by unfold I64; omega))
theorem loop30 {k : Int} {u : W.El} (hu : u.ok) {e : E4} (h : e.ok) :
    CodeOk Try.prog 65 353 (kAt (kOf Try.prog Try.f30) [true, true, true, true, true, false, true, false]) (L30I k u 0 254 e.a e.b e.c e.d) (.exit 0) (L30J k u (runE k u 255 0 e).1 (runE k u 255 0 e).2.a (runE k u 255 0 e).2.b (runE k u 255 0 e).2.c (runE k u 255 0 e).2.d) := by
  have key := CodeOk.loop (P := Try.prog) (nt := 65) (n0 := 353) (k := kAt (kOf Try.prog Try.f30) [true, true, true, true, true, false, true, false, false]) (ex := .exit 0) (s' := L30J k u (runE k u 255 0 e).1 (runE k u 255 0 e).2.a (runE k u 255 0 e).2.b (runE k u 255 0 e).2.c (runE k u 255 0 e).2.d)
    (fun x : Nat × Int × E4 => L30I k u x.2.1 ((x.1 : Int) - 1) x.2.2.a x.2.2.b x.2.2.c x.2.2.d) (fun x => x.1 ≤ 255 ∧ (x.2.1 = 0 ∨ x.2.1 = 1) ∧ x.2.2.ok ∧ runE k u x.1 x.2.1 x.2.2 = runE k u 255 0 e) (fun x => x.1) (by simp) ?_ (255, 0, e) ⟨Nat.le_refl _, .inl rfl, h, rfl⟩
  · have e255 : ((255 : Nat) : Int) - 1 = 254 := rfl
    dsimp only at key
    rw [e255] at key
    have hk : kAt (kOf Try.prog Try.f30) [true, true, true, true, true, false, true, false] = .loop (kAt (kOf Try.prog Try.f30) [true, true, true, true, true, false, true, false, false]) := by kernel_rfl
    rw [hk]
    exact key
  · rintro ⟨n, s, e'⟩ ⟨hn, hs, he, hI⟩
    dsimp only at hn hs he hI
    cases n with
    | zero =>
      right
      rw [← hI]
      exact run30_out k u s _ _ _ _ _ (decide_eq_false (by dsimp only; omega))
    | succ n =>
      left
      have e1 : (((n + 1 : Nat) : Int) - 1) = (n : Int) := by omega
      refine ⟨(n, k / 2 ^ n % 2, nextE k u n s e'), ⟨by dsimp only; omega, bit01 k n, (nextE_ok hu hs he).1, hI⟩, by dsimp only; omega, ?_⟩
      dsimp only
      rw [e1]
      exact round30 hu hs he (by omega)
/-! ### Clamp -/
def clampN (k : Int) : Int := k % 28948022309329048855892746252171976963317496166410141009864396001978282409984 - k % 8 + 28948022309329048855892746252171976963317496166410141009864396001978282409984
theorem and248 : ∀ n : Nat, n < 256 → bAnd IntKind.u8 (n : Int) 248 = (n : Int) - (n : Int) % 8 := by decide +kernel
theorem and127 : ∀ n : Nat, n < 256 → bOr IntKind.u8 (bAnd IntKind.u8 (n : Int) 127) 64 = (n : Int) % 64 + 64 := by decide +kernel
theorem and248' {x : Int} (h : 0 ≤ x ∧ x < 256) : bAnd IntKind.u8 x 248 = x - x % 8 := by
  have := and248 x.toNat (by omega)
  rwa [Int.toNat_of_nonneg h.1] at this
theorem and127' {x : Int} (h : 0 ≤ x ∧ x < 256) : bOr IntKind.u8 (bAnd IntKind.u8 x 127) 64 = x % 64 + 64 := by
  have := and127 x.toNat (by omega)
  rwa [Int.toNat_of_nonneg h.1] at this
theorem clamp_ok (k : Int) : PureF Try.prog 31 [(.aggi .u8 (W.bts k))] (.aggi .u8 (W.bts (clampN k))) := by
  have h2 := and248' (x := k % 256) (by omega)
  have h8 := and127' (x := k / 452312848583266388373324160190187140051835877600158453279131187530910662656 % 256) (by omega)
  have run := run31 k _ _ _ _ _ rfl h2 rfl rfl h8
  refine Eq.mp (congrArg (fun l => PureF Try.prog 31 [(.aggi .u8 (W.bts k))] (.aggi .u8 l)) ?_) run
  unfold W.bts clampN
  simp only [List.cons.injEq, and_true]
  refine ⟨by omega, by omega, by omega, by omega, by omega, by omega, by omega, by omega, by omega, by omega, by omega, by omega, by omega, by omega, by omega, by omega, by omega, by omega, by omega, by omega, by omega, by omega, by omega, by omega, by omega, by omega, by omega, by omega, by omega, by omega, by omega, by omega⟩
/-- X: the ladder's answer. -/
theorem x_ok (k u : Int) : PureF Try.prog 30 [(.aggi .u8 (W.bts k)), (.aggi .u8 (W.bts u))] (.aggi .u8 (W.bts (xF (clampN k) (toF (u % 57896044618658097711785492504343953926634992332820282019728792003956564819968))))) := by
  obtain ⟨x, c3, okx, vx⟩ := from_el u
  have fx : x.f = toF (u % 57896044618658097711785492504343953926634992332820282019728792003956564819968) := congrArg toF vx
  obtain ⟨o, c5, oko, fo⟩ := one_el
  obtain ⟨z, c7, okz, fz⟩ := zero_el
  have hE : (⟨o, z, x, o⟩ : E4).ok := ⟨oko, okz, okx, oko⟩
  have l10 := loop30 (k := clampN k) okx hE
  obtain ⟨h1, h2, h3⟩ := runE_ok (k := clampN k) okx 255 (s := 0) (.inl rfl) hE
  have c12 := change_el h2 h1
  have hok : (bif (runE (clampN k) x 255 0 ⟨o, z, x, o⟩).1 == 1 then (runE (clampN k) x 255 0 ⟨o, z, x, o⟩).2.swap else (runE (clampN k) x 255 0 ⟨o, z, x, o⟩).2).ok := by
    rcases h1 with h1 | h1 <;> rw [h1]
    · exact h2
    · exact E4.swap_ok h2
  have hf : (bif (runE (clampN k) x 255 0 ⟨o, z, x, o⟩).1 == 1 then (runE (clampN k) x 255 0 ⟨o, z, x, o⟩).2.swap else (runE (clampN k) x 255 0 ⟨o, z, x, o⟩).2).f = ladF (clampN k) x.f 255 ⟨1, 0, x.f, 1⟩ := by
    have e0 : unsw 0 (⟨o, z, x, o⟩ : E4).f = ⟨1, 0, x.f, 1⟩ := by
      show (⟨o.f, z.f, x.f, o.f⟩ : Q4) = _
      rw [fo, fz]
    rw [← e0, ← h3]
    unfold unsw
    rcases h1 with h1 | h1 <;> rw [h1] <;> rfl
  generalize (bif (runE (clampN k) x 255 0 ⟨o, z, x, o⟩).1 == 1 then (runE (clampN k) x 255 0 ⟨o, z, x, o⟩).2.swap else (runE (clampN k) x 255 0 ⟨o, z, x, o⟩).2) = r at *
  obtain ⟨i, c14, oki, fi⟩ := inv_el hok.2.1
  obtain ⟨m, c16, okm, fm⟩ := mul_el hok.1 oki
  have c18 := bytes_el okm
  have e : m.v % pP = xF (clampN k) (toF (u % 57896044618658097711785492504343953926634992332820282019728792003956564819968)) := by
    rw [← toF_val]
    show (m.f.val : Int) = _
    have ea : r.a.f = (ladF (clampN k) x.f 255 ⟨1, 0, x.f, 1⟩).a := congrArg Q4.a hf
    have eb : r.b.f = (ladF (clampN k) x.f 255 ⟨1, 0, x.f, 1⟩).b := congrArg Q4.b hf
    rw [fm, fi, ea, eb, fx]
    rfl
  rw [e] at c18
  exact run30 k u (clampN k) x o z o _ _ _ _ _ r.a r.b r.c r.d i m _ (clamp_ok k) c3 c5 c7 c5 l10 c12 c14 c16 c18
end Go.Proofs.Ytkjbjgkjplmkhaa.Vm

namespace Go.Proofs.Ytkjbjgkjplmkhaa.Vm
open Go Go.Proofs Go.Proofs.Ytkjbjgkjplmkhaa
/-! ### The ladder over numbers, to be reckoned -/
def fz {α : Type} (n : Nat) (k : Nat → α) : α := match n with
  | 0 => k 0
  | m + 1 => k (m + 1)
theorem fz_eq {α : Type} (n : Nat) (k : Nat → α) : fz n k = k n := by cases n <;> rfl
def mmN (a b : Nat) : Nat := a * b % pN
def adN (a b : Nat) : Nat := (a + b) % pN
def sbN (a b : Nat) : Nat := (pN - b + a) % pN
def stepK {α : Type} (x a b c d : Nat) (k : Nat → Nat → Nat → Nat → α) : α :=
  fz (adN a b) fun A => fz (sbN a b) fun B => fz (mmN A A) fun AA => fz (mmN B B) fun BB => fz (sbN AA BB) fun E =>
  fz (mmN (sbN c d) A) fun DA => fz (mmN (adN c d) B) fun CB => fz (adN DA CB) fun s => fz (sbN DA CB) fun t =>
  fz (mmN AA BB) fun r1 => fz (mmN E (adN AA (mmN E 121665))) fun r2 => fz (mmN s s) fun r3 => fz (mmN x (mmN t t)) fun r4 => k r1 r2 r3 r4
def ladK (k x : Nat) : Nat → Nat → Nat → Nat → Nat → Nat × Nat
  | 0, a, b, _, _ => (a, b)
  | n + 1, a, b, c, d => bif k / 2 ^ n % 2 == 1 then stepK x c d a b (fun r1 r2 r3 r4 => ladK k x n r3 r4 r1 r2) else stepK x a b c d (ladK k x n)
theorem val_mul' (a b : Fp) : (a * b).val = mmN a.val b.val := Fin.val_mul a b
theorem val_add' (a b : Fp) : (a + b).val = adN a.val b.val := Fin.val_add a b
theorem val_sub' (a b : Fp) : (a - b).val = sbN a.val b.val := rfl
theorem val_c : (toF 121665).val = 121665 := by decide
theorem stepK_eq {α : Type} (x : Fp) (q : Q4) (k : Nat → Nat → Nat → Nat → α) : stepK x.val q.a.val q.b.val q.c.val q.d.val k = k (stepF x q).a.val (stepF x q).b.val (stepF x q).c.val (stepF x q).d.val := by
  unfold stepK stepF
  simp only [fz_eq, val_mul', val_add', val_sub', val_c]
theorem bit_cast (k n : Nat) : ((k : Int) / 2 ^ n % 2 == 1) = (k / 2 ^ n % 2 == 1) := by
  have e : (k : Int) / 2 ^ n % 2 = ((k / 2 ^ n % 2 : Nat) : Int) := by simp
  rw [e]
  rcases Nat.mod_two_eq_zero_or_one (k / 2 ^ n) with h | h <;> rw [h] <;> rfl
theorem ladK_eq (k : Nat) (x : Fp) : ∀ (n : Nat) (q : Q4), ladK k x.val n q.a.val q.b.val q.c.val q.d.val = ((ladF k x n q).a.val, (ladF k x n q).b.val)
  | 0, _ => rfl
  | n + 1, q => by
    unfold ladK ladF bitF
    rw [bit_cast]
    cases (k / 2 ^ n % 2 == 1) with
    | true =>
      rw [cond_true, cond_true]
      have := stepK_eq x q.swap (fun r1 r2 r3 r4 => ladK k x.val n r3 r4 r1 r2)
      refine this.trans ?_
      exact ladK_eq k x n (stepF x q.swap).swap
    | false =>
      rw [cond_false, cond_false, stepK_eq x q]
      exact ladK_eq k x n (stepF x q)
/-- What the ladder comes to, by reckoning. -/
theorem xF_of {k : Nat} {x : Fp} {a b r : Nat} (h : ladK k x.val 255 1 0 x.val 1 = (a, b)) (hr : r < pN) (_hb : b < pN) (h1 : (bif b == 0 then r == 0 else r * b % pN == a) = true) : xF k x = r := by
  have e := ladK_eq k x 255 ⟨1, 0, x, 1⟩
  have e2 : ladK k x.val 255 1 0 x.val 1 = ((ladF k x 255 ⟨1, 0, x, 1⟩).a.val, (ladF k x 255 ⟨1, 0, x, 1⟩).b.val) := e
  rw [h] at e2
  unfold xF
  generalize (ladF k x 255 ⟨1, 0, x, 1⟩).a = A at *
  generalize (ladF k x 255 ⟨1, 0, x, 1⟩).b = B at *
  have ha : a = A.val := congrArg Prod.fst e2
  have hb2 : b = B.val := congrArg Prod.snd e2
  by_cases hz : b = 0
  · rw [hz] at h1
    have hB : B = 0 := Fin.ext (by rw [← hb2, hz]; rfl)
    have h1 : (r == 0) = true := h1
    have h1 : r = 0 := eq_of_beq h1
    rw [hB, finv_zero, h1]
    have : A * 0 = 0 := by grind
    rw [this]; rfl
  · have hzb : (b == 0) = false := beq_false_of_ne hz
    rw [hzb] at h1
    have h1 : (r * b % pN == a) = true := h1
    have h1 : r * b % pN = a := eq_of_beq h1
    have hB : B ≠ 0 := by
      intro h0
      apply hz
      rw [hb2, h0]; rfl
    have c := finv_cancel hB
    have hR : A = (⟨r, hr⟩ : Fp) * B := by
      apply Fin.ext
      rw [Fin.val_mul, ← ha, ← hb2]
      exact h1.symm
    have : A * finv B = (⟨r, hr⟩ : Fp) := by
      rw [hR]
      generalize (⟨r, hr⟩ : Fp) = R
      generalize finv B = I at *
      grind
    rw [this]
theorem s5_clamp : clampN 59113212129861306766292965511310747389060462232816290906727672674805732181993 = (30165189820532257910400219259138770425742966066406149896863276672827449772008 : Nat) := by decide +kernel
theorem s5_one : ladK 30165189820532257910400219259138770425742966066406149896863276672827449772008 1 255 1 0 1 1 = ((ladK 30165189820532257910400219259138770425742966066406149896863276672827449772008 1 255 1 0 1 1).1, 0) := by decide +kernel
/-! ### At 0 the answer is 0 -/
theorem zero_step (q : Q4) (h : q.a * q.b = 0 ∧ q.c * q.d = 0) (b : Bool) : (bitF 0 b q).b = 0 ∧ (bitF 0 b q).d = 0 := by
  obtain ⟨qa, qb, qc, qd⟩ := q
  obtain ⟨h1, h2⟩ := h
  dsimp only at h1 h2
  cases b
  · unfold bitF stepF
    dsimp only [cond_false]
    constructor <;> grind
  · unfold bitF stepF Q4.swap
    dsimp only [cond_true]
    constructor <;> grind
theorem zero_lad (k : Int) : ∀ (n : Nat) (q : Q4), (q.a * q.b = 0 ∧ q.c * q.d = 0) → (ladF k 0 (n + 1) q).b = 0
  | 0, q, h => (zero_step q h _).1
  | n + 1, q, h => by
    have h1 := zero_step q h (k / 2 ^ (n + 1) % 2 == 1)
    refine zero_lad k n (bitF 0 (k / 2 ^ (n + 1) % 2 == 1) q) ⟨?_, ?_⟩
    · rw [h1.1]; grind
    · rw [h1.2]; grind
theorem xF_zero (k : Int) : xF k 0 = 0 := by
  unfold xF
  rw [zero_lad k 254 ⟨1, 0, 0, 1⟩ ⟨by decide, by decide⟩, finv_zero]
  generalize (ladF k 0 255 ⟨1, 0, 0, 1⟩).a = A
  have : A * 0 = 0 := by grind
  rw [this]; rfl
end Go.Proofs.Ytkjbjgkjplmkhaa.Vm

namespace Go.Proofs.Ytkjbjgkjplmkhaa.Vm
open Go Go.Proofs Go.Proofs.Ytkjbjgkjplmkhaa
set_option maxRecDepth 100000
theorem run10 (k u x1 x3 r30_5n r31_7n r30_9n r31_12n r31_14n r31_16n : Int)
    (h0 : (u / 452312848583266388373324160190187140051835877600158453279131187530910662656 % 256) = x1)
    (h2 : (bXor IntKind.u8 x1 128) = x3)
    (c4 : PureF Try.prog 29 [] (.c (.bool (true))))
    (c6 : PureF Try.prog 30 [(.aggi .u8 (Go.Proofs.Ytkjbjgkjplmkhaa.W.bts k)), (.aggi .u8 (Go.Proofs.Ytkjbjgkjplmkhaa.W.bts u))] (.aggi .u8 (W.bts r30_5n)))
    (c8 : PureF Try.prog 31 [(.aggi .u8 (Go.Proofs.Ytkjbjgkjplmkhaa.W.bts k))] (.aggi .u8 (W.bts r31_7n)))
    (c10 : PureF Try.prog 30 [(.aggi .u8 (W.bts r31_7n)), (.aggi .u8 [(u % 256), (u / 256 % 256), (u / 65536 % 256), (u / 16777216 % 256), (u / 4294967296 % 256), (u / 1099511627776 % 256), (u / 281474976710656 % 256), (u / 72057594037927936 % 256), (u / 18446744073709551616 % 256), (u / 4722366482869645213696 % 256), (u / 1208925819614629174706176 % 256), (u / 309485009821345068724781056 % 256), (u / 79228162514264337593543950336 % 256), (u / 20282409603651670423947251286016 % 256), (u / 5192296858534827628530496329220096 % 256), (u / 1329227995784915872903807060280344576 % 256), (u / 340282366920938463463374607431768211456 % 256), (u / 87112285931760246646623899502532662132736 % 256), (u / 22300745198530623141535718272648361505980416 % 256), (u / 5708990770823839524233143877797980545530986496 % 256), (u / 1461501637330902918203684832716283019655932542976 % 256), (u / 374144419156711147060143317175368453031918731001856 % 256), (u / 95780971304118053647396689196894323976171195136475136 % 256), (u / 24519928653854221733733552434404946937899825954937634816 % 256), (u / 6277101735386680763835789423207666416102355444464034512896 % 256), (u / 1606938044258990275541962092341162602522202993782792835301376 % 256), (u / 411376139330301510538742295639337626245683966408394965837152256 % 256), (u / 105312291668557186697918027683670432318895095400549111254310977536 % 256), (u / 26959946667150639794667015087019630673637144422540572481103610249216 % 256), (u / 6901746346790563787434755862277025452451108972170386555162524223799296 % 256), (u / 1766847064778384329583297500742918515827483896875618958121606201292619776 % 256), x3])] (.aggi .u8 (W.bts r30_9n)))
    (h11 : (W.bts r30_5n == W.bts r30_9n) = true)
    (c13 : PureF Try.prog 31 [(.aggi .u8 (Go.Proofs.Ytkjbjgkjplmkhaa.W.bts k))] (.aggi .u8 (W.bts r31_12n)))
    (c15 : PureF Try.prog 31 [(.aggi .u8 (W.bts r31_12n))] (.aggi .u8 (W.bts r31_14n)))
    (c17 : PureF Try.prog 31 [(.aggi .u8 (Go.Proofs.Ytkjbjgkjplmkhaa.W.bts k))] (.aggi .u8 (W.bts r31_16n)))
    (h18 : (W.bts r31_14n == W.bts r31_16n) = true) :
    PureF Try.prog 10 [(.aggi .u8 (W.bts k)), (.aggi .u8 (W.bts u))] (.c (.bool (true))) :=
  Contract0.of_frun (fn := Try.f10) (c := bodyOf Try.f10) (fuel := 300) (k := kOf Try.prog Try.f10) (outs := []) (hs := [(7, ⟨.auto, some (.c (.int .u8 x1))⟩), (8, ⟨.auto, some (.c (.int .u8 x3))⟩), (11, ⟨.call [] (.c (.bool (true))) [] [], none⟩), (15, ⟨.call [] (.aggi .u8 (W.bts r30_5n)) [] [], none⟩), (17, ⟨.call [] (.aggi .u8 (W.bts r31_7n)) [] [], none⟩), (19, ⟨.call [] (.aggi .u8 (W.bts r30_9n)) [] [], none⟩), (20, ⟨.auto, some (.c (.bool (true)))⟩), (24, ⟨.call [] (.aggi .u8 (W.bts r31_12n)) [] [], none⟩), (25, ⟨.call [] (.aggi .u8 (W.bts r31_14n)) [] [], none⟩), (27, ⟨.call [] (.aggi .u8 (W.bts r31_16n)) [] [], none⟩), (28, ⟨.auto, some (.c (.bool (true)))⟩)])
    (cs := [EB (W.bts r31_14n == W.bts r31_16n) true,
      Contract Try.prog 31 [(.aggi .u8 (Go.Proofs.Ytkjbjgkjplmkhaa.W.bts k))] [] 433 (.aggi .u8 (W.bts r31_16n)) [] [],
      Contract Try.prog 31 [(.aggi .u8 (W.bts r31_12n))] [] 401 (.aggi .u8 (W.bts r31_14n)) [] [],
      Contract Try.prog 31 [(.aggi .u8 (Go.Proofs.Ytkjbjgkjplmkhaa.W.bts k))] [] 385 (.aggi .u8 (W.bts r31_12n)) [] [],
      EB (W.bts r30_5n == W.bts r30_9n) true,
      Contract Try.prog 30 [(.aggi .u8 (W.bts r31_7n)), (.agg [(.int .u8 (u % 256)), (.int .u8 (u / 256 % 256)), (.int .u8 (u / 65536 % 256)), (.int .u8 (u / 16777216 % 256)), (.int .u8 (u / 4294967296 % 256)), (.int .u8 (u / 1099511627776 % 256)), (.int .u8 (u / 281474976710656 % 256)), (.int .u8 (u / 72057594037927936 % 256)), (.int .u8 (u / 18446744073709551616 % 256)), (.int .u8 (u / 4722366482869645213696 % 256)), (.int .u8 (u / 1208925819614629174706176 % 256)), (.int .u8 (u / 309485009821345068724781056 % 256)), (.int .u8 (u / 79228162514264337593543950336 % 256)), (.int .u8 (u / 20282409603651670423947251286016 % 256)), (.int .u8 (u / 5192296858534827628530496329220096 % 256)), (.int .u8 (u / 1329227995784915872903807060280344576 % 256)), (.int .u8 (u / 340282366920938463463374607431768211456 % 256)), (.int .u8 (u / 87112285931760246646623899502532662132736 % 256)), (.int .u8 (u / 22300745198530623141535718272648361505980416 % 256)), (.int .u8 (u / 5708990770823839524233143877797980545530986496 % 256)), (.int .u8 (u / 1461501637330902918203684832716283019655932542976 % 256)), (.int .u8 (u / 374144419156711147060143317175368453031918731001856 % 256)), (.int .u8 (u / 95780971304118053647396689196894323976171195136475136 % 256)), (.int .u8 (u / 24519928653854221733733552434404946937899825954937634816 % 256)), (.int .u8 (u / 6277101735386680763835789423207666416102355444464034512896 % 256)), (.int .u8 (u / 1606938044258990275541962092341162602522202993782792835301376 % 256)), (.int .u8 (u / 411376139330301510538742295639337626245683966408394965837152256 % 256)), (.int .u8 (u / 105312291668557186697918027683670432318895095400549111254310977536 % 256)), (.int .u8 (u / 26959946667150639794667015087019630673637144422540572481103610249216 % 256)), (.int .u8 (u / 6901746346790563787434755862277025452451108972170386555162524223799296 % 256)), (.int .u8 (u / 1766847064778384329583297500742918515827483896875618958121606201292619776 % 256)), (.int .u8 x3)])] [] 305 (.aggi .u8 (W.bts r30_9n)) [] [],
      Contract Try.prog 31 [(.aggi .u8 (Go.Proofs.Ytkjbjgkjplmkhaa.W.bts k))] [] 273 (.aggi .u8 (W.bts r31_7n)) [] [],
      Contract Try.prog 30 [(.aggi .u8 (Go.Proofs.Ytkjbjgkjplmkhaa.W.bts k)), (.aggi .u8 (Go.Proofs.Ytkjbjgkjplmkhaa.W.bts u))] [] 241 (.aggi .u8 (W.bts r30_5n)) [] [],
      Contract Try.prog 29 [] [] 177 (.c (.bool (true))) [] [],
      EI .u8 (bXor IntKind.u8 x1 128) x3,
      EI .u8 (u / 452312848583266388373324160190187140051835877600158453279131187530910662656 % 256) x1])
    mixed Try.func10 (by kernel_rfl) (by kernel_rfl) (by kernel_rfl) rfl (by kernel_rfl) ⟨.mk h18, c17.use (by kernel_rfl) rfl rfl _ _, c15.use (by kernel_rfl) rfl rfl _ _, c13.use (by kernel_rfl) rfl rfl _ _, .mk h11, c10.use (by kernel_rfl) rfl rfl _ _, c8.use (by kernel_rfl) rfl rfl _ _, c6.use (by kernel_rfl) rfl rfl _ _, c4.use (by kernel_rfl) rfl rfl _ _, .mk h2, .mk h0, trivial⟩

theorem run12 (a b c r33_0n r33_2n r33_4n r32_6n r30_8n r30_10n r32_13n r30_15n r30_17n r32_20n r30_22n r30_24n : Int)
    (c1 : PureF Try.prog 33 [(.c (.int .i64 a))] (.aggi .u8 (W.bts r33_0n)))
    (c3 : PureF Try.prog 33 [(.c (.int .i64 b))] (.aggi .u8 (W.bts r33_2n)))
    (c5 : PureF Try.prog 33 [(.c (.int .i64 c))] (.aggi .u8 (W.bts r33_4n)))
    (c7 : PureF Try.prog 32 [(.aggi .u8 (Go.Proofs.Ytkjbjgkjplmkhaa.W.bts r33_4n))] (.aggi .u8 (W.bts r32_6n)))
    (c9 : PureF Try.prog 30 [(.aggi .u8 (Go.Proofs.Ytkjbjgkjplmkhaa.W.bts r33_2n)), (.aggi .u8 (W.bts r32_6n))] (.aggi .u8 (W.bts r30_8n)))
    (c11 : PureF Try.prog 30 [(.aggi .u8 (Go.Proofs.Ytkjbjgkjplmkhaa.W.bts r33_0n)), (.aggi .u8 (W.bts r30_8n))] (.aggi .u8 (W.bts r30_10n)))
    (c12 : PureF Try.prog 29 [] (.c (.bool (true))))
    (c14 : PureF Try.prog 32 [(.aggi .u8 (Go.Proofs.Ytkjbjgkjplmkhaa.W.bts r33_2n))] (.aggi .u8 (W.bts r32_13n)))
    (c16 : PureF Try.prog 30 [(.aggi .u8 (Go.Proofs.Ytkjbjgkjplmkhaa.W.bts r33_0n)), (.aggi .u8 (W.bts r32_13n))] (.aggi .u8 (W.bts r30_15n)))
    (c18 : PureF Try.prog 30 [(.aggi .u8 (Go.Proofs.Ytkjbjgkjplmkhaa.W.bts r33_4n)), (.aggi .u8 (W.bts r30_15n))] (.aggi .u8 (W.bts r30_17n)))
    (h19 : ([r30_10n % 256, r30_10n / 256 % 256, r30_10n / 65536 % 256, r30_10n / 16777216 % 256, r30_10n / 4294967296 % 256, r30_10n / 1099511627776 % 256, r30_10n / 281474976710656 % 256, r30_10n / 72057594037927936 % 256, r30_10n / 18446744073709551616 % 256, r30_10n / 4722366482869645213696 % 256, r30_10n / 1208925819614629174706176 % 256, r30_10n / 309485009821345068724781056 % 256, r30_10n / 79228162514264337593543950336 % 256, r30_10n / 20282409603651670423947251286016 % 256, r30_10n / 5192296858534827628530496329220096 % 256, r30_10n / 1329227995784915872903807060280344576 % 256, r30_10n / 340282366920938463463374607431768211456 % 256, r30_10n / 87112285931760246646623899502532662132736 % 256, r30_10n / 22300745198530623141535718272648361505980416 % 256, r30_10n / 5708990770823839524233143877797980545530986496 % 256, r30_10n / 1461501637330902918203684832716283019655932542976 % 256, r30_10n / 374144419156711147060143317175368453031918731001856 % 256, r30_10n / 95780971304118053647396689196894323976171195136475136 % 256, r30_10n / 24519928653854221733733552434404946937899825954937634816 % 256, r30_10n / 6277101735386680763835789423207666416102355444464034512896 % 256, r30_10n / 1606938044258990275541962092341162602522202993782792835301376 % 256, r30_10n / 411376139330301510538742295639337626245683966408394965837152256 % 256, r30_10n / 105312291668557186697918027683670432318895095400549111254310977536 % 256, r30_10n / 26959946667150639794667015087019630673637144422540572481103610249216 % 256, r30_10n / 6901746346790563787434755862277025452451108972170386555162524223799296 % 256, r30_10n / 1766847064778384329583297500742918515827483896875618958121606201292619776 % 256, r30_10n / 452312848583266388373324160190187140051835877600158453279131187530910662656 % 256] == W.bts r30_17n) = true)
    (c21 : PureF Try.prog 32 [(.aggi .u8 (Go.Proofs.Ytkjbjgkjplmkhaa.W.bts r33_0n))] (.aggi .u8 (W.bts r32_20n)))
    (c23 : PureF Try.prog 30 [(.aggi .u8 (Go.Proofs.Ytkjbjgkjplmkhaa.W.bts r33_4n)), (.aggi .u8 (W.bts r32_20n))] (.aggi .u8 (W.bts r30_22n)))
    (c25 : PureF Try.prog 30 [(.aggi .u8 (Go.Proofs.Ytkjbjgkjplmkhaa.W.bts r33_2n)), (.aggi .u8 (W.bts r30_22n))] (.aggi .u8 (W.bts r30_24n)))
    (h26 : ([r30_10n % 256, r30_10n / 256 % 256, r30_10n / 65536 % 256, r30_10n / 16777216 % 256, r30_10n / 4294967296 % 256, r30_10n / 1099511627776 % 256, r30_10n / 281474976710656 % 256, r30_10n / 72057594037927936 % 256, r30_10n / 18446744073709551616 % 256, r30_10n / 4722366482869645213696 % 256, r30_10n / 1208925819614629174706176 % 256, r30_10n / 309485009821345068724781056 % 256, r30_10n / 79228162514264337593543950336 % 256, r30_10n / 20282409603651670423947251286016 % 256, r30_10n / 5192296858534827628530496329220096 % 256, r30_10n / 1329227995784915872903807060280344576 % 256, r30_10n / 340282366920938463463374607431768211456 % 256, r30_10n / 87112285931760246646623899502532662132736 % 256, r30_10n / 22300745198530623141535718272648361505980416 % 256, r30_10n / 5708990770823839524233143877797980545530986496 % 256, r30_10n / 1461501637330902918203684832716283019655932542976 % 256, r30_10n / 374144419156711147060143317175368453031918731001856 % 256, r30_10n / 95780971304118053647396689196894323976171195136475136 % 256, r30_10n / 24519928653854221733733552434404946937899825954937634816 % 256, r30_10n / 6277101735386680763835789423207666416102355444464034512896 % 256, r30_10n / 1606938044258990275541962092341162602522202993782792835301376 % 256, r30_10n / 411376139330301510538742295639337626245683966408394965837152256 % 256, r30_10n / 105312291668557186697918027683670432318895095400549111254310977536 % 256, r30_10n / 26959946667150639794667015087019630673637144422540572481103610249216 % 256, r30_10n / 6901746346790563787434755862277025452451108972170386555162524223799296 % 256, r30_10n / 1766847064778384329583297500742918515827483896875618958121606201292619776 % 256, r30_10n / 452312848583266388373324160190187140051835877600158453279131187530910662656 % 256] == W.bts r30_24n) = true) :
    PureF Try.prog 12 [(.c (.int .i64 a)), (.c (.int .i64 b)), (.c (.int .i64 c))] (.c (.bool (true))) :=
  Contract0.of_frun (fn := Try.f12) (c := bodyOf Try.f12) (fuel := 300) (k := kOf Try.prog Try.f12) (outs := []) (hs := [(2, ⟨.call [] (.aggi .u8 (W.bts r33_0n)) [] [], none⟩), (6, ⟨.call [] (.aggi .u8 (W.bts r33_2n)) [] [], none⟩), (10, ⟨.call [] (.aggi .u8 (W.bts r33_4n)) [] [], none⟩), (16, ⟨.call [] (.aggi .u8 (W.bts r32_6n)) [] [], none⟩), (17, ⟨.call [] (.aggi .u8 (W.bts r30_8n)) [] [], none⟩), (18, ⟨.call [] (.aggi .u8 (W.bts r30_10n)) [] [], none⟩), (21, ⟨.call [] (.c (.bool (true))) [] [], none⟩), (27, ⟨.call [] (.aggi .u8 (W.bts r32_13n)) [] [], none⟩), (28, ⟨.call [] (.aggi .u8 (W.bts r30_15n)) [] [], none⟩), (29, ⟨.call [] (.aggi .u8 (W.bts r30_17n)) [] [], none⟩), (30, ⟨.auto, some (.c (.bool (true)))⟩), (37, ⟨.call [] (.aggi .u8 (W.bts r32_20n)) [] [], none⟩), (38, ⟨.call [] (.aggi .u8 (W.bts r30_22n)) [] [], none⟩), (39, ⟨.call [] (.aggi .u8 (W.bts r30_24n)) [] [], none⟩), (40, ⟨.auto, some (.c (.bool (true)))⟩)])
    (cs := [EB ([r30_10n % 256, r30_10n / 256 % 256, r30_10n / 65536 % 256, r30_10n / 16777216 % 256, r30_10n / 4294967296 % 256, r30_10n / 1099511627776 % 256, r30_10n / 281474976710656 % 256, r30_10n / 72057594037927936 % 256, r30_10n / 18446744073709551616 % 256, r30_10n / 4722366482869645213696 % 256, r30_10n / 1208925819614629174706176 % 256, r30_10n / 309485009821345068724781056 % 256, r30_10n / 79228162514264337593543950336 % 256, r30_10n / 20282409603651670423947251286016 % 256, r30_10n / 5192296858534827628530496329220096 % 256, r30_10n / 1329227995784915872903807060280344576 % 256, r30_10n / 340282366920938463463374607431768211456 % 256, r30_10n / 87112285931760246646623899502532662132736 % 256, r30_10n / 22300745198530623141535718272648361505980416 % 256, r30_10n / 5708990770823839524233143877797980545530986496 % 256, r30_10n / 1461501637330902918203684832716283019655932542976 % 256, r30_10n / 374144419156711147060143317175368453031918731001856 % 256, r30_10n / 95780971304118053647396689196894323976171195136475136 % 256, r30_10n / 24519928653854221733733552434404946937899825954937634816 % 256, r30_10n / 6277101735386680763835789423207666416102355444464034512896 % 256, r30_10n / 1606938044258990275541962092341162602522202993782792835301376 % 256, r30_10n / 411376139330301510538742295639337626245683966408394965837152256 % 256, r30_10n / 105312291668557186697918027683670432318895095400549111254310977536 % 256, r30_10n / 26959946667150639794667015087019630673637144422540572481103610249216 % 256, r30_10n / 6901746346790563787434755862277025452451108972170386555162524223799296 % 256, r30_10n / 1766847064778384329583297500742918515827483896875618958121606201292619776 % 256, r30_10n / 452312848583266388373324160190187140051835877600158453279131187530910662656 % 256] == W.bts r30_24n) true,
      Contract Try.prog 30 [(.agg [(.int .u8 (r33_2n % 256)), (.int .u8 (r33_2n / 256 % 256)), (.int .u8 (r33_2n / 65536 % 256)), (.int .u8 (r33_2n / 16777216 % 256)), (.int .u8 (r33_2n / 4294967296 % 256)), (.int .u8 (r33_2n / 1099511627776 % 256)), (.int .u8 (r33_2n / 281474976710656 % 256)), (.int .u8 (r33_2n / 72057594037927936 % 256)), (.int .u8 (r33_2n / 18446744073709551616 % 256)), (.int .u8 (r33_2n / 4722366482869645213696 % 256)), (.int .u8 (r33_2n / 1208925819614629174706176 % 256)), (.int .u8 (r33_2n / 309485009821345068724781056 % 256)), (.int .u8 (r33_2n / 79228162514264337593543950336 % 256)), (.int .u8 (r33_2n / 20282409603651670423947251286016 % 256)), (.int .u8 (r33_2n / 5192296858534827628530496329220096 % 256)), (.int .u8 (r33_2n / 1329227995784915872903807060280344576 % 256)), (.int .u8 (r33_2n / 340282366920938463463374607431768211456 % 256)), (.int .u8 (r33_2n / 87112285931760246646623899502532662132736 % 256)), (.int .u8 (r33_2n / 22300745198530623141535718272648361505980416 % 256)), (.int .u8 (r33_2n / 5708990770823839524233143877797980545530986496 % 256)), (.int .u8 (r33_2n / 1461501637330902918203684832716283019655932542976 % 256)), (.int .u8 (r33_2n / 374144419156711147060143317175368453031918731001856 % 256)), (.int .u8 (r33_2n / 95780971304118053647396689196894323976171195136475136 % 256)), (.int .u8 (r33_2n / 24519928653854221733733552434404946937899825954937634816 % 256)), (.int .u8 (r33_2n / 6277101735386680763835789423207666416102355444464034512896 % 256)), (.int .u8 (r33_2n / 1606938044258990275541962092341162602522202993782792835301376 % 256)), (.int .u8 (r33_2n / 411376139330301510538742295639337626245683966408394965837152256 % 256)), (.int .u8 (r33_2n / 105312291668557186697918027683670432318895095400549111254310977536 % 256)), (.int .u8 (r33_2n / 26959946667150639794667015087019630673637144422540572481103610249216 % 256)), (.int .u8 (r33_2n / 6901746346790563787434755862277025452451108972170386555162524223799296 % 256)), (.int .u8 (r33_2n / 1766847064778384329583297500742918515827483896875618958121606201292619776 % 256)), (.int .u8 (r33_2n / 452312848583266388373324160190187140051835877600158453279131187530910662656 % 256))]), (.aggi .u8 (W.bts r30_22n))] [] 625 (.aggi .u8 (W.bts r30_24n)) [] [],
      Contract Try.prog 30 [(.agg [(.int .u8 (r33_4n % 256)), (.int .u8 (r33_4n / 256 % 256)), (.int .u8 (r33_4n / 65536 % 256)), (.int .u8 (r33_4n / 16777216 % 256)), (.int .u8 (r33_4n / 4294967296 % 256)), (.int .u8 (r33_4n / 1099511627776 % 256)), (.int .u8 (r33_4n / 281474976710656 % 256)), (.int .u8 (r33_4n / 72057594037927936 % 256)), (.int .u8 (r33_4n / 18446744073709551616 % 256)), (.int .u8 (r33_4n / 4722366482869645213696 % 256)), (.int .u8 (r33_4n / 1208925819614629174706176 % 256)), (.int .u8 (r33_4n / 309485009821345068724781056 % 256)), (.int .u8 (r33_4n / 79228162514264337593543950336 % 256)), (.int .u8 (r33_4n / 20282409603651670423947251286016 % 256)), (.int .u8 (r33_4n / 5192296858534827628530496329220096 % 256)), (.int .u8 (r33_4n / 1329227995784915872903807060280344576 % 256)), (.int .u8 (r33_4n / 340282366920938463463374607431768211456 % 256)), (.int .u8 (r33_4n / 87112285931760246646623899502532662132736 % 256)), (.int .u8 (r33_4n / 22300745198530623141535718272648361505980416 % 256)), (.int .u8 (r33_4n / 5708990770823839524233143877797980545530986496 % 256)), (.int .u8 (r33_4n / 1461501637330902918203684832716283019655932542976 % 256)), (.int .u8 (r33_4n / 374144419156711147060143317175368453031918731001856 % 256)), (.int .u8 (r33_4n / 95780971304118053647396689196894323976171195136475136 % 256)), (.int .u8 (r33_4n / 24519928653854221733733552434404946937899825954937634816 % 256)), (.int .u8 (r33_4n / 6277101735386680763835789423207666416102355444464034512896 % 256)), (.int .u8 (r33_4n / 1606938044258990275541962092341162602522202993782792835301376 % 256)), (.int .u8 (r33_4n / 411376139330301510538742295639337626245683966408394965837152256 % 256)), (.int .u8 (r33_4n / 105312291668557186697918027683670432318895095400549111254310977536 % 256)), (.int .u8 (r33_4n / 26959946667150639794667015087019630673637144422540572481103610249216 % 256)), (.int .u8 (r33_4n / 6901746346790563787434755862277025452451108972170386555162524223799296 % 256)), (.int .u8 (r33_4n / 1766847064778384329583297500742918515827483896875618958121606201292619776 % 256)), (.int .u8 (r33_4n / 452312848583266388373324160190187140051835877600158453279131187530910662656 % 256))]), (.aggi .u8 (W.bts r32_20n))] [] 609 (.aggi .u8 (W.bts r30_22n)) [] [],
      Contract Try.prog 32 [(.agg [(.int .u8 (r33_0n % 256)), (.int .u8 (r33_0n / 256 % 256)), (.int .u8 (r33_0n / 65536 % 256)), (.int .u8 (r33_0n / 16777216 % 256)), (.int .u8 (r33_0n / 4294967296 % 256)), (.int .u8 (r33_0n / 1099511627776 % 256)), (.int .u8 (r33_0n / 281474976710656 % 256)), (.int .u8 (r33_0n / 72057594037927936 % 256)), (.int .u8 (r33_0n / 18446744073709551616 % 256)), (.int .u8 (r33_0n / 4722366482869645213696 % 256)), (.int .u8 (r33_0n / 1208925819614629174706176 % 256)), (.int .u8 (r33_0n / 309485009821345068724781056 % 256)), (.int .u8 (r33_0n / 79228162514264337593543950336 % 256)), (.int .u8 (r33_0n / 20282409603651670423947251286016 % 256)), (.int .u8 (r33_0n / 5192296858534827628530496329220096 % 256)), (.int .u8 (r33_0n / 1329227995784915872903807060280344576 % 256)), (.int .u8 (r33_0n / 340282366920938463463374607431768211456 % 256)), (.int .u8 (r33_0n / 87112285931760246646623899502532662132736 % 256)), (.int .u8 (r33_0n / 22300745198530623141535718272648361505980416 % 256)), (.int .u8 (r33_0n / 5708990770823839524233143877797980545530986496 % 256)), (.int .u8 (r33_0n / 1461501637330902918203684832716283019655932542976 % 256)), (.int .u8 (r33_0n / 374144419156711147060143317175368453031918731001856 % 256)), (.int .u8 (r33_0n / 95780971304118053647396689196894323976171195136475136 % 256)), (.int .u8 (r33_0n / 24519928653854221733733552434404946937899825954937634816 % 256)), (.int .u8 (r33_0n / 6277101735386680763835789423207666416102355444464034512896 % 256)), (.int .u8 (r33_0n / 1606938044258990275541962092341162602522202993782792835301376 % 256)), (.int .u8 (r33_0n / 411376139330301510538742295639337626245683966408394965837152256 % 256)), (.int .u8 (r33_0n / 105312291668557186697918027683670432318895095400549111254310977536 % 256)), (.int .u8 (r33_0n / 26959946667150639794667015087019630673637144422540572481103610249216 % 256)), (.int .u8 (r33_0n / 6901746346790563787434755862277025452451108972170386555162524223799296 % 256)), (.int .u8 (r33_0n / 1766847064778384329583297500742918515827483896875618958121606201292619776 % 256)), (.int .u8 (r33_0n / 452312848583266388373324160190187140051835877600158453279131187530910662656 % 256))])] [] 593 (.aggi .u8 (W.bts r32_20n)) [] [],
      EB ([r30_10n % 256, r30_10n / 256 % 256, r30_10n / 65536 % 256, r30_10n / 16777216 % 256, r30_10n / 4294967296 % 256, r30_10n / 1099511627776 % 256, r30_10n / 281474976710656 % 256, r30_10n / 72057594037927936 % 256, r30_10n / 18446744073709551616 % 256, r30_10n / 4722366482869645213696 % 256, r30_10n / 1208925819614629174706176 % 256, r30_10n / 309485009821345068724781056 % 256, r30_10n / 79228162514264337593543950336 % 256, r30_10n / 20282409603651670423947251286016 % 256, r30_10n / 5192296858534827628530496329220096 % 256, r30_10n / 1329227995784915872903807060280344576 % 256, r30_10n / 340282366920938463463374607431768211456 % 256, r30_10n / 87112285931760246646623899502532662132736 % 256, r30_10n / 22300745198530623141535718272648361505980416 % 256, r30_10n / 5708990770823839524233143877797980545530986496 % 256, r30_10n / 1461501637330902918203684832716283019655932542976 % 256, r30_10n / 374144419156711147060143317175368453031918731001856 % 256, r30_10n / 95780971304118053647396689196894323976171195136475136 % 256, r30_10n / 24519928653854221733733552434404946937899825954937634816 % 256, r30_10n / 6277101735386680763835789423207666416102355444464034512896 % 256, r30_10n / 1606938044258990275541962092341162602522202993782792835301376 % 256, r30_10n / 411376139330301510538742295639337626245683966408394965837152256 % 256, r30_10n / 105312291668557186697918027683670432318895095400549111254310977536 % 256, r30_10n / 26959946667150639794667015087019630673637144422540572481103610249216 % 256, r30_10n / 6901746346790563787434755862277025452451108972170386555162524223799296 % 256, r30_10n / 1766847064778384329583297500742918515827483896875618958121606201292619776 % 256, r30_10n / 452312848583266388373324160190187140051835877600158453279131187530910662656 % 256] == W.bts r30_17n) true,
      Contract Try.prog 30 [(.agg [(.int .u8 (r33_4n % 256)), (.int .u8 (r33_4n / 256 % 256)), (.int .u8 (r33_4n / 65536 % 256)), (.int .u8 (r33_4n / 16777216 % 256)), (.int .u8 (r33_4n / 4294967296 % 256)), (.int .u8 (r33_4n / 1099511627776 % 256)), (.int .u8 (r33_4n / 281474976710656 % 256)), (.int .u8 (r33_4n / 72057594037927936 % 256)), (.int .u8 (r33_4n / 18446744073709551616 % 256)), (.int .u8 (r33_4n / 4722366482869645213696 % 256)), (.int .u8 (r33_4n / 1208925819614629174706176 % 256)), (.int .u8 (r33_4n / 309485009821345068724781056 % 256)), (.int .u8 (r33_4n / 79228162514264337593543950336 % 256)), (.int .u8 (r33_4n / 20282409603651670423947251286016 % 256)), (.int .u8 (r33_4n / 5192296858534827628530496329220096 % 256)), (.int .u8 (r33_4n / 1329227995784915872903807060280344576 % 256)), (.int .u8 (r33_4n / 340282366920938463463374607431768211456 % 256)), (.int .u8 (r33_4n / 87112285931760246646623899502532662132736 % 256)), (.int .u8 (r33_4n / 22300745198530623141535718272648361505980416 % 256)), (.int .u8 (r33_4n / 5708990770823839524233143877797980545530986496 % 256)), (.int .u8 (r33_4n / 1461501637330902918203684832716283019655932542976 % 256)), (.int .u8 (r33_4n / 374144419156711147060143317175368453031918731001856 % 256)), (.int .u8 (r33_4n / 95780971304118053647396689196894323976171195136475136 % 256)), (.int .u8 (r33_4n / 24519928653854221733733552434404946937899825954937634816 % 256)), (.int .u8 (r33_4n / 6277101735386680763835789423207666416102355444464034512896 % 256)), (.int .u8 (r33_4n / 1606938044258990275541962092341162602522202993782792835301376 % 256)), (.int .u8 (r33_4n / 411376139330301510538742295639337626245683966408394965837152256 % 256)), (.int .u8 (r33_4n / 105312291668557186697918027683670432318895095400549111254310977536 % 256)), (.int .u8 (r33_4n / 26959946667150639794667015087019630673637144422540572481103610249216 % 256)), (.int .u8 (r33_4n / 6901746346790563787434755862277025452451108972170386555162524223799296 % 256)), (.int .u8 (r33_4n / 1766847064778384329583297500742918515827483896875618958121606201292619776 % 256)), (.int .u8 (r33_4n / 452312848583266388373324160190187140051835877600158453279131187530910662656 % 256))]), (.aggi .u8 (W.bts r30_15n))] [] 465 (.aggi .u8 (W.bts r30_17n)) [] [],
      Contract Try.prog 30 [(.agg [(.int .u8 (r33_0n % 256)), (.int .u8 (r33_0n / 256 % 256)), (.int .u8 (r33_0n / 65536 % 256)), (.int .u8 (r33_0n / 16777216 % 256)), (.int .u8 (r33_0n / 4294967296 % 256)), (.int .u8 (r33_0n / 1099511627776 % 256)), (.int .u8 (r33_0n / 281474976710656 % 256)), (.int .u8 (r33_0n / 72057594037927936 % 256)), (.int .u8 (r33_0n / 18446744073709551616 % 256)), (.int .u8 (r33_0n / 4722366482869645213696 % 256)), (.int .u8 (r33_0n / 1208925819614629174706176 % 256)), (.int .u8 (r33_0n / 309485009821345068724781056 % 256)), (.int .u8 (r33_0n / 79228162514264337593543950336 % 256)), (.int .u8 (r33_0n / 20282409603651670423947251286016 % 256)), (.int .u8 (r33_0n / 5192296858534827628530496329220096 % 256)), (.int .u8 (r33_0n / 1329227995784915872903807060280344576 % 256)), (.int .u8 (r33_0n / 340282366920938463463374607431768211456 % 256)), (.int .u8 (r33_0n / 87112285931760246646623899502532662132736 % 256)), (.int .u8 (r33_0n / 22300745198530623141535718272648361505980416 % 256)), (.int .u8 (r33_0n / 5708990770823839524233143877797980545530986496 % 256)), (.int .u8 (r33_0n / 1461501637330902918203684832716283019655932542976 % 256)), (.int .u8 (r33_0n / 374144419156711147060143317175368453031918731001856 % 256)), (.int .u8 (r33_0n / 95780971304118053647396689196894323976171195136475136 % 256)), (.int .u8 (r33_0n / 24519928653854221733733552434404946937899825954937634816 % 256)), (.int .u8 (r33_0n / 6277101735386680763835789423207666416102355444464034512896 % 256)), (.int .u8 (r33_0n / 1606938044258990275541962092341162602522202993782792835301376 % 256)), (.int .u8 (r33_0n / 411376139330301510538742295639337626245683966408394965837152256 % 256)), (.int .u8 (r33_0n / 105312291668557186697918027683670432318895095400549111254310977536 % 256)), (.int .u8 (r33_0n / 26959946667150639794667015087019630673637144422540572481103610249216 % 256)), (.int .u8 (r33_0n / 6901746346790563787434755862277025452451108972170386555162524223799296 % 256)), (.int .u8 (r33_0n / 1766847064778384329583297500742918515827483896875618958121606201292619776 % 256)), (.int .u8 (r33_0n / 452312848583266388373324160190187140051835877600158453279131187530910662656 % 256))]), (.aggi .u8 (W.bts r32_13n))] [] 449 (.aggi .u8 (W.bts r30_15n)) [] [],
      Contract Try.prog 32 [(.agg [(.int .u8 (r33_2n % 256)), (.int .u8 (r33_2n / 256 % 256)), (.int .u8 (r33_2n / 65536 % 256)), (.int .u8 (r33_2n / 16777216 % 256)), (.int .u8 (r33_2n / 4294967296 % 256)), (.int .u8 (r33_2n / 1099511627776 % 256)), (.int .u8 (r33_2n / 281474976710656 % 256)), (.int .u8 (r33_2n / 72057594037927936 % 256)), (.int .u8 (r33_2n / 18446744073709551616 % 256)), (.int .u8 (r33_2n / 4722366482869645213696 % 256)), (.int .u8 (r33_2n / 1208925819614629174706176 % 256)), (.int .u8 (r33_2n / 309485009821345068724781056 % 256)), (.int .u8 (r33_2n / 79228162514264337593543950336 % 256)), (.int .u8 (r33_2n / 20282409603651670423947251286016 % 256)), (.int .u8 (r33_2n / 5192296858534827628530496329220096 % 256)), (.int .u8 (r33_2n / 1329227995784915872903807060280344576 % 256)), (.int .u8 (r33_2n / 340282366920938463463374607431768211456 % 256)), (.int .u8 (r33_2n / 87112285931760246646623899502532662132736 % 256)), (.int .u8 (r33_2n / 22300745198530623141535718272648361505980416 % 256)), (.int .u8 (r33_2n / 5708990770823839524233143877797980545530986496 % 256)), (.int .u8 (r33_2n / 1461501637330902918203684832716283019655932542976 % 256)), (.int .u8 (r33_2n / 374144419156711147060143317175368453031918731001856 % 256)), (.int .u8 (r33_2n / 95780971304118053647396689196894323976171195136475136 % 256)), (.int .u8 (r33_2n / 24519928653854221733733552434404946937899825954937634816 % 256)), (.int .u8 (r33_2n / 6277101735386680763835789423207666416102355444464034512896 % 256)), (.int .u8 (r33_2n / 1606938044258990275541962092341162602522202993782792835301376 % 256)), (.int .u8 (r33_2n / 411376139330301510538742295639337626245683966408394965837152256 % 256)), (.int .u8 (r33_2n / 105312291668557186697918027683670432318895095400549111254310977536 % 256)), (.int .u8 (r33_2n / 26959946667150639794667015087019630673637144422540572481103610249216 % 256)), (.int .u8 (r33_2n / 6901746346790563787434755862277025452451108972170386555162524223799296 % 256)), (.int .u8 (r33_2n / 1766847064778384329583297500742918515827483896875618958121606201292619776 % 256)), (.int .u8 (r33_2n / 452312848583266388373324160190187140051835877600158453279131187530910662656 % 256))])] [] 433 (.aggi .u8 (W.bts r32_13n)) [] [],
      Contract Try.prog 29 [] [] 337 (.c (.bool (true))) [] [],
      Contract Try.prog 30 [(.agg [(.int .u8 (r33_0n % 256)), (.int .u8 (r33_0n / 256 % 256)), (.int .u8 (r33_0n / 65536 % 256)), (.int .u8 (r33_0n / 16777216 % 256)), (.int .u8 (r33_0n / 4294967296 % 256)), (.int .u8 (r33_0n / 1099511627776 % 256)), (.int .u8 (r33_0n / 281474976710656 % 256)), (.int .u8 (r33_0n / 72057594037927936 % 256)), (.int .u8 (r33_0n / 18446744073709551616 % 256)), (.int .u8 (r33_0n / 4722366482869645213696 % 256)), (.int .u8 (r33_0n / 1208925819614629174706176 % 256)), (.int .u8 (r33_0n / 309485009821345068724781056 % 256)), (.int .u8 (r33_0n / 79228162514264337593543950336 % 256)), (.int .u8 (r33_0n / 20282409603651670423947251286016 % 256)), (.int .u8 (r33_0n / 5192296858534827628530496329220096 % 256)), (.int .u8 (r33_0n / 1329227995784915872903807060280344576 % 256)), (.int .u8 (r33_0n / 340282366920938463463374607431768211456 % 256)), (.int .u8 (r33_0n / 87112285931760246646623899502532662132736 % 256)), (.int .u8 (r33_0n / 22300745198530623141535718272648361505980416 % 256)), (.int .u8 (r33_0n / 5708990770823839524233143877797980545530986496 % 256)), (.int .u8 (r33_0n / 1461501637330902918203684832716283019655932542976 % 256)), (.int .u8 (r33_0n / 374144419156711147060143317175368453031918731001856 % 256)), (.int .u8 (r33_0n / 95780971304118053647396689196894323976171195136475136 % 256)), (.int .u8 (r33_0n / 24519928653854221733733552434404946937899825954937634816 % 256)), (.int .u8 (r33_0n / 6277101735386680763835789423207666416102355444464034512896 % 256)), (.int .u8 (r33_0n / 1606938044258990275541962092341162602522202993782792835301376 % 256)), (.int .u8 (r33_0n / 411376139330301510538742295639337626245683966408394965837152256 % 256)), (.int .u8 (r33_0n / 105312291668557186697918027683670432318895095400549111254310977536 % 256)), (.int .u8 (r33_0n / 26959946667150639794667015087019630673637144422540572481103610249216 % 256)), (.int .u8 (r33_0n / 6901746346790563787434755862277025452451108972170386555162524223799296 % 256)), (.int .u8 (r33_0n / 1766847064778384329583297500742918515827483896875618958121606201292619776 % 256)), (.int .u8 (r33_0n / 452312848583266388373324160190187140051835877600158453279131187530910662656 % 256))]), (.aggi .u8 (W.bts r30_8n))] [] 289 (.aggi .u8 (W.bts r30_10n)) [] [],
      Contract Try.prog 30 [(.agg [(.int .u8 (r33_2n % 256)), (.int .u8 (r33_2n / 256 % 256)), (.int .u8 (r33_2n / 65536 % 256)), (.int .u8 (r33_2n / 16777216 % 256)), (.int .u8 (r33_2n / 4294967296 % 256)), (.int .u8 (r33_2n / 1099511627776 % 256)), (.int .u8 (r33_2n / 281474976710656 % 256)), (.int .u8 (r33_2n / 72057594037927936 % 256)), (.int .u8 (r33_2n / 18446744073709551616 % 256)), (.int .u8 (r33_2n / 4722366482869645213696 % 256)), (.int .u8 (r33_2n / 1208925819614629174706176 % 256)), (.int .u8 (r33_2n / 309485009821345068724781056 % 256)), (.int .u8 (r33_2n / 79228162514264337593543950336 % 256)), (.int .u8 (r33_2n / 20282409603651670423947251286016 % 256)), (.int .u8 (r33_2n / 5192296858534827628530496329220096 % 256)), (.int .u8 (r33_2n / 1329227995784915872903807060280344576 % 256)), (.int .u8 (r33_2n / 340282366920938463463374607431768211456 % 256)), (.int .u8 (r33_2n / 87112285931760246646623899502532662132736 % 256)), (.int .u8 (r33_2n / 22300745198530623141535718272648361505980416 % 256)), (.int .u8 (r33_2n / 5708990770823839524233143877797980545530986496 % 256)), (.int .u8 (r33_2n / 1461501637330902918203684832716283019655932542976 % 256)), (.int .u8 (r33_2n / 374144419156711147060143317175368453031918731001856 % 256)), (.int .u8 (r33_2n / 95780971304118053647396689196894323976171195136475136 % 256)), (.int .u8 (r33_2n / 24519928653854221733733552434404946937899825954937634816 % 256)), (.int .u8 (r33_2n / 6277101735386680763835789423207666416102355444464034512896 % 256)), (.int .u8 (r33_2n / 1606938044258990275541962092341162602522202993782792835301376 % 256)), (.int .u8 (r33_2n / 411376139330301510538742295639337626245683966408394965837152256 % 256)), (.int .u8 (r33_2n / 105312291668557186697918027683670432318895095400549111254310977536 % 256)), (.int .u8 (r33_2n / 26959946667150639794667015087019630673637144422540572481103610249216 % 256)), (.int .u8 (r33_2n / 6901746346790563787434755862277025452451108972170386555162524223799296 % 256)), (.int .u8 (r33_2n / 1766847064778384329583297500742918515827483896875618958121606201292619776 % 256)), (.int .u8 (r33_2n / 452312848583266388373324160190187140051835877600158453279131187530910662656 % 256))]), (.aggi .u8 (W.bts r32_6n))] [] 273 (.aggi .u8 (W.bts r30_8n)) [] [],
      Contract Try.prog 32 [(.agg [(.int .u8 (r33_4n % 256)), (.int .u8 (r33_4n / 256 % 256)), (.int .u8 (r33_4n / 65536 % 256)), (.int .u8 (r33_4n / 16777216 % 256)), (.int .u8 (r33_4n / 4294967296 % 256)), (.int .u8 (r33_4n / 1099511627776 % 256)), (.int .u8 (r33_4n / 281474976710656 % 256)), (.int .u8 (r33_4n / 72057594037927936 % 256)), (.int .u8 (r33_4n / 18446744073709551616 % 256)), (.int .u8 (r33_4n / 4722366482869645213696 % 256)), (.int .u8 (r33_4n / 1208925819614629174706176 % 256)), (.int .u8 (r33_4n / 309485009821345068724781056 % 256)), (.int .u8 (r33_4n / 79228162514264337593543950336 % 256)), (.int .u8 (r33_4n / 20282409603651670423947251286016 % 256)), (.int .u8 (r33_4n / 5192296858534827628530496329220096 % 256)), (.int .u8 (r33_4n / 1329227995784915872903807060280344576 % 256)), (.int .u8 (r33_4n / 340282366920938463463374607431768211456 % 256)), (.int .u8 (r33_4n / 87112285931760246646623899502532662132736 % 256)), (.int .u8 (r33_4n / 22300745198530623141535718272648361505980416 % 256)), (.int .u8 (r33_4n / 5708990770823839524233143877797980545530986496 % 256)), (.int .u8 (r33_4n / 1461501637330902918203684832716283019655932542976 % 256)), (.int .u8 (r33_4n / 374144419156711147060143317175368453031918731001856 % 256)), (.int .u8 (r33_4n / 95780971304118053647396689196894323976171195136475136 % 256)), (.int .u8 (r33_4n / 24519928653854221733733552434404946937899825954937634816 % 256)), (.int .u8 (r33_4n / 6277101735386680763835789423207666416102355444464034512896 % 256)), (.int .u8 (r33_4n / 1606938044258990275541962092341162602522202993782792835301376 % 256)), (.int .u8 (r33_4n / 411376139330301510538742295639337626245683966408394965837152256 % 256)), (.int .u8 (r33_4n / 105312291668557186697918027683670432318895095400549111254310977536 % 256)), (.int .u8 (r33_4n / 26959946667150639794667015087019630673637144422540572481103610249216 % 256)), (.int .u8 (r33_4n / 6901746346790563787434755862277025452451108972170386555162524223799296 % 256)), (.int .u8 (r33_4n / 1766847064778384329583297500742918515827483896875618958121606201292619776 % 256)), (.int .u8 (r33_4n / 452312848583266388373324160190187140051835877600158453279131187530910662656 % 256))])] [] 257 (.aggi .u8 (W.bts r32_6n)) [] [],
      Contract Try.prog 33 [(.c (.int .i64 c))] [] 161 (.aggi .u8 (W.bts r33_4n)) [] [],
      Contract Try.prog 33 [(.c (.int .i64 b))] [] 97 (.aggi .u8 (W.bts r33_2n)) [] [],
      Contract Try.prog 33 [(.c (.int .i64 a))] [] 33 (.aggi .u8 (W.bts r33_0n)) [] []])
    mixed Try.func12 (by kernel_rfl) (by kernel_rfl) (by kernel_rfl) rfl (by kernel_rfl) ⟨.mk h26, c25.use (by kernel_rfl) rfl rfl _ _, c23.use (by kernel_rfl) rfl rfl _ _, c21.use (by kernel_rfl) rfl rfl _ _, .mk h19, c18.use (by kernel_rfl) rfl rfl _ _, c16.use (by kernel_rfl) rfl rfl _ _, c14.use (by kernel_rfl) rfl rfl _ _, c12.use (by kernel_rfl) rfl rfl _ _, c11.use (by kernel_rfl) rfl rfl _ _, c9.use (by kernel_rfl) rfl rfl _ _, c7.use (by kernel_rfl) rfl rfl _ _, c5.use (by kernel_rfl) rfl rfl _ _, c3.use (by kernel_rfl) rfl rfl _ _, c1.use (by kernel_rfl) rfl rfl _ _, trivial⟩

theorem run13 (k u r32_0n r34_2n r34_2c r30_5n r30_10n x14 : Int)
    (c1 : PureF Try.prog 32 [(.aggi .u8 (Go.Proofs.Ytkjbjgkjplmkhaa.W.bts k))] (.aggi .u8 (W.bts r32_0n)))
    (c3 : PureF Try.prog 34 [(.aggi .u8 (Go.Proofs.Ytkjbjgkjplmkhaa.W.bts u)), (.aggi .u8 (Go.Proofs.Ytkjbjgkjplmkhaa.W.bts r32_0n))] (.tup [(.aggi .u8 (W.bts r34_2n)), (.c (.int .i64 r34_2c))]))
    (c4 : PureF Try.prog 29 [] (.c (.bool (true))))
    (c6 : PureF Try.prog 30 [(.aggi .u8 (Go.Proofs.Ytkjbjgkjplmkhaa.W.bts k)), (.aggi .u8 [9, 0, 0, 0, 0, 0, 0, 0, 0, 0, 0, 0, 0, 0, 0, 0, 0, 0, 0, 0, 0, 0, 0, 0, 0, 0, 0, 0, 0, 0, 0, 0])] (.aggi .u8 (W.bts r30_5n)))
    (h7 : ([r32_0n % 256, r32_0n / 256 % 256, r32_0n / 65536 % 256, r32_0n / 16777216 % 256, r32_0n / 4294967296 % 256, r32_0n / 1099511627776 % 256, r32_0n / 281474976710656 % 256, r32_0n / 72057594037927936 % 256, r32_0n / 18446744073709551616 % 256, r32_0n / 4722366482869645213696 % 256, r32_0n / 1208925819614629174706176 % 256, r32_0n / 309485009821345068724781056 % 256, r32_0n / 79228162514264337593543950336 % 256, r32_0n / 20282409603651670423947251286016 % 256, r32_0n / 5192296858534827628530496329220096 % 256, r32_0n / 1329227995784915872903807060280344576 % 256, r32_0n / 340282366920938463463374607431768211456 % 256, r32_0n / 87112285931760246646623899502532662132736 % 256, r32_0n / 22300745198530623141535718272648361505980416 % 256, r32_0n / 5708990770823839524233143877797980545530986496 % 256, r32_0n / 1461501637330902918203684832716283019655932542976 % 256, r32_0n / 374144419156711147060143317175368453031918731001856 % 256, r32_0n / 95780971304118053647396689196894323976171195136475136 % 256, r32_0n / 24519928653854221733733552434404946937899825954937634816 % 256, r32_0n / 6277101735386680763835789423207666416102355444464034512896 % 256, r32_0n / 1606938044258990275541962092341162602522202993782792835301376 % 256, r32_0n / 411376139330301510538742295639337626245683966408394965837152256 % 256, r32_0n / 105312291668557186697918027683670432318895095400549111254310977536 % 256, r32_0n / 26959946667150639794667015087019630673637144422540572481103610249216 % 256, r32_0n / 6901746346790563787434755862277025452451108972170386555162524223799296 % 256, r32_0n / 1766847064778384329583297500742918515827483896875618958121606201292619776 % 256, r32_0n / 452312848583266388373324160190187140051835877600158453279131187530910662656 % 256] == W.bts r30_5n) = true)
    (h8 : (r34_2c == 0) = true)
    (h9 : (!(r34_2n % 256 == 0 && (r34_2n / 256 % 256 == 0 && (r34_2n / 65536 % 256 == 0 && (r34_2n / 16777216 % 256 == 0 && (r34_2n / 4294967296 % 256 == 0 && (r34_2n / 1099511627776 % 256 == 0 && (r34_2n / 281474976710656 % 256 == 0 && (r34_2n / 72057594037927936 % 256 == 0 && (r34_2n / 18446744073709551616 % 256 == 0 && (r34_2n / 4722366482869645213696 % 256 == 0 && (r34_2n / 1208925819614629174706176 % 256 == 0 && (r34_2n / 309485009821345068724781056 % 256 == 0 && (r34_2n / 79228162514264337593543950336 % 256 == 0 && (r34_2n / 20282409603651670423947251286016 % 256 == 0 && (r34_2n / 5192296858534827628530496329220096 % 256 == 0 && (r34_2n / 1329227995784915872903807060280344576 % 256 == 0 && (r34_2n / 340282366920938463463374607431768211456 % 256 == 0 && (r34_2n / 87112285931760246646623899502532662132736 % 256 == 0 && (r34_2n / 22300745198530623141535718272648361505980416 % 256 == 0 && (r34_2n / 5708990770823839524233143877797980545530986496 % 256 == 0 && (r34_2n / 1461501637330902918203684832716283019655932542976 % 256 == 0 && (r34_2n / 374144419156711147060143317175368453031918731001856 % 256 == 0 && (r34_2n / 95780971304118053647396689196894323976171195136475136 % 256 == 0 && (r34_2n / 24519928653854221733733552434404946937899825954937634816 % 256 == 0 && (r34_2n / 6277101735386680763835789423207666416102355444464034512896 % 256 == 0 && (r34_2n / 1606938044258990275541962092341162602522202993782792835301376 % 256 == 0 && (r34_2n / 411376139330301510538742295639337626245683966408394965837152256 % 256 == 0 && (r34_2n / 105312291668557186697918027683670432318895095400549111254310977536 % 256 == 0 && (r34_2n / 26959946667150639794667015087019630673637144422540572481103610249216 % 256 == 0 && (r34_2n / 6901746346790563787434755862277025452451108972170386555162524223799296 % 256 == 0 && (r34_2n / 1766847064778384329583297500742918515827483896875618958121606201292619776 % 256 == 0 && (r34_2n / 452312848583266388373324160190187140051835877600158453279131187530910662656 % 256 == 0 && true))))))))))))))))))))))))))))))))) = true)
    (c11 : PureF Try.prog 30 [(.aggi .u8 (Go.Proofs.Ytkjbjgkjplmkhaa.W.bts u)), (.aggi .u8 (Go.Proofs.Ytkjbjgkjplmkhaa.W.bts r32_0n))] (.aggi .u8 (W.bts r30_10n)))
    (h12 : ([r34_2n % 256, r34_2n / 256 % 256, r34_2n / 65536 % 256, r34_2n / 16777216 % 256, r34_2n / 4294967296 % 256, r34_2n / 1099511627776 % 256, r34_2n / 281474976710656 % 256, r34_2n / 72057594037927936 % 256, r34_2n / 18446744073709551616 % 256, r34_2n / 4722366482869645213696 % 256, r34_2n / 1208925819614629174706176 % 256, r34_2n / 309485009821345068724781056 % 256, r34_2n / 79228162514264337593543950336 % 256, r34_2n / 20282409603651670423947251286016 % 256, r34_2n / 5192296858534827628530496329220096 % 256, r34_2n / 1329227995784915872903807060280344576 % 256, r34_2n / 340282366920938463463374607431768211456 % 256, r34_2n / 87112285931760246646623899502532662132736 % 256, r34_2n / 22300745198530623141535718272648361505980416 % 256, r34_2n / 5708990770823839524233143877797980545530986496 % 256, r34_2n / 1461501637330902918203684832716283019655932542976 % 256, r34_2n / 374144419156711147060143317175368453031918731001856 % 256, r34_2n / 95780971304118053647396689196894323976171195136475136 % 256, r34_2n / 24519928653854221733733552434404946937899825954937634816 % 256, r34_2n / 6277101735386680763835789423207666416102355444464034512896 % 256, r34_2n / 1606938044258990275541962092341162602522202993782792835301376 % 256, r34_2n / 411376139330301510538742295639337626245683966408394965837152256 % 256, r34_2n / 105312291668557186697918027683670432318895095400549111254310977536 % 256, r34_2n / 26959946667150639794667015087019630673637144422540572481103610249216 % 256, r34_2n / 6901746346790563787434755862277025452451108972170386555162524223799296 % 256, r34_2n / 1766847064778384329583297500742918515827483896875618958121606201292619776 % 256, r34_2n / 452312848583266388373324160190187140051835877600158453279131187530910662656 % 256] == W.bts r30_10n) = true)
    (h13 : (r32_0n / 452312848583266388373324160190187140051835877600158453279131187530910662656 % 256) = x14)
    (h15 : (decide (x14 < 128)) = true) :
    PureF Try.prog 13 [(.aggi .u8 (W.bts k)), (.aggi .u8 (W.bts u))] (.c (.bool (true))) :=
  Contract0.of_frun (fn := Try.f13) (c := bodyOf Try.f13) (fuel := 300) (k := kOf Try.prog Try.f13) (outs := []) (hs := [(4, ⟨.call [] (.aggi .u8 (W.bts r32_0n)) [] [], none⟩), (9, ⟨.call [] (.tup [(.aggi .u8 (W.bts r34_2n)), (.c (.int .i64 r34_2c))]) [] [], none⟩), (16, ⟨.call [] (.c (.bool (true))) [] [], none⟩), (21, ⟨.call [] (.aggi .u8 (W.bts r30_5n)) [] [], none⟩), (22, ⟨.auto, some (.c (.bool (true)))⟩), (26, ⟨.auto, some (.c (.bool (true)))⟩), (31, ⟨.auto, some (.c (.bool (true)))⟩), (37, ⟨.call [] (.aggi .u8 (W.bts r30_10n)) [] [], none⟩), (38, ⟨.auto, some (.c (.bool (true)))⟩), (42, ⟨.auto, some (.c (.int .u8 x14))⟩), (43, ⟨.auto, some (.c (.bool (true)))⟩)])
    (cs := [EB (decide (x14 < 128)) true,
      EI .u8 (r32_0n / 452312848583266388373324160190187140051835877600158453279131187530910662656 % 256) x14,
      EB ([r34_2n % 256, r34_2n / 256 % 256, r34_2n / 65536 % 256, r34_2n / 16777216 % 256, r34_2n / 4294967296 % 256, r34_2n / 1099511627776 % 256, r34_2n / 281474976710656 % 256, r34_2n / 72057594037927936 % 256, r34_2n / 18446744073709551616 % 256, r34_2n / 4722366482869645213696 % 256, r34_2n / 1208925819614629174706176 % 256, r34_2n / 309485009821345068724781056 % 256, r34_2n / 79228162514264337593543950336 % 256, r34_2n / 20282409603651670423947251286016 % 256, r34_2n / 5192296858534827628530496329220096 % 256, r34_2n / 1329227995784915872903807060280344576 % 256, r34_2n / 340282366920938463463374607431768211456 % 256, r34_2n / 87112285931760246646623899502532662132736 % 256, r34_2n / 22300745198530623141535718272648361505980416 % 256, r34_2n / 5708990770823839524233143877797980545530986496 % 256, r34_2n / 1461501637330902918203684832716283019655932542976 % 256, r34_2n / 374144419156711147060143317175368453031918731001856 % 256, r34_2n / 95780971304118053647396689196894323976171195136475136 % 256, r34_2n / 24519928653854221733733552434404946937899825954937634816 % 256, r34_2n / 6277101735386680763835789423207666416102355444464034512896 % 256, r34_2n / 1606938044258990275541962092341162602522202993782792835301376 % 256, r34_2n / 411376139330301510538742295639337626245683966408394965837152256 % 256, r34_2n / 105312291668557186697918027683670432318895095400549111254310977536 % 256, r34_2n / 26959946667150639794667015087019630673637144422540572481103610249216 % 256, r34_2n / 6901746346790563787434755862277025452451108972170386555162524223799296 % 256, r34_2n / 1766847064778384329583297500742918515827483896875618958121606201292619776 % 256, r34_2n / 452312848583266388373324160190187140051835877600158453279131187530910662656 % 256] == W.bts r30_10n) true,
      Contract Try.prog 30 [(.aggi .u8 (Go.Proofs.Ytkjbjgkjplmkhaa.W.bts u)), (.agg [(.int .u8 (r32_0n % 256)), (.int .u8 (r32_0n / 256 % 256)), (.int .u8 (r32_0n / 65536 % 256)), (.int .u8 (r32_0n / 16777216 % 256)), (.int .u8 (r32_0n / 4294967296 % 256)), (.int .u8 (r32_0n / 1099511627776 % 256)), (.int .u8 (r32_0n / 281474976710656 % 256)), (.int .u8 (r32_0n / 72057594037927936 % 256)), (.int .u8 (r32_0n / 18446744073709551616 % 256)), (.int .u8 (r32_0n / 4722366482869645213696 % 256)), (.int .u8 (r32_0n / 1208925819614629174706176 % 256)), (.int .u8 (r32_0n / 309485009821345068724781056 % 256)), (.int .u8 (r32_0n / 79228162514264337593543950336 % 256)), (.int .u8 (r32_0n / 20282409603651670423947251286016 % 256)), (.int .u8 (r32_0n / 5192296858534827628530496329220096 % 256)), (.int .u8 (r32_0n / 1329227995784915872903807060280344576 % 256)), (.int .u8 (r32_0n / 340282366920938463463374607431768211456 % 256)), (.int .u8 (r32_0n / 87112285931760246646623899502532662132736 % 256)), (.int .u8 (r32_0n / 22300745198530623141535718272648361505980416 % 256)), (.int .u8 (r32_0n / 5708990770823839524233143877797980545530986496 % 256)), (.int .u8 (r32_0n / 1461501637330902918203684832716283019655932542976 % 256)), (.int .u8 (r32_0n / 374144419156711147060143317175368453031918731001856 % 256)), (.int .u8 (r32_0n / 95780971304118053647396689196894323976171195136475136 % 256)), (.int .u8 (r32_0n / 24519928653854221733733552434404946937899825954937634816 % 256)), (.int .u8 (r32_0n / 6277101735386680763835789423207666416102355444464034512896 % 256)), (.int .u8 (r32_0n / 1606938044258990275541962092341162602522202993782792835301376 % 256)), (.int .u8 (r32_0n / 411376139330301510538742295639337626245683966408394965837152256 % 256)), (.int .u8 (r32_0n / 105312291668557186697918027683670432318895095400549111254310977536 % 256)), (.int .u8 (r32_0n / 26959946667150639794667015087019630673637144422540572481103610249216 % 256)), (.int .u8 (r32_0n / 6901746346790563787434755862277025452451108972170386555162524223799296 % 256)), (.int .u8 (r32_0n / 1766847064778384329583297500742918515827483896875618958121606201292619776 % 256)), (.int .u8 (r32_0n / 452312848583266388373324160190187140051835877600158453279131187530910662656 % 256))])] [] 593 (.aggi .u8 (W.bts r30_10n)) [] [],
      EB (!(r34_2n % 256 == 0 && (r34_2n / 256 % 256 == 0 && (r34_2n / 65536 % 256 == 0 && (r34_2n / 16777216 % 256 == 0 && (r34_2n / 4294967296 % 256 == 0 && (r34_2n / 1099511627776 % 256 == 0 && (r34_2n / 281474976710656 % 256 == 0 && (r34_2n / 72057594037927936 % 256 == 0 && (r34_2n / 18446744073709551616 % 256 == 0 && (r34_2n / 4722366482869645213696 % 256 == 0 && (r34_2n / 1208925819614629174706176 % 256 == 0 && (r34_2n / 309485009821345068724781056 % 256 == 0 && (r34_2n / 79228162514264337593543950336 % 256 == 0 && (r34_2n / 20282409603651670423947251286016 % 256 == 0 && (r34_2n / 5192296858534827628530496329220096 % 256 == 0 && (r34_2n / 1329227995784915872903807060280344576 % 256 == 0 && (r34_2n / 340282366920938463463374607431768211456 % 256 == 0 && (r34_2n / 87112285931760246646623899502532662132736 % 256 == 0 && (r34_2n / 22300745198530623141535718272648361505980416 % 256 == 0 && (r34_2n / 5708990770823839524233143877797980545530986496 % 256 == 0 && (r34_2n / 1461501637330902918203684832716283019655932542976 % 256 == 0 && (r34_2n / 374144419156711147060143317175368453031918731001856 % 256 == 0 && (r34_2n / 95780971304118053647396689196894323976171195136475136 % 256 == 0 && (r34_2n / 24519928653854221733733552434404946937899825954937634816 % 256 == 0 && (r34_2n / 6277101735386680763835789423207666416102355444464034512896 % 256 == 0 && (r34_2n / 1606938044258990275541962092341162602522202993782792835301376 % 256 == 0 && (r34_2n / 411376139330301510538742295639337626245683966408394965837152256 % 256 == 0 && (r34_2n / 105312291668557186697918027683670432318895095400549111254310977536 % 256 == 0 && (r34_2n / 26959946667150639794667015087019630673637144422540572481103610249216 % 256 == 0 && (r34_2n / 6901746346790563787434755862277025452451108972170386555162524223799296 % 256 == 0 && (r34_2n / 1766847064778384329583297500742918515827483896875618958121606201292619776 % 256 == 0 && (r34_2n / 452312848583266388373324160190187140051835877600158453279131187530910662656 % 256 == 0 && true))))))))))))))))))))))))))))))))) true,
      EB (r34_2c == 0) true,
      EB ([r32_0n % 256, r32_0n / 256 % 256, r32_0n / 65536 % 256, r32_0n / 16777216 % 256, r32_0n / 4294967296 % 256, r32_0n / 1099511627776 % 256, r32_0n / 281474976710656 % 256, r32_0n / 72057594037927936 % 256, r32_0n / 18446744073709551616 % 256, r32_0n / 4722366482869645213696 % 256, r32_0n / 1208925819614629174706176 % 256, r32_0n / 309485009821345068724781056 % 256, r32_0n / 79228162514264337593543950336 % 256, r32_0n / 20282409603651670423947251286016 % 256, r32_0n / 5192296858534827628530496329220096 % 256, r32_0n / 1329227995784915872903807060280344576 % 256, r32_0n / 340282366920938463463374607431768211456 % 256, r32_0n / 87112285931760246646623899502532662132736 % 256, r32_0n / 22300745198530623141535718272648361505980416 % 256, r32_0n / 5708990770823839524233143877797980545530986496 % 256, r32_0n / 1461501637330902918203684832716283019655932542976 % 256, r32_0n / 374144419156711147060143317175368453031918731001856 % 256, r32_0n / 95780971304118053647396689196894323976171195136475136 % 256, r32_0n / 24519928653854221733733552434404946937899825954937634816 % 256, r32_0n / 6277101735386680763835789423207666416102355444464034512896 % 256, r32_0n / 1606938044258990275541962092341162602522202993782792835301376 % 256, r32_0n / 411376139330301510538742295639337626245683966408394965837152256 % 256, r32_0n / 105312291668557186697918027683670432318895095400549111254310977536 % 256, r32_0n / 26959946667150639794667015087019630673637144422540572481103610249216 % 256, r32_0n / 6901746346790563787434755862277025452451108972170386555162524223799296 % 256, r32_0n / 1766847064778384329583297500742918515827483896875618958121606201292619776 % 256, r32_0n / 452312848583266388373324160190187140051835877600158453279131187530910662656 % 256] == W.bts r30_5n) true,
      Contract Try.prog 30 [(.aggi .u8 (Go.Proofs.Ytkjbjgkjplmkhaa.W.bts k)), (.agg [(.int .u8 9), (.int .u8 0), (.int .u8 0), (.int .u8 0), (.int .u8 0), (.int .u8 0), (.int .u8 0), (.int .u8 0), (.int .u8 0), (.int .u8 0), (.int .u8 0), (.int .u8 0), (.int .u8 0), (.int .u8 0), (.int .u8 0), (.int .u8 0), (.int .u8 0), (.int .u8 0), (.int .u8 0), (.int .u8 0), (.int .u8 0), (.int .u8 0), (.int .u8 0), (.int .u8 0), (.int .u8 0), (.int .u8 0), (.int .u8 0), (.int .u8 0), (.int .u8 0), (.int .u8 0), (.int .u8 0), (.int .u8 0)])] [] 337 (.aggi .u8 (W.bts r30_5n)) [] [],
      Contract Try.prog 29 [] [] 257 (.c (.bool (true))) [] [],
      Contract Try.prog 34 [(.aggi .u8 (Go.Proofs.Ytkjbjgkjplmkhaa.W.bts u)), (.agg [(.int .u8 (r32_0n % 256)), (.int .u8 (r32_0n / 256 % 256)), (.int .u8 (r32_0n / 65536 % 256)), (.int .u8 (r32_0n / 16777216 % 256)), (.int .u8 (r32_0n / 4294967296 % 256)), (.int .u8 (r32_0n / 1099511627776 % 256)), (.int .u8 (r32_0n / 281474976710656 % 256)), (.int .u8 (r32_0n / 72057594037927936 % 256)), (.int .u8 (r32_0n / 18446744073709551616 % 256)), (.int .u8 (r32_0n / 4722366482869645213696 % 256)), (.int .u8 (r32_0n / 1208925819614629174706176 % 256)), (.int .u8 (r32_0n / 309485009821345068724781056 % 256)), (.int .u8 (r32_0n / 79228162514264337593543950336 % 256)), (.int .u8 (r32_0n / 20282409603651670423947251286016 % 256)), (.int .u8 (r32_0n / 5192296858534827628530496329220096 % 256)), (.int .u8 (r32_0n / 1329227995784915872903807060280344576 % 256)), (.int .u8 (r32_0n / 340282366920938463463374607431768211456 % 256)), (.int .u8 (r32_0n / 87112285931760246646623899502532662132736 % 256)), (.int .u8 (r32_0n / 22300745198530623141535718272648361505980416 % 256)), (.int .u8 (r32_0n / 5708990770823839524233143877797980545530986496 % 256)), (.int .u8 (r32_0n / 1461501637330902918203684832716283019655932542976 % 256)), (.int .u8 (r32_0n / 374144419156711147060143317175368453031918731001856 % 256)), (.int .u8 (r32_0n / 95780971304118053647396689196894323976171195136475136 % 256)), (.int .u8 (r32_0n / 24519928653854221733733552434404946937899825954937634816 % 256)), (.int .u8 (r32_0n / 6277101735386680763835789423207666416102355444464034512896 % 256)), (.int .u8 (r32_0n / 1606938044258990275541962092341162602522202993782792835301376 % 256)), (.int .u8 (r32_0n / 411376139330301510538742295639337626245683966408394965837152256 % 256)), (.int .u8 (r32_0n / 105312291668557186697918027683670432318895095400549111254310977536 % 256)), (.int .u8 (r32_0n / 26959946667150639794667015087019630673637144422540572481103610249216 % 256)), (.int .u8 (r32_0n / 6901746346790563787434755862277025452451108972170386555162524223799296 % 256)), (.int .u8 (r32_0n / 1766847064778384329583297500742918515827483896875618958121606201292619776 % 256)), (.int .u8 (r32_0n / 452312848583266388373324160190187140051835877600158453279131187530910662656 % 256))])] [] 145 (.tup [(.aggi .u8 (W.bts r34_2n)), (.c (.int .i64 r34_2c))]) [] [],
      Contract Try.prog 32 [(.aggi .u8 (Go.Proofs.Ytkjbjgkjplmkhaa.W.bts k))] [] 65 (.aggi .u8 (W.bts r32_0n)) [] []])
    mixed Try.func13 (by kernel_rfl) (by kernel_rfl) (by kernel_rfl) rfl (by kernel_rfl) ⟨.mk h15, .mk h13, .mk h12, c11.use (by kernel_rfl) rfl rfl _ _, .mk h9, .mk h8, .mk h7, c6.use (by kernel_rfl) rfl rfl _ _, c4.use (by kernel_rfl) rfl rfl _ _, c3.use (by kernel_rfl) rfl rfl _ _, c1.use (by kernel_rfl) rfl rfl _ _, trivial⟩

theorem run33 (n x1 x3 x5 x7 x9 x11 x13 x15 x17 x19 x21 x23 x25 x27 x29 x31 x33 x35 x37 x39 x41 x43 x45 x47 x49 x51 x53 x55 x57 x59 x61 x63 x65 x67 x69 x71 x73 x75 x77 x79 x81 x83 x85 x87 x89 x91 x93 x95 x97 x99 x101 x103 x105 x107 x109 x111 x113 x115 x117 x119 x121 x123 x125 x127 x129 x131 x133 x135 x137 x139 x141 x143 x145 x147 x149 x151 x153 x155 x157 x159 x161 x163 x165 x167 x169 x171 x173 x175 x177 x179 x181 x183 x185 x187 x189 x191 x193 x195 x197 x199 x201 x203 x205 x207 x209 x211 x213 x215 x217 x219 x221 x223 x225 x227 x229 x231 x233 x235 x237 x239 x241 x243 x245 x247 x249 x251 x253 x255 x257 x259 x261 : Int)
    (h0 : (n % 18446744073709551616) = x1)
    (h2 : (x1 * 6364136223846793005 % 18446744073709551616) = x3)
    (h4 : ((x3 + 1442695040888963407) % 18446744073709551616) = x5)
    (h6 : (x5 * 6364136223846793005 % 18446744073709551616) = x7)
    (h8 : ((x7 + 1442695040888963407) % 18446744073709551616) = x9)
    (h10 : (x9 / 1099511627776) = x11)
    (h12 : (x11 % 256) = x13)
    (h14 : (x9 * 6364136223846793005 % 18446744073709551616) = x15)
    (h16 : ((x15 + 1442695040888963407) % 18446744073709551616) = x17)
    (h18 : (x17 / 1099511627776) = x19)
    (h20 : (x19 % 256) = x21)
    (h22 : (x17 * 6364136223846793005 % 18446744073709551616) = x23)
    (h24 : ((x23 + 1442695040888963407) % 18446744073709551616) = x25)
    (h26 : (x25 / 1099511627776) = x27)
    (h28 : (x27 % 256) = x29)
    (h30 : (x25 * 6364136223846793005 % 18446744073709551616) = x31)
    (h32 : ((x31 + 1442695040888963407) % 18446744073709551616) = x33)
    (h34 : (x33 / 1099511627776) = x35)
    (h36 : (x35 % 256) = x37)
    (h38 : (x33 * 6364136223846793005 % 18446744073709551616) = x39)
    (h40 : ((x39 + 1442695040888963407) % 18446744073709551616) = x41)
    (h42 : (x41 / 1099511627776) = x43)
    (h44 : (x43 % 256) = x45)
    (h46 : (x41 * 6364136223846793005 % 18446744073709551616) = x47)
    (h48 : ((x47 + 1442695040888963407) % 18446744073709551616) = x49)
    (h50 : (x49 / 1099511627776) = x51)
    (h52 : (x51 % 256) = x53)
    (h54 : (x49 * 6364136223846793005 % 18446744073709551616) = x55)
    (h56 : ((x55 + 1442695040888963407) % 18446744073709551616) = x57)
    (h58 : (x57 / 1099511627776) = x59)
    (h60 : (x59 % 256) = x61)
    (h62 : (x57 * 6364136223846793005 % 18446744073709551616) = x63)
    (h64 : ((x63 + 1442695040888963407) % 18446744073709551616) = x65)
    (h66 : (x65 / 1099511627776) = x67)
    (h68 : (x67 % 256) = x69)
    (h70 : (x65 * 6364136223846793005 % 18446744073709551616) = x71)
    (h72 : ((x71 + 1442695040888963407) % 18446744073709551616) = x73)
    (h74 : (x73 / 1099511627776) = x75)
    (h76 : (x75 % 256) = x77)
    (h78 : (x73 * 6364136223846793005 % 18446744073709551616) = x79)
    (h80 : ((x79 + 1442695040888963407) % 18446744073709551616) = x81)
    (h82 : (x81 / 1099511627776) = x83)
    (h84 : (x83 % 256) = x85)
    (h86 : (x81 * 6364136223846793005 % 18446744073709551616) = x87)
    (h88 : ((x87 + 1442695040888963407) % 18446744073709551616) = x89)
    (h90 : (x89 / 1099511627776) = x91)
    (h92 : (x91 % 256) = x93)
    (h94 : (x89 * 6364136223846793005 % 18446744073709551616) = x95)
    (h96 : ((x95 + 1442695040888963407) % 18446744073709551616) = x97)
    (h98 : (x97 / 1099511627776) = x99)
    (h100 : (x99 % 256) = x101)
    (h102 : (x97 * 6364136223846793005 % 18446744073709551616) = x103)
    (h104 : ((x103 + 1442695040888963407) % 18446744073709551616) = x105)
    (h106 : (x105 / 1099511627776) = x107)
    (h108 : (x107 % 256) = x109)
    (h110 : (x105 * 6364136223846793005 % 18446744073709551616) = x111)
    (h112 : ((x111 + 1442695040888963407) % 18446744073709551616) = x113)
    (h114 : (x113 / 1099511627776) = x115)
    (h116 : (x115 % 256) = x117)
    (h118 : (x113 * 6364136223846793005 % 18446744073709551616) = x119)
    (h120 : ((x119 + 1442695040888963407) % 18446744073709551616) = x121)
    (h122 : (x121 / 1099511627776) = x123)
    (h124 : (x123 % 256) = x125)
    (h126 : (x121 * 6364136223846793005 % 18446744073709551616) = x127)
    (h128 : ((x127 + 1442695040888963407) % 18446744073709551616) = x129)
    (h130 : (x129 / 1099511627776) = x131)
    (h132 : (x131 % 256) = x133)
    (h134 : (x129 * 6364136223846793005 % 18446744073709551616) = x135)
    (h136 : ((x135 + 1442695040888963407) % 18446744073709551616) = x137)
    (h138 : (x137 / 1099511627776) = x139)
    (h140 : (x139 % 256) = x141)
    (h142 : (x137 * 6364136223846793005 % 18446744073709551616) = x143)
    (h144 : ((x143 + 1442695040888963407) % 18446744073709551616) = x145)
    (h146 : (x145 / 1099511627776) = x147)
    (h148 : (x147 % 256) = x149)
    (h150 : (x145 * 6364136223846793005 % 18446744073709551616) = x151)
    (h152 : ((x151 + 1442695040888963407) % 18446744073709551616) = x153)
    (h154 : (x153 / 1099511627776) = x155)
    (h156 : (x155 % 256) = x157)
    (h158 : (x153 * 6364136223846793005 % 18446744073709551616) = x159)
    (h160 : ((x159 + 1442695040888963407) % 18446744073709551616) = x161)
    (h162 : (x161 / 1099511627776) = x163)
    (h164 : (x163 % 256) = x165)
    (h166 : (x161 * 6364136223846793005 % 18446744073709551616) = x167)
    (h168 : ((x167 + 1442695040888963407) % 18446744073709551616) = x169)
    (h170 : (x169 / 1099511627776) = x171)
    (h172 : (x171 % 256) = x173)
    (h174 : (x169 * 6364136223846793005 % 18446744073709551616) = x175)
    (h176 : ((x175 + 1442695040888963407) % 18446744073709551616) = x177)
    (h178 : (x177 / 1099511627776) = x179)
    (h180 : (x179 % 256) = x181)
    (h182 : (x177 * 6364136223846793005 % 18446744073709551616) = x183)
    (h184 : ((x183 + 1442695040888963407) % 18446744073709551616) = x185)
    (h186 : (x185 / 1099511627776) = x187)
    (h188 : (x187 % 256) = x189)
    (h190 : (x185 * 6364136223846793005 % 18446744073709551616) = x191)
    (h192 : ((x191 + 1442695040888963407) % 18446744073709551616) = x193)
    (h194 : (x193 / 1099511627776) = x195)
    (h196 : (x195 % 256) = x197)
    (h198 : (x193 * 6364136223846793005 % 18446744073709551616) = x199)
    (h200 : ((x199 + 1442695040888963407) % 18446744073709551616) = x201)
    (h202 : (x201 / 1099511627776) = x203)
    (h204 : (x203 % 256) = x205)
    (h206 : (x201 * 6364136223846793005 % 18446744073709551616) = x207)
    (h208 : ((x207 + 1442695040888963407) % 18446744073709551616) = x209)
    (h210 : (x209 / 1099511627776) = x211)
    (h212 : (x211 % 256) = x213)
    (h214 : (x209 * 6364136223846793005 % 18446744073709551616) = x215)
    (h216 : ((x215 + 1442695040888963407) % 18446744073709551616) = x217)
    (h218 : (x217 / 1099511627776) = x219)
    (h220 : (x219 % 256) = x221)
    (h222 : (x217 * 6364136223846793005 % 18446744073709551616) = x223)
    (h224 : ((x223 + 1442695040888963407) % 18446744073709551616) = x225)
    (h226 : (x225 / 1099511627776) = x227)
    (h228 : (x227 % 256) = x229)
    (h230 : (x225 * 6364136223846793005 % 18446744073709551616) = x231)
    (h232 : ((x231 + 1442695040888963407) % 18446744073709551616) = x233)
    (h234 : (x233 / 1099511627776) = x235)
    (h236 : (x235 % 256) = x237)
    (h238 : (x233 * 6364136223846793005 % 18446744073709551616) = x239)
    (h240 : ((x239 + 1442695040888963407) % 18446744073709551616) = x241)
    (h242 : (x241 / 1099511627776) = x243)
    (h244 : (x243 % 256) = x245)
    (h246 : (x241 * 6364136223846793005 % 18446744073709551616) = x247)
    (h248 : ((x247 + 1442695040888963407) % 18446744073709551616) = x249)
    (h250 : (x249 / 1099511627776) = x251)
    (h252 : (x251 % 256) = x253)
    (h254 : (x249 * 6364136223846793005 % 18446744073709551616) = x255)
    (h256 : ((x255 + 1442695040888963407) % 18446744073709551616) = x257)
    (h258 : (x257 / 1099511627776) = x259)
    (h260 : (x259 % 256) = x261) :
    PureF Try.prog 33 [(.c (.int .i64 n))] (.aggi .u8 [x13, x21, x29, x37, x45, x53, x61, x69, x77, x85, x93, x101, x109, x117, x125, x133, x141, x149, x157, x165, x173, x181, x189, x197, x205, x213, x221, x229, x237, x245, x253, x261]) :=
  Contract0.of_frun (fn := Try.f33) (c := bodyOf Try.f33) (fuel := 300) (k := kOf Try.prog Try.f33) (outs := []) (hs := [(3, ⟨.auto, some (.c (.int .u64 x1))⟩), (4, ⟨.auto, some (.c (.int .u64 x3))⟩), (5, ⟨.auto, some (.c (.int .u64 x5))⟩), (12, ⟨.auto, some (.c (.int .u64 x7))⟩), (13, ⟨.auto, some (.c (.int .u64 x9))⟩), (17, ⟨.auto, some (.c (.int .u64 x11))⟩), (18, ⟨.auto, some (.c (.int .u8 x13))⟩), (28, ⟨.auto, some (.c (.int .u64 x15))⟩), (29, ⟨.auto, some (.c (.int .u64 x17))⟩), (33, ⟨.auto, some (.c (.int .u64 x19))⟩), (34, ⟨.auto, some (.c (.int .u8 x21))⟩), (44, ⟨.auto, some (.c (.int .u64 x23))⟩), (45, ⟨.auto, some (.c (.int .u64 x25))⟩), (49, ⟨.auto, some (.c (.int .u64 x27))⟩), (50, ⟨.auto, some (.c (.int .u8 x29))⟩), (60, ⟨.auto, some (.c (.int .u64 x31))⟩), (61, ⟨.auto, some (.c (.int .u64 x33))⟩), (65, ⟨.auto, some (.c (.int .u64 x35))⟩), (66, ⟨.auto, some (.c (.int .u8 x37))⟩), (76, ⟨.auto, some (.c (.int .u64 x39))⟩), (77, ⟨.auto, some (.c (.int .u64 x41))⟩), (81, ⟨.auto, some (.c (.int .u64 x43))⟩), (82, ⟨.auto, some (.c (.int .u8 x45))⟩), (92, ⟨.auto, some (.c (.int .u64 x47))⟩), (93, ⟨.auto, some (.c (.int .u64 x49))⟩), (97, ⟨.auto, some (.c (.int .u64 x51))⟩), (98, ⟨.auto, some (.c (.int .u8 x53))⟩), (108, ⟨.auto, some (.c (.int .u64 x55))⟩), (109, ⟨.auto, some (.c (.int .u64 x57))⟩), (113, ⟨.auto, some (.c (.int .u64 x59))⟩), (114, ⟨.auto, some (.c (.int .u8 x61))⟩), (124, ⟨.auto, some (.c (.int .u64 x63))⟩), (125, ⟨.auto, some (.c (.int .u64 x65))⟩), (129, ⟨.auto, some (.c (.int .u64 x67))⟩), (130, ⟨.auto, some (.c (.int .u8 x69))⟩), (140, ⟨.auto, some (.c (.int .u64 x71))⟩), (141, ⟨.auto, some (.c (.int .u64 x73))⟩), (145, ⟨.auto, some (.c (.int .u64 x75))⟩), (146, ⟨.auto, some (.c (.int .u8 x77))⟩), (156, ⟨.auto, some (.c (.int .u64 x79))⟩), (157, ⟨.auto, some (.c (.int .u64 x81))⟩), (161, ⟨.auto, some (.c (.int .u64 x83))⟩), (162, ⟨.auto, some (.c (.int .u8 x85))⟩), (172, ⟨.auto, some (.c (.int .u64 x87))⟩), (173, ⟨.auto, some (.c (.int .u64 x89))⟩), (177, ⟨.auto, some (.c (.int .u64 x91))⟩), (178, ⟨.auto, some (.c (.int .u8 x93))⟩), (188, ⟨.auto, some (.c (.int .u64 x95))⟩), (189, ⟨.auto, some (.c (.int .u64 x97))⟩), (193, ⟨.auto, some (.c (.int .u64 x99))⟩), (194, ⟨.auto, some (.c (.int .u8 x101))⟩), (204, ⟨.auto, some (.c (.int .u64 x103))⟩), (205, ⟨.auto, some (.c (.int .u64 x105))⟩), (209, ⟨.auto, some (.c (.int .u64 x107))⟩), (210, ⟨.auto, some (.c (.int .u8 x109))⟩), (220, ⟨.auto, some (.c (.int .u64 x111))⟩), (221, ⟨.auto, some (.c (.int .u64 x113))⟩), (225, ⟨.auto, some (.c (.int .u64 x115))⟩), (226, ⟨.auto, some (.c (.int .u8 x117))⟩), (236, ⟨.auto, some (.c (.int .u64 x119))⟩), (237, ⟨.auto, some (.c (.int .u64 x121))⟩), (241, ⟨.auto, some (.c (.int .u64 x123))⟩), (242, ⟨.auto, some (.c (.int .u8 x125))⟩), (252, ⟨.auto, some (.c (.int .u64 x127))⟩), (253, ⟨.auto, some (.c (.int .u64 x129))⟩), (257, ⟨.auto, some (.c (.int .u64 x131))⟩), (258, ⟨.auto, some (.c (.int .u8 x133))⟩), (268, ⟨.auto, some (.c (.int .u64 x135))⟩), (269, ⟨.auto, some (.c (.int .u64 x137))⟩), (273, ⟨.auto, some (.c (.int .u64 x139))⟩), (274, ⟨.auto, some (.c (.int .u8 x141))⟩), (284, ⟨.auto, some (.c (.int .u64 x143))⟩), (285, ⟨.auto, some (.c (.int .u64 x145))⟩), (289, ⟨.auto, some (.c (.int .u64 x147))⟩), (290, ⟨.auto, some (.c (.int .u8 x149))⟩), (300, ⟨.auto, some (.c (.int .u64 x151))⟩), (301, ⟨.auto, some (.c (.int .u64 x153))⟩), (305, ⟨.auto, some (.c (.int .u64 x155))⟩), (306, ⟨.auto, some (.c (.int .u8 x157))⟩), (316, ⟨.auto, some (.c (.int .u64 x159))⟩), (317, ⟨.auto, some (.c (.int .u64 x161))⟩), (321, ⟨.auto, some (.c (.int .u64 x163))⟩), (322, ⟨.auto, some (.c (.int .u8 x165))⟩), (332, ⟨.auto, some (.c (.int .u64 x167))⟩), (333, ⟨.auto, some (.c (.int .u64 x169))⟩), (337, ⟨.auto, some (.c (.int .u64 x171))⟩), (338, ⟨.auto, some (.c (.int .u8 x173))⟩), (348, ⟨.auto, some (.c (.int .u64 x175))⟩), (349, ⟨.auto, some (.c (.int .u64 x177))⟩), (353, ⟨.auto, some (.c (.int .u64 x179))⟩), (354, ⟨.auto, some (.c (.int .u8 x181))⟩), (364, ⟨.auto, some (.c (.int .u64 x183))⟩), (365, ⟨.auto, some (.c (.int .u64 x185))⟩), (369, ⟨.auto, some (.c (.int .u64 x187))⟩), (370, ⟨.auto, some (.c (.int .u8 x189))⟩), (380, ⟨.auto, some (.c (.int .u64 x191))⟩), (381, ⟨.auto, some (.c (.int .u64 x193))⟩), (385, ⟨.auto, some (.c (.int .u64 x195))⟩), (386, ⟨.auto, some (.c (.int .u8 x197))⟩), (396, ⟨.auto, some (.c (.int .u64 x199))⟩), (397, ⟨.auto, some (.c (.int .u64 x201))⟩), (401, ⟨.auto, some (.c (.int .u64 x203))⟩), (402, ⟨.auto, some (.c (.int .u8 x205))⟩), (412, ⟨.auto, some (.c (.int .u64 x207))⟩), (413, ⟨.auto, some (.c (.int .u64 x209))⟩), (417, ⟨.auto, some (.c (.int .u64 x211))⟩), (418, ⟨.auto, some (.c (.int .u8 x213))⟩), (428, ⟨.auto, some (.c (.int .u64 x215))⟩), (429, ⟨.auto, some (.c (.int .u64 x217))⟩), (433, ⟨.auto, some (.c (.int .u64 x219))⟩), (434, ⟨.auto, some (.c (.int .u8 x221))⟩), (444, ⟨.auto, some (.c (.int .u64 x223))⟩), (445, ⟨.auto, some (.c (.int .u64 x225))⟩), (449, ⟨.auto, some (.c (.int .u64 x227))⟩), (450, ⟨.auto, some (.c (.int .u8 x229))⟩), (460, ⟨.auto, some (.c (.int .u64 x231))⟩), (461, ⟨.auto, some (.c (.int .u64 x233))⟩), (465, ⟨.auto, some (.c (.int .u64 x235))⟩), (466, ⟨.auto, some (.c (.int .u8 x237))⟩), (476, ⟨.auto, some (.c (.int .u64 x239))⟩), (477, ⟨.auto, some (.c (.int .u64 x241))⟩), (481, ⟨.auto, some (.c (.int .u64 x243))⟩), (482, ⟨.auto, some (.c (.int .u8 x245))⟩), (492, ⟨.auto, some (.c (.int .u64 x247))⟩), (493, ⟨.auto, some (.c (.int .u64 x249))⟩), (497, ⟨.auto, some (.c (.int .u64 x251))⟩), (498, ⟨.auto, some (.c (.int .u8 x253))⟩), (508, ⟨.auto, some (.c (.int .u64 x255))⟩), (509, ⟨.auto, some (.c (.int .u64 x257))⟩), (513, ⟨.auto, some (.c (.int .u64 x259))⟩), (514, ⟨.auto, some (.c (.int .u8 x261))⟩)])
    (cs := [EI .u8 (x259 % 256) x261,
      EI .u64 (x257 / 1099511627776) x259,
      EI .u64 ((x255 + 1442695040888963407) % 18446744073709551616) x257,
      EI .u64 (x249 * 6364136223846793005 % 18446744073709551616) x255,
      EI .u8 (x251 % 256) x253,
      EI .u64 (x249 / 1099511627776) x251,
      EI .u64 ((x247 + 1442695040888963407) % 18446744073709551616) x249,
      EI .u64 (x241 * 6364136223846793005 % 18446744073709551616) x247,
      EI .u8 (x243 % 256) x245,
      EI .u64 (x241 / 1099511627776) x243,
      EI .u64 ((x239 + 1442695040888963407) % 18446744073709551616) x241,
      EI .u64 (x233 * 6364136223846793005 % 18446744073709551616) x239,
      EI .u8 (x235 % 256) x237,
      EI .u64 (x233 / 1099511627776) x235,
      EI .u64 ((x231 + 1442695040888963407) % 18446744073709551616) x233,
      EI .u64 (x225 * 6364136223846793005 % 18446744073709551616) x231,
      EI .u8 (x227 % 256) x229,
      EI .u64 (x225 / 1099511627776) x227,
      EI .u64 ((x223 + 1442695040888963407) % 18446744073709551616) x225,
      EI .u64 (x217 * 6364136223846793005 % 18446744073709551616) x223,
      EI .u8 (x219 % 256) x221,
      EI .u64 (x217 / 1099511627776) x219,
      EI .u64 ((x215 + 1442695040888963407) % 18446744073709551616) x217,
      EI .u64 (x209 * 6364136223846793005 % 18446744073709551616) x215,
      EI .u8 (x211 % 256) x213,
      EI .u64 (x209 / 1099511627776) x211,
      EI .u64 ((x207 + 1442695040888963407) % 18446744073709551616) x209,
      EI .u64 (x201 * 6364136223846793005 % 18446744073709551616) x207,
      EI .u8 (x203 % 256) x205,
      EI .u64 (x201 / 1099511627776) x203,
      EI .u64 ((x199 + 1442695040888963407) % 18446744073709551616) x201,
      EI .u64 (x193 * 6364136223846793005 % 18446744073709551616) x199,
      EI .u8 (x195 % 256) x197,
      EI .u64 (x193 / 1099511627776) x195,
      EI .u64 ((x191 + 1442695040888963407) % 18446744073709551616) x193,
      EI .u64 (x185 * 6364136223846793005 % 18446744073709551616) x191,
      EI .u8 (x187 % 256) x189,
      EI .u64 (x185 / 1099511627776) x187,
      EI .u64 ((x183 + 1442695040888963407) % 18446744073709551616) x185,
      EI .u64 (x177 * 6364136223846793005 % 18446744073709551616) x183,
      EI .u8 (x179 % 256) x181,
      EI .u64 (x177 / 1099511627776) x179,
      EI .u64 ((x175 + 1442695040888963407) % 18446744073709551616) x177,
      EI .u64 (x169 * 6364136223846793005 % 18446744073709551616) x175,
      EI .u8 (x171 % 256) x173,
      EI .u64 (x169 / 1099511627776) x171,
      EI .u64 ((x167 + 1442695040888963407) % 18446744073709551616) x169,
      EI .u64 (x161 * 6364136223846793005 % 18446744073709551616) x167,
      EI .u8 (x163 % 256) x165,
      EI .u64 (x161 / 1099511627776) x163,
      EI .u64 ((x159 + 1442695040888963407) % 18446744073709551616) x161,
      EI .u64 (x153 * 6364136223846793005 % 18446744073709551616) x159,
      EI .u8 (x155 % 256) x157,
      EI .u64 (x153 / 1099511627776) x155,
      EI .u64 ((x151 + 1442695040888963407) % 18446744073709551616) x153,
      EI .u64 (x145 * 6364136223846793005 % 18446744073709551616) x151,
      EI .u8 (x147 % 256) x149,
      EI .u64 (x145 / 1099511627776) x147,
      EI .u64 ((x143 + 1442695040888963407) % 18446744073709551616) x145,
      EI .u64 (x137 * 6364136223846793005 % 18446744073709551616) x143,
      EI .u8 (x139 % 256) x141,
      EI .u64 (x137 / 1099511627776) x139,
      EI .u64 ((x135 + 1442695040888963407) % 18446744073709551616) x137,
      EI .u64 (x129 * 6364136223846793005 % 18446744073709551616) x135,
      EI .u8 (x131 % 256) x133,
      EI .u64 (x129 / 1099511627776) x131,
      EI .u64 ((x127 + 1442695040888963407) % 18446744073709551616) x129,
      EI .u64 (x121 * 6364136223846793005 % 18446744073709551616) x127,
      EI .u8 (x123 % 256) x125,
      EI .u64 (x121 / 1099511627776) x123,
      EI .u64 ((x119 + 1442695040888963407) % 18446744073709551616) x121,
      EI .u64 (x113 * 6364136223846793005 % 18446744073709551616) x119,
      EI .u8 (x115 % 256) x117,
      EI .u64 (x113 / 1099511627776) x115,
      EI .u64 ((x111 + 1442695040888963407) % 18446744073709551616) x113,
      EI .u64 (x105 * 6364136223846793005 % 18446744073709551616) x111,
      EI .u8 (x107 % 256) x109,
      EI .u64 (x105 / 1099511627776) x107,
      EI .u64 ((x103 + 1442695040888963407) % 18446744073709551616) x105,
      EI .u64 (x97 * 6364136223846793005 % 18446744073709551616) x103,
      EI .u8 (x99 % 256) x101,
      EI .u64 (x97 / 1099511627776) x99,
      EI .u64 ((x95 + 1442695040888963407) % 18446744073709551616) x97,
      EI .u64 (x89 * 6364136223846793005 % 18446744073709551616) x95,
      EI .u8 (x91 % 256) x93,
      EI .u64 (x89 / 1099511627776) x91,
      EI .u64 ((x87 + 1442695040888963407) % 18446744073709551616) x89,
      EI .u64 (x81 * 6364136223846793005 % 18446744073709551616) x87,
      EI .u8 (x83 % 256) x85,
      EI .u64 (x81 / 1099511627776) x83,
      EI .u64 ((x79 + 1442695040888963407) % 18446744073709551616) x81,
      EI .u64 (x73 * 6364136223846793005 % 18446744073709551616) x79,
      EI .u8 (x75 % 256) x77,
      EI .u64 (x73 / 1099511627776) x75,
      EI .u64 ((x71 + 1442695040888963407) % 18446744073709551616) x73,
      EI .u64 (x65 * 6364136223846793005 % 18446744073709551616) x71,
      EI .u8 (x67 % 256) x69,
      EI .u64 (x65 / 1099511627776) x67,
      EI .u64 ((x63 + 1442695040888963407) % 18446744073709551616) x65,
      EI .u64 (x57 * 6364136223846793005 % 18446744073709551616) x63,
      EI .u8 (x59 % 256) x61,
      EI .u64 (x57 / 1099511627776) x59,
      EI .u64 ((x55 + 1442695040888963407) % 18446744073709551616) x57,
      EI .u64 (x49 * 6364136223846793005 % 18446744073709551616) x55,
      EI .u8 (x51 % 256) x53,
      EI .u64 (x49 / 1099511627776) x51,
      EI .u64 ((x47 + 1442695040888963407) % 18446744073709551616) x49,
      EI .u64 (x41 * 6364136223846793005 % 18446744073709551616) x47,
      EI .u8 (x43 % 256) x45,
      EI .u64 (x41 / 1099511627776) x43,
      EI .u64 ((x39 + 1442695040888963407) % 18446744073709551616) x41,
      EI .u64 (x33 * 6364136223846793005 % 18446744073709551616) x39,
      EI .u8 (x35 % 256) x37,
      EI .u64 (x33 / 1099511627776) x35,
      EI .u64 ((x31 + 1442695040888963407) % 18446744073709551616) x33,
      EI .u64 (x25 * 6364136223846793005 % 18446744073709551616) x31,
      EI .u8 (x27 % 256) x29,
      EI .u64 (x25 / 1099511627776) x27,
      EI .u64 ((x23 + 1442695040888963407) % 18446744073709551616) x25,
      EI .u64 (x17 * 6364136223846793005 % 18446744073709551616) x23,
      EI .u8 (x19 % 256) x21,
      EI .u64 (x17 / 1099511627776) x19,
      EI .u64 ((x15 + 1442695040888963407) % 18446744073709551616) x17,
      EI .u64 (x9 * 6364136223846793005 % 18446744073709551616) x15,
      EI .u8 (x11 % 256) x13,
      EI .u64 (x9 / 1099511627776) x11,
      EI .u64 ((x7 + 1442695040888963407) % 18446744073709551616) x9,
      EI .u64 (x5 * 6364136223846793005 % 18446744073709551616) x7,
      EI .u64 ((x3 + 1442695040888963407) % 18446744073709551616) x5,
      EI .u64 (x1 * 6364136223846793005 % 18446744073709551616) x3,
      EI .u64 (n % 18446744073709551616) x1])
    mixed Try.func33 (by kernel_rfl) (by kernel_rfl) (by kernel_rfl) rfl (by kernel_rfl) ⟨.mk h260, .mk h258, .mk h256, .mk h254, .mk h252, .mk h250, .mk h248, .mk h246, .mk h244, .mk h242, .mk h240, .mk h238, .mk h236, .mk h234, .mk h232, .mk h230, .mk h228, .mk h226, .mk h224, .mk h222, .mk h220, .mk h218, .mk h216, .mk h214, .mk h212, .mk h210, .mk h208, .mk h206, .mk h204, .mk h202, .mk h200, .mk h198, .mk h196, .mk h194, .mk h192, .mk h190, .mk h188, .mk h186, .mk h184, .mk h182, .mk h180, .mk h178, .mk h176, .mk h174, .mk h172, .mk h170, .mk h168, .mk h166, .mk h164, .mk h162, .mk h160, .mk h158, .mk h156, .mk h154, .mk h152, .mk h150, .mk h148, .mk h146, .mk h144, .mk h142, .mk h140, .mk h138, .mk h136, .mk h134, .mk h132, .mk h130, .mk h128, .mk h126, .mk h124, .mk h122, .mk h120, .mk h118, .mk h116, .mk h114, .mk h112, .mk h110, .mk h108, .mk h106, .mk h104, .mk h102, .mk h100, .mk h98, .mk h96, .mk h94, .mk h92, .mk h90, .mk h88, .mk h86, .mk h84, .mk h82, .mk h80, .mk h78, .mk h76, .mk h74, .mk h72, .mk h70, .mk h68, .mk h66, .mk h64, .mk h62, .mk h60, .mk h58, .mk h56, .mk h54, .mk h52, .mk h50, .mk h48, .mk h46, .mk h44, .mk h42, .mk h40, .mk h38, .mk h36, .mk h34, .mk h32, .mk h30, .mk h28, .mk h26, .mk h24, .mk h22, .mk h20, .mk h18, .mk h16, .mk h14, .mk h12, .mk h10, .mk h8, .mk h6, .mk h4, .mk h2, .mk h0, trivial⟩

theorem run33_5 :
    PureF Try.prog 33 [(.c (.int .i64 5))] (.aggi .u8 [233, 135, 65, 30, 140, 60, 187, 4, 48, 9, 218, 190, 125, 117, 151, 104, 108, 51, 12, 100, 205, 16, 70, 9, 59, 99, 145, 48, 116, 228, 176, 130]) :=
  Contract0.of_frun (fn := Try.f33) (c := bodyOf Try.f33) (fuel := 300) (k := kOf Try.prog Try.f33) (outs := []) (hs := [])
    (cs := [])
    mixed Try.func33 (by kernel_rfl) (by kernel_rfl) (by kernel_rfl) rfl (by kernel_rfl) trivial

end Go.Proofs.Ytkjbjgkjplmkhaa.Vm

namespace Go.Proofs.Ytkjbjgkjplmkhaa.Vm
open Go Go.Proofs Go.Proofs.Ytkjbjgkjplmkhaa
theorem xF_lt (k : Int) (x : Fp) : 0 ≤ xF k x ∧ xF k x < pP := ⟨Int.natCast_nonneg _, by rw [pP_N]; exact Int.ofNat_lt.mpr (Fin.isLt _)⟩
/-- Shared: X's answer, and whether it is 0. -/
theorem shared_ok (k u : Int) : PureF Try.prog 34 [(.aggi .u8 (W.bts k)), (.aggi .u8 (W.bts u))] (.tup [(.aggi .u8 (W.bts (xF (clampN k) (toF (u % 57896044618658097711785492504343953926634992332820282019728792003956564819968))))), (.c (.int .i64 (bif xF (clampN k) (toF (u % 57896044618658097711785492504343953926634992332820282019728792003956564819968)) == 0 then 10 else 0)))]) := by
  have c1 := x_ok k u
  have b := xF_lt (clampN k) (toF (u % 57896044618658097711785492504343953926634992332820282019728792003956564819968))
  generalize xF (clampN k) (toF (u % 57896044618658097711785492504343953926634992332820282019728792003956564819968)) = r at *
  have c2 := same_ok r 0
  by_cases h : r = 0
  · subst h
    exact run34a k u 0 c1 c2
  · have hne : W.bts r ≠ W.bts 0 := fun e => h (bts_inj b ⟨by decide, by decide⟩ e)
    rw [decide_eq_false hne] at c2
    have hb : (r == 0) = false := beq_false_of_ne h
    rw [hb]
    exact run34b k u r c1 c2
/-- Public: of 9. -/
theorem public_ok (k : Int) : PureF Try.prog 32 [(.aggi .u8 (W.bts k))] (.aggi .u8 (W.bts (xF (clampN k) (toF 9)))) :=
  run32 k _ (x_ok k 9)
theorem s5_bts : PureF Try.prog 33 [(.c (.int .i64 5))] (.aggi .u8 (W.bts 59113212129861306766292965511310747389060462232816290906727672674805732181993)) := run33_5
theorem s5_x1 : xF (clampN 59113212129861306766292965511310747389060462232816290906727672674805732181993) (toF 1) = 0 := by
  rw [s5_clamp]
  exact xF_of (x := toF 1) (r := 0) s5_one (by decide) (by decide) rfl
theorem curveKnown_ok : PureF Try.prog 29 [] (.c (.bool true)) := by
  have c3 := shared_ok 59113212129861306766292965511310747389060462232816290906727672674805732181993 1
  have e1 : (1 : Int) % 57896044618658097711785492504343953926634992332820282019728792003956564819968 = 1 := by decide
  rw [e1, s5_x1] at c3
  have c5 := x_ok 59113212129861306766292965511310747389060462232816290906727672674805732181993 0
  have e0 : toF ((0 : Int) % 57896044618658097711785492504343953926634992332820282019728792003956564819968) = 0 := by decide
  rw [e0, xF_zero] at c5
  exact run29 59113212129861306766292965511310747389060462232816290906727672674805732181993 0 10 0 _ s5_bts c3 c5 (by decide) (by decide) (clamp_ok 255) (by decide +kernel)
/-- Secret: 32 bytes. -/
theorem secret_ok (n : Int) : ∃ k, PureF Try.prog 33 [(.c (.int .i64 n))] (.aggi .u8 (W.bts k)) :=
  ⟨_, (run33 n _ _ _ _ _ _ _ _ _ _ _ _ _ _ _ _ _ _ _ _ _ _ _ _ _ _ _ _ _ _ _ _ _ _ _ _ _ _ _ _ _ _ _ _ _ _ _ _ _ _ _ _ _ _ _ _ _ _ _ _ _ _ _ _ _ _ _ _ _ _ _ _ _ _ _ _ _ _ _ _ _ _ _ _ _ _ _ _ _ _ _ _ _ _ _ _ _ _ _ _ _ _ _ _ _ _ _ _ _ _ _ _ _ _ _ _ _ _ _ _ _ _ _ _ _ _ _ _ _ _ _ rfl rfl rfl rfl rfl rfl rfl rfl rfl rfl rfl rfl rfl rfl rfl rfl rfl rfl rfl rfl rfl rfl rfl rfl rfl rfl rfl rfl rfl rfl rfl rfl rfl rfl rfl rfl rfl rfl rfl rfl rfl rfl rfl rfl rfl rfl rfl rfl rfl rfl rfl rfl rfl rfl rfl rfl rfl rfl rfl rfl rfl rfl rfl rfl rfl rfl rfl rfl rfl rfl rfl rfl rfl rfl rfl rfl rfl rfl rfl rfl rfl rfl rfl rfl rfl rfl rfl rfl rfl rfl rfl rfl rfl rfl rfl rfl rfl rfl rfl rfl rfl rfl rfl rfl rfl rfl rfl rfl rfl rfl rfl rfl rfl rfl rfl rfl rfl rfl rfl rfl rfl rfl rfl rfl rfl rfl rfl rfl rfl rfl rfl).num rfl (by
    simp only [List.forall_mem_cons]
    refine ⟨?_, ?_, ?_, ?_, ?_, ?_, ?_, ?_, ?_, ?_, ?_, ?_, ?_, ?_, ?_, ?_, ?_, ?_, ?_, ?_, ?_, ?_, ?_, ?_, ?_, ?_, ?_, ?_, ?_, ?_, ?_, ?_, fun _ h => by cases h⟩
    all_goals exact ⟨Int.emod_nonneg _ (by decide), Int.emod_lt_of_pos _ (by decide)⟩)⟩
end Go.Proofs.Ytkjbjgkjplmkhaa.Vm
