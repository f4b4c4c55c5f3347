/- What functions of the program come to: parts of the walk (Fc). -/
import Derived.Test.YtkjbjgkjplmkhaaDoorWa
import Derived.Test.YtkjbjgkjplmkhaaDoorFb
set_option linter.unusedSimpArgs false
set_option linter.unusedVariables false
/- Powers modulo a prime: from a number whose powers are all that there are. -/
namespace Go.Proofs.YtkjbjgkjplmkhaaDoor.Vm
def Prm (q : Nat) : Prop := 2 ≤ q ∧ ∀ d, d ∣ q → d = 1 ∨ d = q
theorem pigeon : ∀ (n : Nat) (f : Nat → Nat), (∀ i, i < n → f i < n) → (∀ i j, i < n → j < n → f i = f j → i = j) → ∀ y, y < n → ∃ i, i < n ∧ f i = y
  | 0, _, _, _, y, hy => absurd hy (Nat.not_lt_zero y)
  | n + 1, f, hf, hi, y, hy => by
    have ne : ∀ i, i < n → f i ≠ f n := fun i h e => absurd (hi i n (by omega) (by omega) e) (by omega)
    have key := pigeon n (fun i => if f i = n then f n else f i)
      (fun i h => by
        have h1 := hf i (by omega); have h2 := hf n (by omega); have h3 := ne i h
        show (if f i = n then f n else f i) < n
        split <;> omega)
      (fun i j h1 h2 e => by
        have e : (if f i = n then f n else f i) = (if f j = n then f n else f j) := e
        have a := ne i h1; have b := ne j h2
        refine hi i j (by omega) (by omega) ?_
        split at e <;> split at e <;> omega)
    by_cases hya : y = f n
    · exact ⟨n, by omega, hya.symm⟩
    · by_cases hyn : y = n
      · have hfn := hf n (by omega)
        obtain ⟨i, h1, h2⟩ := key (f n) (by omega)
        have h2 : (if f i = n then f n else f i) = f n := h2
        split at h2
        · exact ⟨i, by omega, by omega⟩
        · exact absurd h2 (ne i h1)
      · obtain ⟨i, h1, h2⟩ := key y (by omega)
        have h2 : (if f i = n then f n else f i) = y := h2
        split at h2
        · omega
        · exact ⟨i, by omega, h2⟩
def prodL : List Nat → Nat
  | [] => 1
  | q :: r => q * prodL r
theorem dvd_prod : ∀ (L : List Nat), (∀ q ∈ L, Prm q) → ∀ k, k ∣ prodL L → 1 < k → ∃ q ∈ L, q ∣ k
  | [], _, k, h, h1 => by
    have : k = 1 := Nat.dvd_one.mp h
    omega
  | q :: r, hL, k, h, h1 => by
    by_cases hq : q ∣ k
    · exact ⟨q, List.mem_cons_self, hq⟩
    · have hg := (hL q List.mem_cons_self).2 (Nat.gcd k q) (Nat.gcd_dvd_right k q)
      have hc : Nat.gcd k q = 1 := by
        rcases hg with hg | hg
        · exact hg
        · exact absurd (hg ▸ Nat.gcd_dvd_left k q) hq
      have hk : k ∣ prodL r := Nat.Coprime.dvd_of_dvd_mul_left hc h
      obtain ⟨q', h2, h3⟩ := dvd_prod r (fun x hx => hL x (List.mem_cons_of_mem _ hx)) k hk h1
      exact ⟨q', List.mem_cons_of_mem _ h2, h3⟩
theorem pow_mod_mul {g m a b : Nat} (h : g ^ a % m = 1 % m) : g ^ (a * b) % m = 1 % m := by
  rw [Nat.pow_mul, Nat.pow_mod, h, ← Nat.pow_mod, Nat.one_pow]
theorem least_of {P : Nat → Prop} : ∀ n, P n → ∃ o, o ≤ n ∧ P o ∧ ∀ k, k < o → ¬ P k := by
  intro n
  induction n using Nat.strongRecOn with
  | _ n ih =>
    intro h
    by_cases hx : ∃ k, k < n ∧ P k
    · obtain ⟨k, hk, pk⟩ := hx
      obtain ⟨o, h1, h2, h3⟩ := ih k hk pk
      exact ⟨o, by omega, h2, h3⟩
    · exact ⟨n, Nat.le_refl n, h, fun k hk pk => hx ⟨k, hk, pk⟩⟩
theorem order_of {g m n : Nat} {L : List Nat} (hm : 1 < m) (hL : ∀ q ∈ L, Prm q) (hn : prodL L = n) (_h0 : 0 < n) (h1 : g ^ n % m = 1) (hq : ∀ q ∈ L, g ^ (n / q) % m ≠ 1) :
    ∀ d, 0 < d → d < n → g ^ d % m ≠ 1 := by
  intro d hd hdn hgd
  have one : 1 % m = 1 := Nat.mod_eq_of_lt hm
  obtain ⟨o, hod, ⟨ho, hgo⟩, hmin⟩ := least_of (P := fun k => 0 < k ∧ g ^ k % m = 1) d ⟨hd, hgd⟩
  have hmod : n % o = 0 := by
    rcases Nat.eq_zero_or_pos (n % o) with h | h
    · exact h
    · refine absurd ⟨h, ?_⟩ (hmin (n % o) (Nat.mod_lt _ ho))
      have e : g ^ n % m = g ^ (n % o) % m := by
        conv => lhs; rw [← Nat.div_add_mod n o, Nat.pow_add, Nat.mul_mod, pow_mod_mul (b := n / o) (hgo.trans one.symm), one, Nat.one_mul, Nat.mod_mod]
      rw [← e]; exact h1
  have hdv : o * (n / o) = n := Nat.mul_div_cancel' (Nat.dvd_of_mod_eq_zero hmod)
  have hk1 : 1 < n / o := by
    rcases Nat.lt_or_ge 1 (n / o) with h | h
    · exact h
    · have : o * (n / o) ≤ o * 1 := Nat.mul_le_mul_left o h
      omega
  obtain ⟨q, hqL, hqk⟩ := dvd_prod L hL (n / o) (by rw [hn]; exact ⟨o, by rw [Nat.mul_comm]; exact hdv.symm⟩) hk1
  obtain ⟨k, hk⟩ := hqk
  have hq2 := (hL q hqL).1
  have e : n / q = o * k := by
    have : n = q * (o * k) := by rw [← hdv, hk, Nat.mul_left_comm]
    rw [this, Nat.mul_div_cancel_left _ (by omega)]
  exact hq q hqL (by rw [e, ← one]; exact pow_mod_mul (hgo.trans one.symm))
theorem gen_all {g m : Nat} (hm : 1 < m) (h1 : g ^ (m - 1) % m = 1) (hord : ∀ d, 0 < d → d < m - 1 → g ^ d % m ≠ 1) :
    ∀ x, 0 < x → x < m → ∃ k, g ^ k % m = x := by
  have one : 1 % m = 1 := Nat.mod_eq_of_lt hm
  have pos : ∀ i, i < m - 1 → 0 < g ^ i % m := by
    intro i hi
    rcases Nat.eq_zero_or_pos (g ^ i % m) with h | h
    · exfalso
      have : g ^ (m - 1) % m = 0 := by
        have e : m - 1 = i + (m - 1 - i) := by omega
        rw [e, Nat.pow_add, Nat.mul_mod, h, Nat.zero_mul, Nat.zero_mod]
      omega
    · exact h
  have noteq : ∀ i j, i < j → j < m - 1 → g ^ i % m ≠ g ^ j % m := by
    intro i j hij hj he
    refine hord (j - i) (by omega) (by omega) ?_
    have a : g ^ (m - 1 - i + i) % m = 1 := by rw [show m - 1 - i + i = m - 1 by omega]; exact h1
    have b : g ^ (m - 1 - i + j) % m = 1 := by
      rw [Nat.pow_add, Nat.mul_mod, ← he, ← Nat.mul_mod, ← Nat.pow_add]; exact a
    rw [show m - 1 - i + j = (m - 1) + (j - i) by omega, Nat.pow_add, Nat.mul_mod, h1, Nat.one_mul, Nat.mod_mod] at b
    exact b
  intro x hx hxm
  obtain ⟨i, hi, he⟩ := pigeon (m - 1) (fun i => g ^ i % m - 1)
    (fun i hi => by
      have := Nat.mod_lt (g ^ i) (show m > 0 by omega); have := pos i hi
      show g ^ i % m - 1 < m - 1
      omega)
    (fun i j hi hj e => by
      have e : g ^ i % m - 1 = g ^ j % m - 1 := e
      have p1 := pos i hi; have p2 := pos j hj
      rcases Nat.lt_trichotomy i j with h | h | h
      · exact absurd (show g ^ i % m = g ^ j % m by omega) (noteq i j h hj)
      · exact h
      · exact absurd (show g ^ j % m = g ^ i % m by omega) (noteq j i h hi))
    (x - 1) (by omega)
  have he : g ^ i % m - 1 = x - 1 := he
  have := pos i hi
  exact ⟨i, by omega⟩
theorem fermat_of {g m : Nat} (hm : 1 < m) (h1 : g ^ (m - 1) % m = 1) (hord : ∀ d, 0 < d → d < m - 1 → g ^ d % m ≠ 1) {x : Nat} (hx : x % m ≠ 0) : x ^ (m - 1) % m = 1 := by
  have one : 1 % m = 1 := Nat.mod_eq_of_lt hm
  obtain ⟨k, hk⟩ := gen_all hm h1 hord (x % m) (by omega) (Nat.mod_lt _ (by omega))
  rw [Nat.pow_mod, ← hk, ← Nat.pow_mod, ← Nat.pow_mul, Nat.mul_comm]
  exact (pow_mod_mul (h1.trans one.symm)).trans one
theorem prm_of {g m : Nat} {L : List Nat} (hm : 2 < m) (hL : ∀ q ∈ L, Prm q) (hn : prodL L = m - 1) (h1 : g ^ (m - 1) % m = 1) (hq : ∀ q ∈ L, g ^ ((m - 1) / q) % m ≠ 1) :
    Prm m ∧ ∀ x, x % m ≠ 0 → x ^ (m - 1) % m = 1 := by
  have hord := order_of (by omega) hL hn (by omega) h1 hq
  have fer : ∀ x, x % m ≠ 0 → x ^ (m - 1) % m = 1 := fun x hx => fermat_of (by omega) h1 hord hx
  refine ⟨⟨by omega, fun d hd => ?_⟩, fer⟩
  have hle := Nat.le_of_dvd (by omega) hd
  by_cases hdm : d = m
  · exact .inr hdm
  · left
    have hd0 : 0 < d := Nat.pos_of_dvd_of_pos hd (by omega)
    have h := fer d (by rw [Nat.mod_eq_of_lt (by omega)]; omega)
    have e : d ∣ d ^ (m - 1) := by
      rw [show m - 1 = (m - 2) + 1 by omega, Nat.pow_succ]; exact Nat.dvd_mul_left d _
    have e2 : d ∣ 1 := by
      have := (Nat.dvd_mod_iff hd).mpr e
      rw [h] at this; exact this
    exact Nat.dvd_one.mp e2
theorem pow_one_of {m : Nat} (h : Prm m ∧ ∀ x, x % m ≠ 0 → x ^ (m - 1) % m = 1) (e : Nat) (he : e = m - 1) (x : Nat) (hx : x % m ≠ 0) : x ^ e % m = 1 := by rw [he]; exact h.2 x hx
/-- Powers, by squares. -/
def fpow (m g : Nat) : Nat → Nat → Nat
  | 0, _ => 1 % m
  | f + 1, n => bif n % 2 == 1 then fpow m (g * g % m) f (n / 2) * g % m else fpow m (g * g % m) f (n / 2)
theorem fpow_eq (m : Nat) : ∀ (f g n : Nat), n < 2 ^ f → fpow m g f n = g ^ n % m
  | 0, g, n, h => by
    have : n = 0 := by simpa using h
    subst this; simp [fpow]
  | f + 1, g, n, h => by
    have hn : n / 2 < 2 ^ f := by rw [Nat.pow_succ] at h; omega
    have e : fpow m (g * g % m) f (n / 2) = g ^ (n / 2 * 2) % m := by
      rw [fpow_eq m f _ _ hn, ← Nat.pow_mod, Nat.mul_comm (n / 2) 2, Nat.pow_mul, Nat.pow_two]
    unfold fpow
    rw [e]
    rcases Nat.mod_two_eq_zero_or_one n with h2 | h2
    · rw [h2]
      show g ^ (n / 2 * 2) % m = _
      rw [show n / 2 * 2 = n by omega]
    · rw [h2]
      show g ^ (n / 2 * 2) % m * g % m = _
      rw [Nat.mod_mul_mod, ← Nat.pow_succ, show (n / 2 * 2).succ = n by omega]
/-- By trial. -/
def trial (q : Nat) : Nat → Bool
  | 0 => true
  | d + 1 => (bif q % (d + 2) == 0 then false else true) && trial q d
theorem trial_ok (q : Nat) : ∀ n, trial q n = true → ∀ d, 2 ≤ d → d < n + 2 → q % d ≠ 0
  | 0, _, d, h1, h2 => by omega
  | n + 1, h, d, h1, h2 => by
    unfold trial at h
    rw [Bool.and_eq_true] at h
    by_cases hd : d = n + 2
    · subst hd
      intro e
      rw [e] at h
      exact absurd h.1 (by decide)
    · exact trial_ok q n h.2 d h1 (by omega)
theorem prm_trial (q n : Nat) (h2 : 2 ≤ q) (hn : q < (n + 2) * (n + 2)) (h : trial q n = true) : Prm q := by
  refine ⟨h2, fun d hd => ?_⟩
  obtain ⟨e, he⟩ := hd
  have ok := trial_ok q n h
  by_cases h1 : d = 1
  · exact .inl h1
  by_cases h3 : e = 1
  · right; rw [he, h3, Nat.mul_one]
  exfalso
  have hd0 : d ≠ 0 := by rintro rfl; simp at he; omega
  have he0 : e ≠ 0 := by rintro rfl; simp at he; omega
  by_cases hl : d < n + 2
  · exact ok d (by omega) hl (by rw [he]; exact Nat.mul_mod_right d e)
  · have he' : e < n + 2 := by
      rcases Nat.lt_or_ge e (n + 2) with h | h
      · exact h
      · have := Nat.mul_le_mul (show n + 2 ≤ d by omega) h
        omega
    exact ok e (by omega) he' (by rw [he]; exact Nat.mul_mod_left d e)
def cert (m g : Nat) (L : List Nat) : Bool := Nat.beq (prodL L) (m - 1) && Nat.beq (fpow m g 256 (m - 1)) 1 && L.all fun q => !(Nat.beq (fpow m g 256 ((m - 1) / q)) 1)
theorem prm_cert {m : Nat} (g : Nat) (L : List Nat) (hm : 2 < m ∧ m < 2 ^ 256) (hL : ∀ q ∈ L, Prm q) (h : cert m g L = true) : Prm m ∧ ∀ x, x % m ≠ 0 → x ^ (m - 1) % m = 1 := by
  unfold cert at h
  simp only [Bool.and_eq_true, List.all_eq_true] at h
  obtain ⟨⟨h1, h2⟩, h3⟩ := h
  refine prm_of (g := g) hm.1 hL (Nat.eq_of_beq_eq_true h1) ?_ ?_
  · rw [← fpow_eq m 256 g _ (by omega)]; exact Nat.eq_of_beq_eq_true h2
  · intro q hq e
    have := h3 q hq
    have hlt : (m - 1) / q < 2 ^ 256 := Nat.lt_of_le_of_lt (Nat.div_le_self _ _) (by omega)
    rw [fpow_eq m 256 g _ hlt, e] at this
    exact absurd this (by decide)
set_option maxRecDepth 10000
theorem prms {L : List Nat} : (L.all fun q => Nat.ble 2 q && Nat.blt q ((1400 + 2) * (1400 + 2)) && trial q (Nat.min (q - 2) 1400)) = true → ∀ q ∈ L, Prm q := by
  intro h q hq
  rw [List.all_eq_true] at h
  have := h q hq
  simp only [Bool.and_eq_true] at this
  obtain ⟨⟨h1, h2⟩, h3⟩ := this
  have h1 := Nat.le_of_ble_eq_true h1
  have h2 : q < (1400 + 2) * (1400 + 2) := Nat.le_of_ble_eq_true h2
  refine prm_trial q _ h1 ?_ h3
  by_cases hs : q - 2 ≤ 1400
  · rw [show Nat.min (q - 2) 1400 = q - 2 from Nat.min_eq_left hs, show q - 2 + 2 = q by omega]
    calc q < q * 2 := by omega
      _ ≤ q * q := Nat.mul_le_mul_left q h1
  · rw [show Nat.min (q - 2) 1400 = 1400 from Nat.min_eq_right (by omega)]; exact h2
end Go.Proofs.YtkjbjgkjplmkhaaDoor.Vm

/- 2^255 - 19 is prime: a tree of certificates. -/
namespace Go.Proofs.YtkjbjgkjplmkhaaDoor.Vm
theorem prm_small : ∀ q ∈ [2, 3, 5, 7, 13, 19, 31, 47, 103, 107, 127, 223, 353, 991, 2437, 4153, 57467, 65147, 75707, 132049, 430751, 569003, 1923133], Prm q := prms (by decide +kernel)
theorem prm_8574133 : Prm 8574133 ∧ ∀ x, x % 8574133 ≠ 0 → x ^ (8574133 - 1) % 8574133 = 1 := by
  refine prm_cert 2 [2, 2, 3, 7, 103, 991] (by decide) ?_ (by decide +kernel)
  intro q hq
  simp only [List.mem_cons, List.not_mem_nil, or_false] at hq
  rcases hq with rfl | rfl | rfl | rfl | rfl | rfl
  · exact prm_small _ (by decide)
  · exact prm_small _ (by decide)
  · exact prm_small _ (by decide)
  · exact prm_small _ (by decide)
  · exact prm_small _ (by decide)
  · exact prm_small _ (by decide)
theorem prm_2773320623 : Prm 2773320623 ∧ ∀ x, x % 2773320623 ≠ 0 → x ^ (2773320623 - 1) % 2773320623 = 1 := by
  refine prm_cert 5 [2, 2437, 569003] (by decide) ?_ (by decide +kernel)
  intro q hq
  simp only [List.mem_cons, List.not_mem_nil, or_false] at hq
  rcases hq with rfl | rfl | rfl
  · exact prm_small _ (by decide)
  · exact prm_small _ (by decide)
  · exact prm_small _ (by decide)
theorem prm_72106336199 : Prm 72106336199 ∧ ∀ x, x % 72106336199 ≠ 0 → x ^ (72106336199 - 1) % 72106336199 = 1 := by
  refine prm_cert 7 [2, 13, 2773320623] (by decide) ?_ (by decide +kernel)
  intro q hq
  simp only [List.mem_cons, List.not_mem_nil, or_false] at hq
  rcases hq with rfl | rfl | rfl
  · exact prm_small _ (by decide)
  · exact prm_small _ (by decide)
  · exact prm_2773320623.1
theorem prm_1919519569386763 : Prm 1919519569386763 ∧ ∀ x, x % 1919519569386763 ≠ 0 → x ^ (1919519569386763 - 1) % 1919519569386763 = 1 := by
  refine prm_cert 2 [2, 3, 7, 19, 47, 47, 127, 8574133] (by decide) ?_ (by decide +kernel)
  intro q hq
  simp only [List.mem_cons, List.not_mem_nil, or_false] at hq
  rcases hq with rfl | rfl | rfl | rfl | rfl | rfl | rfl | rfl
  · exact prm_small _ (by decide)
  · exact prm_small _ (by decide)
  · exact prm_small _ (by decide)
  · exact prm_small _ (by decide)
  · exact prm_small _ (by decide)
  · exact prm_small _ (by decide)
  · exact prm_small _ (by decide)
  · exact prm_8574133.1
theorem prm_31757755568855353 : Prm 31757755568855353 ∧ ∀ x, x % 31757755568855353 ≠ 0 → x ^ (31757755568855353 - 1) % 31757755568855353 = 1 := by
  refine prm_cert 10 [2, 2, 2, 3, 31, 107, 223, 4153, 430751] (by decide) ?_ (by decide +kernel)
  intro q hq
  simp only [List.mem_cons, List.not_mem_nil, or_false] at hq
  rcases hq with rfl | rfl | rfl | rfl | rfl | rfl | rfl | rfl | rfl
  · exact prm_small _ (by decide)
  · exact prm_small _ (by decide)
  · exact prm_small _ (by decide)
  · exact prm_small _ (by decide)
  · exact prm_small _ (by decide)
  · exact prm_small _ (by decide)
  · exact prm_small _ (by decide)
  · exact prm_small _ (by decide)
  · exact prm_small _ (by decide)
theorem prm_b35 : Prm 75445702479781427272750846543864801 ∧ ∀ x, x % 75445702479781427272750846543864801 ≠ 0 → x ^ (75445702479781427272750846543864801 - 1) % 75445702479781427272750846543864801 = 1 := by
  refine prm_cert 7 [2, 2, 2, 2, 2, 3, 3, 5, 5, 75707, 72106336199, 1919519569386763] (by decide) ?_ (by decide +kernel)
  intro q hq
  simp only [List.mem_cons, List.not_mem_nil, or_false] at hq
  rcases hq with rfl | rfl | rfl | rfl | rfl | rfl | rfl | rfl | rfl | rfl | rfl | rfl
  · exact prm_small _ (by decide)
  · exact prm_small _ (by decide)
  · exact prm_small _ (by decide)
  · exact prm_small _ (by decide)
  · exact prm_small _ (by decide)
  · exact prm_small _ (by decide)
  · exact prm_small _ (by decide)
  · exact prm_small _ (by decide)
  · exact prm_small _ (by decide)
  · exact prm_small _ (by decide)
  · exact prm_72106336199.1
  · exact prm_1919519569386763.1
theorem prm_b71 : Prm 74058212732561358302231226437062788676166966415465897661863160754340907 ∧ ∀ x, x % 74058212732561358302231226437062788676166966415465897661863160754340907 ≠ 0 → x ^ (74058212732561358302231226437062788676166966415465897661863160754340907 - 1) % 74058212732561358302231226437062788676166966415465897661863160754340907 = 1 := by
  refine prm_cert 2 [2, 3, 353, 57467, 132049, 1923133, 31757755568855353, 75445702479781427272750846543864801] (by decide) ?_ (by decide +kernel)
  intro q hq
  simp only [List.mem_cons, List.not_mem_nil, or_false] at hq
  rcases hq with rfl | rfl | rfl | rfl | rfl | rfl | rfl | rfl
  · exact prm_small _ (by decide)
  · exact prm_small _ (by decide)
  · exact prm_small _ (by decide)
  · exact prm_small _ (by decide)
  · exact prm_small _ (by decide)
  · exact prm_small _ (by decide)
  · exact prm_31757755568855353.1
  · exact prm_b35.1
theorem prm_b77 : Prm 57896044618658097711785492504343953926634992332820282019728792003956564819949 ∧ ∀ x, x % 57896044618658097711785492504343953926634992332820282019728792003956564819949 ≠ 0 → x ^ (57896044618658097711785492504343953926634992332820282019728792003956564819949 - 1) % 57896044618658097711785492504343953926634992332820282019728792003956564819949 = 1 := by
  refine prm_cert 2 [2, 2, 3, 65147, 74058212732561358302231226437062788676166966415465897661863160754340907] (by decide) ?_ (by decide +kernel)
  intro q hq
  simp only [List.mem_cons, List.not_mem_nil, or_false] at hq
  rcases hq with rfl | rfl | rfl | rfl | rfl
  · exact prm_small _ (by decide)
  · exact prm_small _ (by decide)
  · exact prm_small _ (by decide)
  · exact prm_small _ (by decide)
  · exact prm_b71.1
end Go.Proofs.YtkjbjgkjplmkhaaDoor.Vm

/- The numbers modulo the prime, as a ring. -/
namespace Go.Proofs.YtkjbjgkjplmkhaaDoor.Vm
abbrev pN : Nat := 57896044618658097711785492504343953926634992332820282019728792003956564819949
abbrev Fp := Fin pN
theorem pP_N : pP = (pN : Int) := rfl
theorem pP_pos : 0 < pP := by decide
def toF (x : Int) : Fp := ⟨(x % pP).toNat, by
  have h1 := Int.emod_nonneg x (show pP ≠ 0 by decide)
  have h2 := Int.emod_lt_of_pos x pP_pos
  rw [pP_N] at h2
  show (x % pP).toNat < pN
  have : ((x % pP).toNat : Int) < (pN : Int) := by rw [Int.toNat_of_nonneg h1]; exact h2
  exact Int.ofNat_lt.mp this⟩
theorem toF_val (x : Int) : ((toF x).val : Int) = x % pP := Int.toNat_of_nonneg (Int.emod_nonneg x (by decide))
theorem toF_ext {a b : Fp} (h : (a.val : Int) = b.val) : a = b := Fin.ext (Int.ofNat.inj h)
theorem toF_iff {x y : Int} : toF x = toF y ↔ x % pP = y % pP := by
  constructor
  · intro h; rw [← toF_val, ← toF_val, h]
  · intro h; apply toF_ext; rw [toF_val, toF_val, h]
theorem toF_add (x y : Int) : toF (x + y) = toF x + toF y := by
  apply toF_ext
  rw [toF_val, Fin.val_add, Int.natCast_emod, Int.natCast_add, toF_val, toF_val, ← pP_N, ← Int.add_emod]
theorem toF_mul (x y : Int) : toF (x * y) = toF x * toF y := by
  apply toF_ext
  rw [toF_val, Fin.val_mul, Int.natCast_emod, Int.natCast_mul, toF_val, toF_val, ← pP_N, ← Int.mul_emod]
theorem toF_zero : toF 0 = 0 := by decide
theorem toF_one : toF 1 = 1 := by decide
theorem toF_sub (x y : Int) : toF (x - y) = toF x - toF y := by
  have h : toF x = toF (x - y) + toF y := by rw [← toF_add, Int.sub_add_cancel]
  rw [h]
  generalize toF (x - y) = a
  generalize toF y = b
  grind
end Go.Proofs.YtkjbjgkjplmkhaaDoor.Vm
namespace Go.Proofs.YtkjbjgkjplmkhaaDoor.W.El
open Go.Proofs.YtkjbjgkjplmkhaaDoor.Vm
def ok (e : El) : Prop := L52 e.a0 ∧ L52 e.a1 ∧ L52 e.a2 ∧ L52 e.a3 ∧ L52 e.a4
def v (e : El) : Int := valE e.a0 e.a1 e.a2 e.a3 e.a4
def f (e : El) : Fp := toF e.v
end Go.Proofs.YtkjbjgkjplmkhaaDoor.W.El
