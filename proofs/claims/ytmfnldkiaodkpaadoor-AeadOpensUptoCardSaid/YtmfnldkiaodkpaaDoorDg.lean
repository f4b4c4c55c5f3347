/- What functions of the program come to: parts of the walk (Dg). -/
import Derived.Test.YtmfnldkiaodkpaaDoorVmc
import Derived.Test.YtmfnldkiaodkpaaDoorVmb
set_option linter.unusedSimpArgs false
set_option linter.unusedVariables false
/- The document's digits: rows of bytes' numbers, of any length. -/
namespace Go.Proofs.YtmfnldkiaodkpaaDoor.W
open Go Go.Proofs.YtmfnldkiaodkpaaDoor.Vm
/-- A row of digits as a number. -/
def n8 : List Int → Int
  | [] => 0
  | x :: t => x + 256 * n8 t
def b8 (l : List Int) : Prop := ∀ j : Nat, 0 ≤ l.getD j 0 ∧ l.getD j 0 < 256
theorem d_set {l : List Int} {i j : Nat} {v : Int} : (l.set i v).getD j 0 = if i = j ∧ i < l.length then v else l.getD j 0 := by
  rw [List.getD_eq_getElem?_getD, List.getD_eq_getElem?_getD, List.getElem?_set]
  by_cases h : i = j
  · subst h
    by_cases h2 : i < l.length
    · simp [h2]
    · simp [h2, List.getElem?_eq_none (Nat.le_of_not_lt h2)]
  · simp [h]
theorem d_out {l : List Int} {i j : Nat} {v : Int} (h : i ≠ j) : (l.set i v).getD j 0 = l.getD j 0 := by rw [d_set, if_neg (fun q => h q.1)]
theorem d_none {l : List Int} {j : Nat} (h : l.length ≤ j) : l.getD j 0 = 0 := by rw [List.getD_eq_getElem?_getD, List.getElem?_eq_none h]; rfl
theorem d_app {l m : List Int} {j : Nat} : (l ++ m).getD j 0 = if j < l.length then l.getD j 0 else m.getD (j - l.length) 0 := by
  rw [List.getD_eq_getElem?_getD, List.getD_eq_getElem?_getD, List.getD_eq_getElem?_getD, List.getElem?_append]
  split <;> rfl
theorem n8_app : ∀ (l m : List Int), n8 (l ++ m) = n8 l + n8 m * 256 ^ l.length
  | [], m => by show n8 m = 0 + n8 m * 1; omega
  | x :: t, m => by
    show x + 256 * n8 (t ++ m) = x + 256 * n8 t + n8 m * 256 ^ (t.length + 1)
    rw [n8_app t m, Int.pow_succ]
    generalize (256 : Int) ^ t.length = d
    grind
theorem n8_set : ∀ (l : List Int) (i : Nat) (v : Int), i < l.length → n8 (l.set i v) = n8 l + (v - l.getD i 0) * 256 ^ i
  | [], i, v, h => absurd h (by simp)
  | x :: t, 0, v, _ => by
    show v + 256 * n8 t = x + 256 * n8 t + (v - x) * 1
    omega
  | x :: t, i + 1, v, h => by
    show x + 256 * n8 (t.set i v) = x + 256 * n8 t + (v - t.getD i 0) * 256 ^ (i + 1)
    rw [n8_set t i v (by simpa using h), Int.pow_succ]
    generalize (256 : Int) ^ i = d
    generalize n8 t = n
    generalize t.getD i 0 = y
    grind
theorem n8_take : ∀ (l : List Int) (i : Nat), n8 (l.take (i + 1)) = n8 (l.take i) + l.getD i 0 * 256 ^ i
  | [], i => by
    have : ([] : List Int).getD i 0 = 0 := d_none (Nat.zero_le _)
    rw [this, List.take_nil, List.take_nil]; omega
  | x :: t, 0 => by
    show x + 256 * n8 (t.take 0) = 0 + x * 1
    rw [List.take_zero]
    show x + 256 * 0 = 0 + x * 1
    omega
  | x :: t, i + 1 => by
    show x + 256 * n8 (t.take (i + 1)) = x + 256 * n8 (t.take i) + t.getD i 0 * 256 ^ (i + 1)
    rw [n8_take t i, Int.pow_succ]
    generalize (256 : Int) ^ i = d
    generalize n8 (t.take i) = n
    generalize t.getD i 0 = y
    grind
theorem n8_nn : ∀ {l : List Int}, b8 l → 0 ≤ n8 l
  | [], _ => by decide
  | x :: t, h => by
    have h0 : 0 ≤ x := (h 0).1
    have := n8_nn (l := t) (fun j => h (j + 1))
    show 0 ≤ x + 256 * n8 t
    omega
theorem n8_lt : ∀ {l : List Int}, b8 l → n8 l < 256 ^ l.length
  | [], _ => by decide
  | x :: t, h => by
    have h0 : x < 256 := (h 0).2
    have := n8_lt (l := t) (fun j => h (j + 1))
    show x + 256 * n8 t < 256 ^ (t.length + 1)
    rw [Int.pow_succ]
    omega
theorem b8_take {l : List Int} (h : b8 l) (i : Nat) : b8 (l.take i) := by
  intro j
  by_cases q : j < i
  · have : (l.take i).getD j 0 = l.getD j 0 := by
      rw [List.getD_eq_getElem?_getD, List.getD_eq_getElem?_getD, List.getElem?_take, if_pos q]
    rw [this]; exact h j
  · have : (l.take i).getD j 0 = 0 := by
      rw [List.getD_eq_getElem?_getD, List.getElem?_take, if_neg q]; rfl
    rw [this]; decide
theorem b8_drop {l : List Int} (h : b8 l) (i : Nat) : b8 (l.drop i) := by
  intro j
  have : (l.drop i).getD j 0 = l.getD (i + j) 0 := by
    rw [List.getD_eq_getElem?_getD, List.getD_eq_getElem?_getD, List.getElem?_drop]
  rw [this]; exact h _
/-! ### Sums -/
def plc (a b : List Int) : Nat → Int
  | 0 => 0
  | i + 1 => (plc a b i + a.getD i 0 + b.getD i 0) / 256
def plr (a b : List Int) : Nat → List Int
  | 0 => []
  | i + 1 => plr a b i ++ [(plc a b i + a.getD i 0 + b.getD i 0) % 256]
def pln (a b : List Int) : Nat := if plc a b (max a.length b.length) > 0 then max a.length b.length + 1 else max a.length b.length
def pls (a b : List Int) : List Int := plr a b (pln a b)
theorem plr_len {a b : List Int} : ∀ {i : Nat}, (plr a b i).length = i
  | 0 => rfl
  | i + 1 => by rw [plr, List.length_append, plr_len]; rfl
theorem plc_ok {a b : List Int} (ha : b8 a) (hb : b8 b) : ∀ i, 0 ≤ plc a b i ∧ plc a b i ≤ 1
  | 0 => by show (0 : Int) ≤ 0 ∧ (0 : Int) ≤ 1; decide
  | i + 1 => by
    have h1 := plc_ok ha hb i
    have h2 := ha i
    have h3 := hb i
    rw [plc]; omega
theorem plr_num {a b : List Int} : ∀ i, n8 (plr a b i) + plc a b i * 256 ^ i = n8 (a.take i) + n8 (b.take i)
  | 0 => by
    rw [List.take_zero, List.take_zero]
    show 0 + 0 * 1 = (0 : Int) + 0
    omega
  | i + 1 => by
    have ih := plr_num (a := a) (b := b) i
    rw [plr, n8_app, plr_len, n8_take, n8_take, plc, Int.pow_succ]
    show n8 (plr a b i) + ((plc a b i + a.getD i 0 + b.getD i 0) % 256 + 256 * 0) * 256 ^ i + _ = _
    generalize (256 : Int) ^ i = d at *
    generalize n8 (plr a b i) = n at *
    generalize n8 (a.take i) = x at *
    generalize n8 (b.take i) = y at *
    generalize plc a b i = c at *
    generalize a.getD i 0 = u at *
    generalize b.getD i 0 = w at *
    have : (c + u + w) % 256 = c + u + w - 256 * ((c + u + w) / 256) := by omega
    rw [this]
    generalize (c + u + w) / 256 = q
    grind
theorem take_all {l : List Int} {i : Nat} (h : l.length ≤ i) : l.take i = l := List.take_of_length_le h
theorem plc_end {a b : List Int} (ha : b8 a) (hb : b8 b) : plc a b (pln a b) = 0 := by
  have h := plc_ok ha hb (max a.length b.length)
  unfold pln
  split
  · rw [plc, d_none (by omega), d_none (by omega)]; omega
  · omega
theorem pln_ge {a b : List Int} : a.length ≤ pln a b ∧ b.length ≤ pln a b ∧ pln a b ≤ max a.length b.length + 1 := by
  unfold pln; split <;> omega
theorem pls_num {a b : List Int} (ha : b8 a) (hb : b8 b) : n8 (pls a b) = n8 a + n8 b := by
  have h := plr_num (a := a) (b := b) (pln a b)
  rw [plc_end ha hb, take_all pln_ge.1, take_all pln_ge.2.1] at h
  unfold pls; omega
theorem plr_b8 {a b : List Int} : ∀ i, b8 (plr a b i)
  | 0 => fun j => by rw [plr, d_none (Nat.zero_le _)]; decide
  | i + 1 => fun j => by
    rw [plr, d_app, plr_len]
    split
    · exact plr_b8 i j
    · by_cases h : j - i = 0
      · rw [h]
        show 0 ≤ (plc a b i + a.getD i 0 + b.getD i 0) % 256 ∧ (plc a b i + a.getD i 0 + b.getD i 0) % 256 < 256
        omega
      · rw [d_none (by show 1 ≤ j - i; omega)]; decide
theorem pls_len {a b : List Int} : (pls a b).length = pln a b := plr_len
/-! ### Products -/
def tst (a b : List Int) (i : Nat) (v : List Int) : Nat → List Int × Int
  | 0 => (v, 0)
  | k + 1 => ((tst a b i v k).1.set (i + k) (((tst a b i v k).2 + (tst a b i v k).1.getD (i + k) 0 + a.getD i 0 * b.getD k 0) % 256), ((tst a b i v k).2 + (tst a b i v k).1.getD (i + k) 0 + a.getD i 0 * b.getD k 0) / 256)
def tv (a b : List Int) (i : Nat) (v : List Int) (k : Nat) : List Int := (tst a b i v k).1
def tc (a b : List Int) (i : Nat) (v : List Int) (k : Nat) : Int := (tst a b i v k).2
def tn (a b : List Int) (i : Nat) (v : List Int) : Nat := if tc a b i v b.length > 0 then b.length + 1 else b.length
def trow (a b : List Int) (i : Nat) (v : List Int) : List Int := tv a b i v (tn a b i v)
def tms (a b : List Int) : Nat → List Int
  | 0 => List.replicate (a.length + b.length + 1) 0
  | i + 1 => trow a b i (tms a b i)
structure TvOk (a b : List Int) (i : Nat) (v : List Int) (k : Nat) : Prop where
  len : (tv a b i v k).length = v.length
  c : 0 ≤ tc a b i v k ∧ tc a b i v k ≤ 255
  num : n8 (tv a b i v k) + tc a b i v k * 256 ^ (i + k) = n8 v + a.getD i 0 * 256 ^ i * n8 (b.take k)
  dg : b8 (tv a b i v k)
  hi : ∀ j, i + k ≤ j → (tv a b i v k).getD j 0 = v.getD j 0
theorem mul_le {x y : Int} (hx : 0 ≤ x ∧ x < 256) (hy : 0 ≤ y ∧ y < 256) : 0 ≤ x * y ∧ x * y ≤ 65025 := by
  have h1 : x * y ≤ 255 * y := Int.mul_le_mul_of_nonneg_right (by omega) hy.1
  have h0 := Int.mul_nonneg hx.1 hy.1
  omega
theorem tv_ok {a b v : List Int} {i : Nat} (ha : b8 a) (hb : b8 b) (hv : b8 v) : ∀ k, i + k ≤ v.length → TvOk a b i v k
  | 0, _ => ⟨rfl, by show (0 : Int) ≤ 0 ∧ (0 : Int) ≤ 255; decide, by
      show n8 v + 0 * 256 ^ (i + 0) = n8 v + a.getD i 0 * 256 ^ i * n8 (b.take 0)
      rw [List.take_zero]
      show n8 v + 0 * 256 ^ (i + 0) = n8 v + a.getD i 0 * 256 ^ i * 0
      omega, hv, fun _ _ => rfl⟩
  | k + 1, h => by
    have q := tv_ok (i := i) ha hb hv k (by omega)
    have hc := q.c
    have hx := q.dg (i + k)
    have hm := mul_le (ha i) (hb k)
    have hlen := q.len
    have e1 : tv a b i v (k + 1) = (tv a b i v k).set (i + k) ((tc a b i v k + (tv a b i v k).getD (i + k) 0 + a.getD i 0 * b.getD k 0) % 256) := rfl
    have e2 : tc a b i v (k + 1) = (tc a b i v k + (tv a b i v k).getD (i + k) 0 + a.getD i 0 * b.getD k 0) / 256 := rfl
    have hn := q.num
    refine ⟨by rw [e1, List.length_set, hlen], by rw [e2]; omega, ?_, fun j => ?_, fun j hj => ?_⟩
    · rw [e1, e2, n8_set _ _ _ (by omega), n8_take b k, show i + (k + 1) = (i + k) + 1 by omega, Int.pow_succ]
      rw [Int.pow_add] at hn ⊢
      generalize (256 : Int) ^ i = d at *
      generalize (256 : Int) ^ k = g at *
      generalize n8 (tv a b i v k) = n at *
      generalize (tv a b i v k).getD (i + k) 0 = y at *
      generalize tc a b i v k = c at *
      generalize n8 v = w at *
      generalize n8 (b.take k) = t at *
      generalize a.getD i 0 = x at *
      generalize b.getD k 0 = z at *
      have : (c + y + x * z) % 256 = c + y + x * z - 256 * ((c + y + x * z) / 256) := by omega
      rw [this]
      generalize (c + y + x * z) / 256 = r
      grind
    · rw [e1, d_set]
      split
      · omega
      · exact q.dg j
    · rw [e1, d_out (by omega)]; exact q.hi j (by omega)
theorem tn_le {a b v : List Int} {i : Nat} : b.length ≤ tn a b i v ∧ tn a b i v ≤ b.length + 1 := by unfold tn; split <;> omega
theorem trow_ok {a b v : List Int} {i : Nat} (ha : b8 a) (hb : b8 b) (hv : b8 v) (hl : i + b.length + 1 ≤ v.length) (hz : v.getD (i + b.length) 0 = 0) :
    tc a b i v (tn a b i v) = 0 ∧ (trow a b i v).length = v.length ∧ b8 (trow a b i v) ∧ n8 (trow a b i v) = n8 v + a.getD i 0 * 256 ^ i * n8 b ∧ ∀ j, i + b.length + 1 ≤ j → (trow a b i v).getD j 0 = v.getD j 0 := by
  have q := tv_ok ha hb hv b.length (i := i) (by omega)
  have hn := tn_le (a := a) (b := b) (v := v) (i := i)
  have o := tv_ok ha hb hv (tn a b i v) (i := i) (by omega)
  have hc : tc a b i v (tn a b i v) = 0 := by
    unfold tn
    split
    · show (tc a b i v b.length + (tv a b i v b.length).getD (i + b.length) 0 + a.getD i 0 * b.getD b.length 0) / 256 = 0
      rw [q.hi _ (Nat.le_refl _), hz, d_none (l := b) (Nat.le_refl _), Int.mul_zero]
      have := q.c
      omega
    · have := q.c
      omega
  have num := o.num
  rw [hc, take_all hn.1] at num
  refine ⟨hc, o.len, o.dg, by unfold trow; omega, fun j hj => o.hi j (by omega)⟩
structure TmOk (a b : List Int) (i : Nat) : Prop where
  len : (tms a b i).length = a.length + b.length + 1
  num : n8 (tms a b i) = n8 (a.take i) * n8 b
  dg : b8 (tms a b i)
  hi : ∀ j, i + b.length ≤ j → (tms a b i).getD j 0 = 0
theorem rep_get {n j : Nat} : (List.replicate n (0 : Int)).getD j 0 = 0 := by
  rw [List.getD_eq_getElem?_getD, List.getElem?_replicate]; split <;> rfl
theorem rep_num : ∀ n, n8 (List.replicate n (0 : Int)) = 0
  | 0 => rfl
  | n + 1 => by rw [List.replicate_succ]; show 0 + 256 * n8 (List.replicate n 0) = 0; rw [rep_num n]; rfl
theorem tm_ok {a b : List Int} (ha : b8 a) (hb : b8 b) : ∀ i, i ≤ a.length → TmOk a b i
  | 0, _ => ⟨List.length_replicate, by
      rw [List.take_zero]
      show n8 (List.replicate _ 0) = 0 * n8 b
      rw [rep_num, Int.zero_mul], fun j => by rw [tms, rep_get]; decide, fun j _ => by rw [tms, rep_get]⟩
  | i + 1, h => by
    have q := tm_ok ha hb i (by omega)
    have hl := q.len
    have r := trow_ok (v := tms a b i) (i := i) ha hb q.dg (by omega) (q.hi _ (Nat.le_refl _))
    refine ⟨by rw [tms, r.2.1, hl], ?_, r.2.2.1, fun j hj => ?_⟩
    · rw [tms, r.2.2.2.1, q.num, n8_take]
      generalize (256 : Int) ^ i = d
      grind
    · rw [tms, r.2.2.2.2 j (by omega)]; exact q.hi j (by omega)
def tmm (a b : List Int) : List Int := tms a b a.length
theorem tmm_num {a b : List Int} (ha : b8 a) (hb : b8 b) : n8 (tmm a b) = n8 a * n8 b := by
  have := (tm_ok ha hb a.length (Nat.le_refl _)).num
  rwa [List.take_length] at this
theorem tmm_len {a b : List Int} (ha : b8 a) (hb : b8 b) : (tmm a b).length = a.length + b.length + 1 := (tm_ok ha hb a.length (Nat.le_refl _)).len
theorem tmm_b8 {a b : List Int} (ha : b8 a) (hb : b8 b) : b8 (tmm a b) := (tm_ok ha hb a.length (Nat.le_refl _)).dg
/-! ### The 130 lowest bits, and what stands above them -/
def lowL (a : List Int) : List Int := if a.length ≥ 17 then (a.take 17).set 16 (a.getD 16 0 % 4) else a
def shr2 : List Int → List Int
  | [] => []
  | x :: t => (x / 4 + t.getD 0 0 % 4 * 64) :: shr2 t
def highL (a : List Int) : List Int := shr2 (a.drop 16)
def m130 : Int := 1361129467683753853853498429727072845824
theorem n8_cut : ∀ (l : List Int) (i : Nat), n8 l = n8 (l.take i) + n8 (l.drop i) * 256 ^ i
  | l, 0 => by
    rw [List.take_zero, List.drop_zero]
    show n8 l = 0 + n8 l * 1
    omega
  | [], i + 1 => by rw [List.take_nil, List.drop_nil]; show (0 : Int) = 0 + 0 * _; omega
  | x :: t, i + 1 => by
    show x + 256 * n8 t = x + 256 * n8 (t.take i) + n8 (t.drop i) * 256 ^ (i + 1)
    rw [n8_cut t i, Int.pow_succ]
    generalize (256 : Int) ^ i = d
    generalize n8 (t.take i) = n
    generalize n8 (t.drop i) = z
    grind
theorem n8_mod4 {l : List Int} : n8 l % 4 = l.getD 0 0 % 4 := by
  cases l with
  | nil => rfl
  | cons x t => show (x + 256 * n8 t) % 4 = x % 4; omega
theorem shr2_num : ∀ {l : List Int}, n8 (shr2 l) = n8 l / 4
  | [] => rfl
  | x :: t => by
    have h := n8_mod4 (l := t)
    show x / 4 + t.getD 0 0 % 4 * 64 + 256 * n8 (shr2 t) = (x + 256 * n8 t) / 4
    rw [shr2_num, ← h]
    omega
theorem shr2_len : ∀ {l : List Int}, (shr2 l).length = l.length
  | [] => rfl
  | x :: t => by rw [shr2, List.length_cons, List.length_cons, shr2_len]
theorem shr2_b8 : ∀ {l : List Int}, b8 l → b8 (shr2 l)
  | [], _ => fun j => by rw [shr2, d_none (Nat.zero_le _)]; decide
  | x :: t, h => fun j => by
    cases j with
    | zero =>
      have h0 : 0 ≤ x ∧ x < 256 := h 0
      show 0 ≤ x / 4 + t.getD 0 0 % 4 * 64 ∧ x / 4 + t.getD 0 0 % 4 * 64 < 256
      omega
    | succ j => exact shr2_b8 (l := t) (fun j => h (j + 1)) j
theorem shr2_get : ∀ {l : List Int} {i : Nat}, i < l.length → (shr2 l).getD i 0 = l.getD i 0 / 4 + l.getD (i + 1) 0 % 4 * 64
  | [], i, h => absurd h (by simp)
  | x :: t, 0, _ => rfl
  | x :: t, i + 1, h => shr2_get (l := t) (by simpa using h)
theorem highL_len {a : List Int} : (highL a).length = a.length - 16 := by rw [highL, shr2_len, List.length_drop]
theorem highL_b8 {a : List Int} (h : b8 a) : b8 (highL a) := shr2_b8 (b8_drop h 16)
theorem high_num {a : List Int} (h : b8 a) : n8 (highL a) = n8 a / m130 := by
  have e := n8_cut a 16
  have h1 := n8_nn (b8_take h 16)
  have h2 := n8_lt (b8_take h 16)
  have h3 : (256 : Int) ^ (a.take 16).length ≤ 340282366920938463463374607431768211456 := by
    have hl : (a.take 16).length ≤ 16 := by rw [List.length_take]; omega
    have : ∀ k, k ≤ 16 → (256 : Int) ^ k ≤ 340282366920938463463374607431768211456 := by decide
    exact this _ hl
  have e16 : (256 : Int) ^ 16 = 340282366920938463463374607431768211456 := by decide
  rw [e16] at e
  rw [highL, shr2_num]
  unfold m130
  omega
theorem lowL_len {a : List Int} : (lowL a).length = min a.length 17 := by
  unfold lowL
  split
  · rw [List.length_set, List.length_take]; omega
  · omega
theorem lowL_b8 {a : List Int} (h : b8 a) : b8 (lowL a) := by
  unfold lowL
  split
  · intro j
    rw [d_set]
    split
    · have := h 16; omega
    · exact b8_take h 17 j
  · exact h
theorem low_num {a : List Int} (h : b8 a) : n8 (lowL a) = n8 a % m130 := by
  unfold lowL
  by_cases q : a.length ≥ 17
  · rw [if_pos q, n8_set _ _ _ (by rw [List.length_take]; omega), n8_take a 16]
    have g : (a.take 17).getD 16 0 = a.getD 16 0 := by
      rw [List.getD_eq_getElem?_getD, List.getD_eq_getElem?_getD, List.getElem?_take, if_pos (by decide)]
    rw [g]
    have e := n8_cut a 16
    have e2 := n8_mod4 (l := a.drop 16)
    have g2 : (a.drop 16).getD 0 0 = a.getD 16 0 := by
      rw [List.getD_eq_getElem?_getD, List.getD_eq_getElem?_getD, List.getElem?_drop]
    rw [g2] at e2
    have h1 := n8_nn (b8_take h 16)
    have h2 := n8_lt (b8_take h 16)
    rw [List.length_take, Nat.min_eq_left (by omega)] at h2
    have e16 : (256 : Int) ^ 16 = 340282366920938463463374607431768211456 := by decide
    rw [e16] at *
    unfold m130
    have h16 := h 16
    omega
  · rw [if_neg q]
    have h1 := n8_nn h
    have h2 := n8_lt h
    have h3 : (256 : Int) ^ a.length ≤ 340282366920938463463374607431768211456 := by
      have : ∀ k, k ≤ 16 → (256 : Int) ^ k ≤ 340282366920938463463374607431768211456 := by decide
      exact this _ (by omega)
    unfold m130
    omega
/-- Nought: each digit is. -/
theorem n8_zero : ∀ {l : List Int}, b8 l → (n8 l = 0 ↔ ∀ j, j < l.length → l.getD j 0 = 0)
  | [], _ => ⟨fun _ j hj => absurd hj (by simp), fun _ => rfl⟩
  | x :: t, h => by
    have h0 : 0 ≤ x ∧ x < 256 := h 0
    have ht : b8 t := fun j => h (j + 1)
    have ih := n8_zero ht
    have hn := n8_nn ht
    constructor
    · intro e j hj
      have e' : x + 256 * n8 t = 0 := e
      cases j with
      | zero => show x = 0; omega
      | succ j => exact ih.1 (by omega) j (by simpa using hj)
    · intro e
      have hx : x = 0 := e 0 (by simp)
      have : n8 t = 0 := ih.2 fun j hj => e (j + 1) (by simpa using hj)
      show x + 256 * n8 t = 0
      omega
end Go.Proofs.YtmfnldkiaodkpaaDoor.W
namespace Go.Proofs.YtmfnldkiaodkpaaDoor.W
theorem mul8a {x y : Int} (hx : 0 ≤ x ∧ x < 256) (hy : 0 ≤ y ∧ y < 256) : x * y % 4294967296 = x * y := by
  have := mul_le hx hy; omega
theorem mul8 {x y c z : Int} (hx : 0 ≤ x ∧ x < 256) (hy : 0 ≤ y ∧ y < 256) (hc : 0 ≤ c ∧ c < 256) (hz : 0 ≤ z ∧ z < 256) : (c + z + x * y) % 4294967296 = c + z + x * y := by
  have := mul_le hx hy; omega
end Go.Proofs.YtmfnldkiaodkpaaDoor.W
namespace Go.Proofs.YtmfnldkiaodkpaaDoor.W
theorem td {x : Int} (h : 0 ≤ x ∧ x < 4294967296) (d : Int) (hd : 0 < d) : Int.tdiv x d % 4294967296 = x / d := by
  rw [Int.tdiv_eq_ediv_of_nonneg h.1]
  have h1 := Int.ediv_nonneg h.1 (Int.le_of_lt hd)
  have h2 := Int.ediv_le_self d h.1
  omega
theorem tm {x : Int} (h : 0 ≤ x) (d : Int) : Int.tmod x d = x % d := Int.tmod_eq_emod_of_nonneg h
theorem take_snoc {l : List Int} {i : Nat} (h : i < l.length) : l.take i ++ [l.getD i 0] = l.take (i + 1) := by
  rw [List.take_add_one, List.getD_eq_getElem?_getD, List.getElem?_eq_getElem h]; rfl
/-- The first place that is not nought. -/
def fnz : List Int → Nat
  | [] => 0
  | x :: t => if x = 0 then fnz t + 1 else 0
theorem fnz_ok : ∀ {l : List Int}, (¬ ∀ j, j < l.length → l.getD j 0 = 0) → fnz l < l.length ∧ ¬ l.getD (fnz l) 0 = 0 ∧ ∀ j, j < fnz l → l.getD j 0 = 0
  | [], h => absurd (fun j hj => absurd hj (by simp)) h
  | x :: t, h => by
    by_cases hx : x = 0
    · have ih := fnz_ok (l := t) (fun q => h fun j hj => by
        cases j with
        | zero => exact hx
        | succ j => exact q j (by simpa using hj))
      rw [fnz, if_pos hx]
      refine ⟨by simpa using ih.1, ih.2.1, fun j hj => ?_⟩
      cases j with
      | zero => exact hx
      | succ j => exact ih.2.2 j (by omega)
    · rw [fnz, if_neg hx]
      exact ⟨by simp, hx, fun j hj => absurd hj (by omega)⟩
theorem row_b8 {l : List Int} (h : ∀ x ∈ l, 0 ≤ x ∧ x < 256) : b8 l := by
  intro j
  by_cases hj : j < l.length
  · rw [List.getD_eq_getElem?_getD, List.getElem?_eq_getElem hj]; exact h _ (List.getElem_mem hj)
  · rw [d_none (by omega)]; decide
theorem b8_row {l : List Int} (h : b8 l) : ∀ x ∈ l, 0 ≤ x ∧ x < 256 := by
  intro x hx
  obtain ⟨j, hj, rfl⟩ := List.mem_iff_getElem.1 hx
  have := h j
  rwa [List.getD_eq_getElem?_getD, List.getElem?_eq_getElem hj] at this
end Go.Proofs.YtmfnldkiaodkpaaDoor.W
namespace Go.Proofs.YtmfnldkiaodkpaaDoor.W
theorem b8_five : b8 [5] := row_b8 (by intro x hx; simp only [List.mem_cons, List.not_mem_nil, or_false] at hx; subst hx; decide)
end Go.Proofs.YtmfnldkiaodkpaaDoor.W
namespace Go.Proofs.YtmfnldkiaodkpaaDoor.W
theorem snoc_b8 {l : List Int} (h : b8 l) : b8 (l ++ [1]) := by
  intro j
  rw [d_app]
  split
  · exact h j
  · by_cases q : j - l.length = 0
    · rw [q]; decide
    · rw [d_none (by show 1 ≤ j - l.length; omega)]; decide
/-- A block of a text, with its end. -/
theorem seg_b8 {l : List Int} {p c : Nat} (h : b8 l) : b8 (List.take c (List.drop p l) ++ [1]) := snoc_b8 (b8_take (b8_drop h p) c)
end Go.Proofs.YtmfnldkiaodkpaaDoor.W
namespace Go.Proofs.YtmfnldkiaodkpaaDoor.W
theorem key_b8 {k : List Int} (h : b8 k) : b8 (List.take 16 (List.drop 16 k)) := b8_take (b8_drop h 16) 16
end Go.Proofs.YtmfnldkiaodkpaaDoor.W

/- The document's reduction modulo 2^130 - 5. -/
namespace Go.Proofs.YtmfnldkiaodkpaaDoor.W
open Go Go.Proofs.YtmfnldkiaodkpaaDoor.Vm
def q130 : Int := 1361129467683753853853498429727072845819
def rnx (a : List Int) : List Int := pls (lowL a) (tmm [5] (highL a))
def rdk : Nat → List Int → List Int
  | 0, a => a
  | k + 1, a => if n8 (highL a) = 0 then a else rdk k (rnx a)
theorem rnx_b8 {a : List Int} : b8 (rnx a) := plr_b8 _
theorem rnx_num {a : List Int} (h : b8 a) : n8 (rnx a) = n8 a % m130 + 5 * (n8 a / m130) := by
  unfold rnx
  rw [pls_num (lowL_b8 h) (tmm_b8 b8_five (highL_b8 h)), low_num h, tmm_num b8_five (highL_b8 h), high_num h]
  rfl
theorem rnx_len {a : List Int} (h : b8 a) : (rnx a).length ≤ max 18 a.length := by
  unfold rnx
  rw [pls_len]
  have g := (pln_ge (a := lowL a) (b := tmm [5] (highL a))).2.2
  rw [lowL_len, tmm_len b8_five (highL_b8 h), highL_len] at g
  simp only [List.length_cons, List.length_nil] at g
  by_cases q : a.length ≤ 16
  · omega
  · omega
theorem rnx_lt {a : List Int} (h : b8 a) (hz : ¬ n8 (highL a) = 0) : n8 (rnx a) < n8 a := by
  rw [rnx_num h]
  rw [high_num h] at hz
  have := n8_nn h
  unfold m130 at *
  omega
theorem rdk_ok : ∀ (k : Nat) {l : List Int}, b8 l → (n8 l).toNat ≤ k → b8 (rdk k l) ∧ n8 (highL (rdk k l)) = 0 ∧ n8 (rdk k l) % q130 = n8 l % q130 ∧ (rdk k l).length ≤ max 18 l.length
  | 0, l, h, hk => by
    refine ⟨h, ?_, rfl, by show l.length ≤ max 18 l.length; omega⟩
    show n8 (highL l) = 0
    rw [high_num h]
    have := n8_nn h
    have e : n8 l = 0 := by omega
    rw [e]; rfl
  | k + 1, l, h, hk => by
    unfold rdk
    by_cases hz : n8 (highL l) = 0
    · rw [if_pos hz]
      exact ⟨h, hz, rfl, by omega⟩
    · rw [if_neg hz]
      have hlt := rnx_lt h hz
      have hn := n8_nn (rnx_b8 (a := l))
      obtain ⟨r1, r2, r3, r4⟩ := rdk_ok k (l := rnx l) rnx_b8 (by omega)
      refine ⟨r1, r2, ?_, ?_⟩
      · rw [r3, rnx_num h]
        have e : n8 l = n8 l % m130 + m130 * (n8 l / m130) := by have := Int.emod_add_mul_ediv (n8 l) m130; omega
        conv => rhs; rw [e]
        generalize n8 l % m130 = x
        generalize n8 l / m130 = y
        have e2 : x + m130 * y = x + 5 * y + q130 * y := by unfold m130 q130; omega
        rw [e2, Int.add_mul_emod_self_left]
      · have := rnx_len h; omega
theorem rdk_more : ∀ (k : Nat) {l : List Int}, b8 l → (n8 l).toNat ≤ k → rdk (k + 1) l = rdk k l
  | 0, l, h, hk => by
    have e : n8 (highL l) = 0 := (rdk_ok 0 h hk).2.1
    show (if n8 (highL l) = 0 then l else rdk 0 (rnx l)) = l
    rw [if_pos e]
  | k + 1, l, h, hk => by
    rw [rdk]
    conv => rhs; rw [rdk]
    by_cases hz : n8 (highL l) = 0
    · rw [if_pos hz, if_pos hz]
    · rw [if_neg hz, if_neg hz]
      have hlt := rnx_lt h hz
      have hn := n8_nn (rnx_b8 (a := l))
      exact rdk_more k rnx_b8 (by omega)
theorem rdk_far : ∀ (d k : Nat) {l : List Int}, b8 l → (n8 l).toNat ≤ k → rdk (k + d) l = rdk k l
  | 0, _, _, _, _ => rfl
  | d + 1, k, l, h, hk => by
    rw [← Nat.add_assoc, rdk_more (k + d) h (by omega), rdk_far d k h hk]
def rdL (l : List Int) : List Int := rdk (n8 l).toNat l
theorem rdL_ok {l : List Int} (h : b8 l) : b8 (rdL l) ∧ n8 (highL (rdL l)) = 0 ∧ n8 (rdL l) % q130 = n8 l % q130 ∧ (rdL l).length ≤ max 18 l.length := rdk_ok _ h (Nat.le_refl _)
theorem rdL_stop {l : List Int} (hz : n8 (highL l) = 0) : rdL l = l := by
  unfold rdL
  generalize (n8 l).toNat = k
  cases k with
  | zero => rfl
  | succ k => rw [rdk, if_pos hz]
theorem rdL_step {l : List Int} (h : b8 l) (hz : ¬ n8 (highL l) = 0) : rdL (rnx l) = rdL l := by
  have hlt := rnx_lt h hz
  have hn := n8_nn (rnx_b8 (a := l))
  have e : rdL l = rdk ((n8 l).toNat - 1) (rnx l) := by
    unfold rdL
    have : (n8 l).toNat = (n8 l).toNat - 1 + 1 := by omega
    rw [this, rdk, if_neg hz]
    rfl
  rw [e]
  unfold rdL
  have := rdk_far ((n8 l).toNat - 1 - (n8 (rnx l)).toNat) (n8 (rnx l)).toNat (l := rnx l) rnx_b8 (Nat.le_refl _)
  rw [← this]
  congr 1
  omega
/-- What a number is reduced to. -/
def redL (l : List Int) : List Int := if n8 (highL (pls (rdL l) [5])) = 0 then rdL l else lowL (pls (rdL l) [5])
theorem red_ok {l : List Int} (h : b8 l) : b8 (redL l) ∧ n8 (redL l) = n8 l % q130 ∧ (redL l).length ≤ max 18 l.length := by
  obtain ⟨r1, r2, r3, r4⟩ := rdL_ok h
  have p1 : b8 (pls (rdL l) [5]) := plr_b8 _
  have pn : n8 (pls (rdL l) [5]) = n8 (rdL l) + 5 := by rw [pls_num r1 b8_five]; rfl
  have r2' := r2
  rw [high_num r1] at r2'
  have nn := n8_nn r1
  have hh : n8 (highL (pls (rdL l) [5])) = (n8 (rdL l) + 5) / m130 := by rw [high_num p1, pn]
  unfold redL
  by_cases hz : n8 (highL (pls (rdL l) [5])) = 0
  · rw [if_pos hz]
    refine ⟨r1, ?_, r4⟩
    rw [hh] at hz
    rw [← r3]
    unfold m130 q130 at *
    omega
  · rw [if_neg hz]
    refine ⟨lowL_b8 p1, ?_, ?_⟩
    · rw [low_num p1, pn, ← r3]
      rw [hh] at hz
      unfold m130 q130 at *
      omega
    · rw [lowL_len]; omega
/-- Sealed rows. -/
theorem sl8_ex (l : List Int) : ∃ y : List Int, y = l := ⟨_, rfl⟩
noncomputable def sl8 (l : List Int) : List Int := Classical.choose (sl8_ex l)
theorem sl8_eq (l : List Int) : sl8 l = l := Classical.choose_spec (sl8_ex l)
end Go.Proofs.YtmfnldkiaodkpaaDoor.W
