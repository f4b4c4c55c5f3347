/- What functions of the program come to: parts of the walk (Wa). -/
import Derived.Test.YtkjbjgkjplmkhaaDoorVmb
import Derived.Test.YtkjbjgkjplmkhaaDoorVmc
import Derived.KernelRfl
import Derived.Test.YtkjbjgkjplmkhaaDoorProg
set_option linter.unusedSimpArgs false
set_option linter.unusedVariables false
namespace Go.Proofs.YtkjbjgkjplmkhaaDoor.Vm
theorem mod64 {a x : Int} (h : a % 18446744073709551616 = x) : 0 ≤ x ∧ x < 18446744073709551616 := by omega
/-- The prime, and what five limbs stand for. -/
def pP : Int := 57896044618658097711785492504343953926634992332820282019728792003956564819949
def valE (a0 a1 a2 a3 a4 : Int) : Int := a0 + a1 * 2251799813685248 + a2 * 5070602400912917605986812821504 + a3 * 11417981541647679048466287755595961091061972992 + a4 * 25711008708143844408671393477458601640355247900524685364822016
theorem chain {r0 r1 r2 r3 r4 c0 c1 c2 c3 c4 s0 s1 s2 s3 s4 z : Int}
    (h0 : r0 + z = 2251799813685248 * c0 + s0) (h1 : r1 + c0 = 2251799813685248 * c1 + s1) (h2 : r2 + c1 = 2251799813685248 * c2 + s2) (h3 : r3 + c2 = 2251799813685248 * c3 + s3) (h4 : r4 + c3 = 2251799813685248 * c4 + s4) :
    valE r0 r1 r2 r3 r4 + z = valE s0 s1 s2 s3 s4 + 57896044618658097711785492504343953926634992332820282019728792003956564819968 * c4 := by
  unfold valE; omega
theorem valE_lt {s0 s1 s2 s3 s4 : Int} (h0 : 0 ≤ s0 ∧ s0 < 2251799813685248) (h1 : 0 ≤ s1 ∧ s1 < 2251799813685248) (h2 : 0 ≤ s2 ∧ s2 < 2251799813685248) (h3 : 0 ≤ s3 ∧ s3 < 2251799813685248) (h4 : 0 ≤ s4 ∧ s4 < 2251799813685248) :
    0 ≤ valE s0 s1 s2 s3 s4 ∧ valE s0 s1 s2 s3 s4 < 57896044618658097711785492504343953926634992332820282019728792003956564819968 := by
  unfold valE; omega
/-- The last reduction. -/
theorem reduce {V S L q d : Int} (hV : 0 ≤ V) (hV2 : V < 2 * pP - 19) (hS : 0 ≤ S ∧ S < 57896044618658097711785492504343953926634992332820282019728792003956564819968) (hL : 0 ≤ L ∧ L < 57896044618658097711785492504343953926634992332820282019728792003956564819968)
    (h1 : V + 19 = S + 57896044618658097711785492504343953926634992332820282019728792003956564819968 * q) (h2 : V + 19 * q = L + 57896044618658097711785492504343953926634992332820282019728792003956564819968 * d) : L = V % pP := by
  unfold pP at *
  have hq : q = 0 ∨ q = 1 := by omega
  rcases hq with rfl | rfl
  · have : d = 0 := by omega
    subst this
    rw [Int.emod_eq_of_lt (by omega) (by omega)]; omega
  · have : d = 1 := by omega
    subst this
    have : V % 57896044618658097711785492504343953926634992332820282019728792003956564819949 = (V - 57896044618658097711785492504343953926634992332820282019728792003956564819949) % 57896044618658097711785492504343953926634992332820282019728792003956564819949 := by
      rw [Int.sub_emod_right]
    rw [this, Int.emod_eq_of_lt (by omega) (by omega)]; omega
/-- A carry turns the number by a multiple of the prime. -/
theorem carry_val {a0 a1 a2 a3 a4 : Int} : valE (a0 % 2251799813685248 + a4 / 2251799813685248 * 19) (a1 % 2251799813685248 + a0 / 2251799813685248) (a2 % 2251799813685248 + a1 / 2251799813685248) (a3 % 2251799813685248 + a2 / 2251799813685248) (a4 % 2251799813685248 + a3 / 2251799813685248) = valE a0 a1 a2 a3 a4 - pP * (a4 / 2251799813685248) := by
  have e0 := Int.emod_add_mul_ediv a0 2251799813685248
  have e1 := Int.emod_add_mul_ediv a1 2251799813685248
  have e2 := Int.emod_add_mul_ediv a2 2251799813685248
  have e3 := Int.emod_add_mul_ediv a3 2251799813685248
  have e4 := Int.emod_add_mul_ediv a4 2251799813685248
  generalize a0 % 2251799813685248 = m0 at *
  generalize a1 % 2251799813685248 = m1 at *
  generalize a2 % 2251799813685248 = m2 at *
  generalize a3 % 2251799813685248 = m3 at *
  generalize a4 % 2251799813685248 = m4 at *
  generalize a0 / 2251799813685248 = d0 at *
  generalize a1 / 2251799813685248 = d1 at *
  generalize a2 / 2251799813685248 = d2 at *
  generalize a3 / 2251799813685248 = d3 at *
  generalize a4 / 2251799813685248 = d4 at *
  unfold valE pP
  omega
theorem stepA {a z x c : Int} (ha : 0 ≤ a ∧ a < 4503599627370496) (hz : 0 ≤ z ∧ z < 100) (h : (a + z) % 18446744073709551616 = x) (h' : x / 2251799813685248 = c) :
    (0 ≤ c ∧ c < 100) ∧ ∃ s, (0 ≤ s ∧ s < 2251799813685248) ∧ a + z = 2251799813685248 * c + s :=
  ⟨by omega, x % 2251799813685248, by omega, by omega⟩
theorem stepB {a z x c l : Int} (ha : 0 ≤ a ∧ a < 4503599627370496) (hz : 0 ≤ z ∧ z < 2000) (h : (a + z) % 18446744073709551616 = x) (h' : x / 2251799813685248 = c) (hm : x % 2251799813685248 = l) :
    (0 ≤ c ∧ c < 100) ∧ (0 ≤ l ∧ l < 2251799813685248) ∧ a + z = 2251799813685248 * c + l := by omega
/-- The chain of Bytes. -/
theorem bytes_chain {r0 r1 r2 r3 r4 y0 c0 y1 c1 y2 c2 y3 c3 y4 q q19 z0 d0 l0 z1 d1 l1 z2 d2 l2 z3 d3 l3 z4 d4 l4 : Int}
    (g0 : 0 ≤ r0 ∧ r0 < 2251799813685348) (g1 : 0 ≤ r1 ∧ r1 < 2251799813685348) (g2 : 0 ≤ r2 ∧ r2 < 2251799813685348) (g3 : 0 ≤ r3 ∧ r3 < 2251799813685348) (g4 : 0 ≤ r4 ∧ r4 < 2251799813685348)
    (a0 : (r0 + 19) % 18446744073709551616 = y0) (b0 : y0 / 2251799813685248 = c0) (a1 : (r1 + c0) % 18446744073709551616 = y1) (b1 : y1 / 2251799813685248 = c1) (a2 : (r2 + c1) % 18446744073709551616 = y2) (b2 : y2 / 2251799813685248 = c2)
    (a3 : (r3 + c2) % 18446744073709551616 = y3) (b3 : y3 / 2251799813685248 = c3) (a4 : (r4 + c3) % 18446744073709551616 = y4) (b4 : y4 / 2251799813685248 = q) (a5 : 19 * q % 18446744073709551616 = q19)
    (e0 : (r0 + q19) % 18446744073709551616 = z0) (f0 : z0 / 2251799813685248 = d0) (k0 : z0 % 2251799813685248 = l0) (e1 : (r1 + d0) % 18446744073709551616 = z1) (f1 : z1 / 2251799813685248 = d1) (k1 : z1 % 2251799813685248 = l1)
    (e2 : (r2 + d1) % 18446744073709551616 = z2) (f2 : z2 / 2251799813685248 = d2) (k2 : z2 % 2251799813685248 = l2) (e3 : (r3 + d2) % 18446744073709551616 = z3) (f3 : z3 / 2251799813685248 = d3) (k3 : z3 % 2251799813685248 = l3)
    (e4 : (r4 + d3) % 18446744073709551616 = z4) (f4 : z4 / 2251799813685248 = d4) (k4 : z4 % 2251799813685248 = l4) :
    (0 ≤ l0 ∧ l0 < 2251799813685248) ∧ (0 ≤ l1 ∧ l1 < 2251799813685248) ∧ (0 ≤ l2 ∧ l2 < 2251799813685248) ∧ (0 ≤ l3 ∧ l3 < 2251799813685248) ∧ (0 ≤ l4 ∧ l4 < 2251799813685248) ∧ valE l0 l1 l2 l3 l4 = valE r0 r1 r2 r3 r4 % pP := by
  have w : ∀ {r : Int}, 0 ≤ r ∧ r < 2251799813685348 → 0 ≤ r ∧ r < 4503599627370496 := fun h => ⟨h.1, Int.lt_trans h.2 (by decide)⟩
  have w2 : ∀ {r : Int}, 0 ≤ r ∧ r < 100 → 0 ≤ r ∧ r < 2000 := fun h => ⟨h.1, Int.lt_trans h.2 (by decide)⟩
  obtain ⟨n0, s0, t0, u0⟩ := stepA (w g0) (by decide) a0 b0
  obtain ⟨n1, s1, t1, u1⟩ := stepA (w g1) n0 a1 b1
  obtain ⟨n2, s2, t2, u2⟩ := stepA (w g2) n1 a2 b2
  obtain ⟨n3, s3, t3, u3⟩ := stepA (w g3) n2 a3 b3
  obtain ⟨n4, s4, t4, u4⟩ := stepA (w g4) n3 a4 b4
  have eq19 : q19 = 19 * q := by clear e0 e1 e2 e3 e4 f0 f1 f2 f3 f4 k0 k1 k2 k3 k4 a0 a1 a2 a3 a4 b0 b1 b2 b3 b4; omega
  have hq : 0 ≤ q19 ∧ q19 < 2000 := by clear e0 e1 e2 e3 e4 f0 f1 f2 f3 f4 k0 k1 k2 k3 k4 a0 a1 a2 a3 a4 b0 b1 b2 b3 b4; omega
  obtain ⟨m0, p0, v0⟩ := stepB (w g0) hq e0 f0 k0
  obtain ⟨m1, p1, v1⟩ := stepB (w g1) (w2 m0) e1 f1 k1
  obtain ⟨m2, p2, v2⟩ := stepB (w g2) (w2 m1) e2 f2 k2
  obtain ⟨m3, p3, v3⟩ := stepB (w g3) (w2 m2) e3 f3 k3
  obtain ⟨m4, p4, v4⟩ := stepB (w g4) (w2 m3) e4 f4 k4
  have c1 := chain u0 u1 u2 u3 u4
  have c2 := chain v0 v1 v2 v3 v4
  rw [eq19] at c2
  refine ⟨p0, p1, p2, p3, p4, reduce ?_ ?_ (valE_lt t0 t1 t2 t3 t4) (valE_lt p0 p1 p2 p3 p4) c1 c2⟩
  · clear c1 c2 u0 u1 u2 u3 u4 v0 v1 v2 v3 v4 e0 e1 e2 e3 e4 f0 f1 f2 f3 f4 k0 k1 k2 k3 k4 a0 a1 a2 a3 a4 b0 b1 b2 b3 b4
    unfold valE; omega
  · clear c1 c2 u0 u1 u2 u3 u4 v0 v1 v2 v3 v4 e0 e1 e2 e3 e4 f0 f1 f2 f3 f4 k0 k1 k2 k3 k4 a0 a1 a2 a3 a4 b0 b1 b2 b3 b4
    unfold valE pP; omega
end Go.Proofs.YtkjbjgkjplmkhaaDoor.Vm

/- Words for the field's elements, and for numbers of 128 bits. -/
namespace Go.Proofs.YtkjbjgkjplmkhaaDoor.W
/-- An element: five limbs. -/
structure El where
  a0 : Int
  a1 : Int
  a2 : Int
  a3 : Int
  a4 : Int
def el (e : El) : List Int := [e.a0, e.a1, e.a2, e.a3, e.a4]
/-- The two words of a number of 128 bits, the high one first. -/
def wd (n : Int) : List Int := [n / 18446744073709551616, n % 18446744073709551616]
end Go.Proofs.YtkjbjgkjplmkhaaDoor.W

/- Words for the document's numbers: sixteen digits of 16 bits. -/
namespace Go.Proofs.YtkjbjgkjplmkhaaDoor.W
/-- The prime's digits. -/
def pr : List Int := [65517, 65535, 65535, 65535, 65535, 65535, 65535, 65535, 65535, 65535, 65535, 65535, 65535, 65535, 65535, 32767]
/-- A number of digits. -/
def numD : List Int → Int
  | [] => 0
  | x :: t => x + 65536 * numD t
/-- Sixteen digits of a number. -/
def d16 (n : Int) : List Int := [n % 65536, n / 65536 % 65536, n / 4294967296 % 65536, n / 281474976710656 % 65536, n / 18446744073709551616 % 65536, n / 1208925819614629174706176 % 65536, n / 79228162514264337593543950336 % 65536, n / 5192296858534827628530496329220096 % 65536, n / 340282366920938463463374607431768211456 % 65536, n / 22300745198530623141535718272648361505980416 % 65536, n / 1461501637330902918203684832716283019655932542976 % 65536, n / 95780971304118053647396689196894323976171195136475136 % 65536, n / 6277101735386680763835789423207666416102355444464034512896 % 65536, n / 411376139330301510538742295639337626245683966408394965837152256 % 65536, n / 26959946667150639794667015087019630673637144422540572481103610249216 % 65536, n / 1766847064778384329583297500742918515827483896875618958121606201292619776 % 65536]
/-- Digits, each below a bound. -/
def dg (B : Int) (l : List Int) : Prop := ∀ j : Nat, 0 ≤ l.getD j 0 ∧ l.getD j 0 < B
theorem pr_len : pr.length = 16 := rfl
theorem pr_dg : dg 65536 pr := by
  intro j
  by_cases h : j < 16
  · have : ∀ j, j < 16 → 0 ≤ pr.getD j 0 ∧ pr.getD j 0 < 65536 := by decide
    exact this j h
  · rw [List.getD_eq_getElem?_getD, List.getElem?_eq_none (by rw [pr_len]; omega)]; decide
end Go.Proofs.YtkjbjgkjplmkhaaDoor.W
namespace Go.Proofs.YtkjbjgkjplmkhaaDoor.Vm
open Go Go.Proofs Go.Proofs.YtkjbjgkjplmkhaaDoor
theorem mixed : Tryd.prog.follows .mixedOrders = true := by kernel_rfl
theorem pr_glob : globOk (.one ⟨false, false, .ints .u64 W.pr⟩) := by
  intro i k h
  simp only [Ent.at] at h
  cases hi : Nat.beq i 0 with
  | true => rw [hi, cond_true] at h; injection h with h; subst h; exact ⟨rfl, _, _, rfl⟩
  | false => rw [hi] at h; simp at h
end Go.Proofs.YtkjbjgkjplmkhaaDoor.Vm
namespace Go.Proofs.YtkjbjgkjplmkhaaDoor.W
/-- The document's word for the prime. -/
def pn : Int := 57896044618658097711785492504343953926634992332820282019728792003956564819949
/-- Digits with what is carried into them: so many of them. -/
def cst (l : List Int) : Nat → List Int × Int
  | 0 => (l, 0)
  | i + 1 => (((cst l i).1.set i ((cst l i).1.getD i 0 + (cst l i).2)).set i (((cst l i).1.getD i 0 + (cst l i).2) % 65536), ((cst l i).1.getD i 0 + (cst l i).2) / 65536)
def cv (l : List Int) (i : Nat) : List Int := (cst l i).1
def cc (l : List Int) (i : Nat) : Int := (cst l i).2
end Go.Proofs.YtkjbjgkjplmkhaaDoor.W

/- The document's numbers: digits, carries. -/
namespace Go.Proofs.YtkjbjgkjplmkhaaDoor.W
theorem getD_set {l : List Int} {i j : Nat} {v : Int} : (l.set i v).getD j 0 = if i = j ∧ i < l.length then v else l.getD j 0 := by
  rw [List.getD_eq_getElem?_getD, List.getD_eq_getElem?_getD, List.getElem?_set]
  by_cases h : i = j
  · subst h
    by_cases h2 : i < l.length
    · simp [h2]
    · simp [h2, List.getElem?_eq_none (Nat.le_of_not_lt h2)]
  · simp [h]
theorem getD_in {l : List Int} {i : Nat} {v : Int} (h : i < l.length) : (l.set i v).getD i 0 = v := by rw [getD_set, if_pos ⟨rfl, h⟩]
theorem getD_out {l : List Int} {i j : Nat} {v : Int} (h : i ≠ j) : (l.set i v).getD j 0 = l.getD j 0 := by rw [getD_set, if_neg (fun q => h q.1)]
theorem numD_set : ∀ (l : List Int) (i : Nat) (v : Int), i < l.length → numD (l.set i v) = numD l + (v - l.getD i 0) * 65536 ^ i
  | [], i, v, h => absurd h (by simp)
  | x :: t, 0, v, _ => by
    show v + 65536 * numD t = x + 65536 * numD t + (v - x) * 1
    omega
  | x :: t, i + 1, v, h => by
    show x + 65536 * numD (t.set i v) = x + 65536 * numD t + (v - t.getD i 0) * 65536 ^ (i + 1)
    rw [numD_set t i v (by simpa using h), Int.pow_succ]
    generalize (65536 : Int) ^ i = d
    generalize numD t = n
    generalize t.getD i 0 = y
    grind
theorem set_len {l : List Int} {i : Nat} {v : Int} : (l.set i v).length = l.length := List.length_set
structure CvOk (B : Int) (l : List Int) (i : Nat) : Prop where
  len : (cv l i).length = l.length
  c : 0 ≤ cc l i ∧ cc l i < 33554432
  num : numD (cv l i) + cc l i * 65536 ^ i = numD l
  lo : ∀ j, j < i → 0 ≤ (cv l i).getD j 0 ∧ (cv l i).getD j 0 < 65536
  hi : ∀ j, i ≤ j → (cv l i).getD j 0 = l.getD j 0
theorem cv_ok {l : List Int} (hd : dg 1099511627776 l) : ∀ i, i ≤ l.length → CvOk 1099511627776 l i
  | 0, _ => ⟨rfl, by show (0 : Int) ≤ 0 ∧ (0 : Int) < 33554432; decide, by show numD l + 0 * 1 = numD l; omega, fun j h => absurd h (by omega), fun j _ => rfl⟩
  | i + 1, h => by
    have q := cv_ok hd i (by omega)
    have hx := hd i
    rw [← q.hi i (Nat.le_refl i)] at hx
    have hc := q.c
    have hn := q.num
    have e1 : cv l (i + 1) = ((cv l i).set i ((cv l i).getD i 0 + cc l i)).set i (((cv l i).getD i 0 + cc l i) % 65536) := rfl
    have e2 : cc l (i + 1) = ((cv l i).getD i 0 + cc l i) / 65536 := rfl
    have hlen := q.len
    have hil : i < (cv l i).length := by omega
    refine ⟨by rw [e1, set_len, set_len, hlen], by rw [e2]; omega, ?_, fun j hj => ?_, fun j hj => ?_⟩
    · rw [e1, e2, numD_set _ _ _ (by rw [set_len]; exact hil), numD_set _ _ _ hil, getD_in hil, Int.pow_succ, ← hn]
      generalize (65536 : Int) ^ i = d
      generalize numD (cv l i) = n
      generalize (cv l i).getD i 0 = y at *
      generalize cc l i = c at *
      have : (y + c) % 65536 = y + c - 65536 * ((y + c) / 65536) := by omega
      rw [this]
      generalize (y + c) / 65536 = z
      grind
    · rw [e1]
      by_cases hji : i = j
      · subst hji; rw [getD_in (by rw [set_len]; exact hil)]; omega
      · rw [getD_out hji, getD_out hji]; exact q.lo j (by omega)
    · rw [e1, getD_out (by omega), getD_out (by omega)]; exact q.hi j (by omega)
end Go.Proofs.YtkjbjgkjplmkhaaDoor.W
namespace Go.Proofs.YtkjbjgkjplmkhaaDoor.Vm
open Go Go.Proofs Go.Proofs.YtkjbjgkjplmkhaaDoor
theorem splice1 {l : List Int} {i : Nat} {v : Int} : splice l i [v] = l.set i v := rfl
theorem mask16 {a : Int} (h1 : 0 ≤ a) (h2 : a < 18446744073709551616) : bAnd .u64 a 65535 = a % 65536 := by
  rw [bAnd64 h1 h2 (by decide) (by decide)]
  have : (65535 : Int).toNat = 2 ^ 16 - 1 := rfl
  rw [this, Nat.and_two_pow_sub_one_eq_mod]
  omega
end Go.Proofs.YtkjbjgkjplmkhaaDoor.Vm
namespace Go.Proofs.YtkjbjgkjplmkhaaDoor.W
/-- Carried once, and what stands above 2^256 brought in below. -/
def fz1 (l : List Int) : List Int := (cv l 16).set 0 ((cv l 16).getD 0 0 + 38 * cc l 16)
def fzk (l : List Int) : Nat → List Int
  | 0 => l
  | k + 1 => fz1 (fzk l k)
def fz (l : List Int) : List Int := fzk l 3
theorem dg_mono {A B : Int} {l : List Int} (h : dg A l) (q : A ≤ B) : dg B l := fun j => ⟨(h j).1, Int.lt_of_lt_of_le (h j).2 q⟩
theorem cv_past {l : List Int} (hv : l.length = 16) (o : CvOk 1099511627776 l 16) {j : Nat} (h : ¬ j < 16) : (cv l 16).getD j 0 = 0 := by
  rw [List.getD_eq_getElem?_getD, List.getElem?_eq_none (by rw [o.len, hv]; omega)]; rfl
theorem fz1_len {l : List Int} (hv : l.length = 16) (hd : dg 1099511627776 l) : (fz1 l).length = 16 := by
  rw [fz1, set_len, (cv_ok hd 16 (by omega)).len, hv]
theorem fz1_dg {l : List Int} (hv : l.length = 16) (hd : dg 1099511627776 l) : dg 2147483648 (fz1 l) := by
  have o := cv_ok hd 16 (by omega)
  intro j
  rw [fz1, getD_set]
  have h0 := o.lo 0 (by decide)
  have hc := o.c
  by_cases h : j < 16
  · have hj := o.lo j h
    split <;> omega
  · rw [cv_past hv o h]
    split <;> omega
theorem fz1_num {l : List Int} (hv : l.length = 16) (hd : dg 1099511627776 l) : numD (fz1 l) = numD l - cc l 16 * (2 * pn) := by
  have o := cv_ok hd 16 (by omega)
  have hn := o.num
  rw [fz1, numD_set _ _ _ (by rw [o.len, hv]; decide)]
  have e : (65536 : Int) ^ 16 = 115792089237316195423570985008687907853269984665640564039457584007913129639936 := by decide
  rw [e] at hn
  unfold pn
  omega
theorem numD_nn : ∀ {l : List Int} {B : Int}, dg B l → 0 ≤ numD l
  | [], _, _ => by decide
  | x :: t, B, h => by
    have h0 : 0 ≤ x := (h 0).1
    have := numD_nn (l := t) (B := B) (fun j => h (j + 1))
    show 0 ≤ x + 65536 * numD t
    omega
theorem numD_lt : ∀ {l : List Int}, dg 65536 l → numD l < 65536 ^ l.length
  | [], _ => by decide
  | x :: t, h => by
    have h0 : x < 65536 := (h 0).2
    have := numD_lt (l := t) (fun j => h (j + 1))
    show x + 65536 * numD t < 65536 ^ (t.length + 1)
    rw [Int.pow_succ]
    omega
theorem cv_dg {l : List Int} (hv : l.length = 16) (hd : dg 1099511627776 l) : dg 65536 (cv l 16) := by
  have o := cv_ok hd 16 (by omega)
  intro j
  by_cases h : j < 16
  · exact o.lo j h
  · rw [cv_past hv o h]; decide
theorem cv_lt {l : List Int} (hv : l.length = 16) (hd : dg 1099511627776 l) : numD (cv l 16) < 115792089237316195423570985008687907853269984665640564039457584007913129639936 := by
  have := numD_lt (cv_dg hv hd)
  rw [(cv_ok hd 16 (by omega)).len, hv] at this
  exact this
/-- Behind three of them nothing is left to be carried. -/
theorem fz_ok {l : List Int} (hv : l.length = 16) (hd : dg 1099511627776 l) : (fz l).length = 16 ∧ dg 65536 (fz l) ∧ ∃ c : Int, numD (fz l) = numD l - c * (2 * pn) := by
  have e : fz l = fz1 (fz1 (fz1 l)) := rfl
  have v1 := fz1_len hv hd
  have d1 := fz1_dg hv hd
  have n1 := fz1_num hv hd
  have d1' := dg_mono d1 (show (2147483648 : Int) ≤ 1099511627776 by decide)
  have l1 := cv_lt hv hd
  have c1 := (cv_ok hd 16 (by omega)).c
  have z0 := (cv_ok hd 16 (by omega)).lo 0 (by decide)
  have u1 : numD (fz1 l) < 115792089237316195423570985008687907853269984665640564039457584007913129639936 + 38 * 33554432 := by
    rw [fz1, numD_set _ _ _ (by rw [(cv_ok hd 16 (by omega)).len, hv]; decide)]
    omega
  generalize fz1 l = m at *
  have v2 := fz1_len v1 d1'
  have d2 := fz1_dg v1 d1'
  have n2 := fz1_num v1 d1'
  have d2' := dg_mono d2 (show (2147483648 : Int) ≤ 1099511627776 by decide)
  have o2 := cv_ok d1' 16 (by omega)
  have q2 := o2.num
  have e16 : (65536 : Int) ^ 16 = 115792089237316195423570985008687907853269984665640564039457584007913129639936 := by decide
  rw [e16] at q2
  have p2 := numD_nn (cv_dg v1 d1')
  have l2 := cv_lt v1 d1'
  have c2 := o2.c
  have u2 : numD (fz1 m) < 115792089237316195423570985008687907853269984665640564039457584007913129639936 := by
    rw [n2]; unfold pn; omega
  generalize fz1 m = k at *
  have v3 := fz1_len v2 d2'
  have n3 := fz1_num v2 d2'
  have o3 := cv_ok d2' 16 (by omega)
  have q3 := o3.num
  rw [e16] at q3
  have p3 := numD_nn (cv_dg v2 d2')
  have c3 := o3.c
  have z : cc k 16 = 0 := by omega
  have g := cv_dg v2 d2'
  have eq : fz1 k = cv k 16 := by
    rw [fz1, z]
    have : (cv k 16).getD 0 0 + 38 * 0 = (cv k 16).getD 0 0 := by omega
    rw [this]
    refine List.ext_getElem (by rw [set_len]) fun j h1 h2 => ?_
    rw [List.getElem_set]
    split
    · rename_i h; subst h
      rw [List.getD_eq_getElem?_getD, List.getElem?_eq_getElem h2]; rfl
    · rfl
  rw [e]
  refine ⟨v3, by rw [eq]; exact g, cc l 16 + cc m 16, ?_⟩
  rw [n3, z, n2, n1]
  generalize cc l 16 = a
  generalize cc m 16 = b
  generalize numD l = n
  generalize pn = p
  grind
/-- Digits of a number. -/
def digK : Nat → Int → List Int
  | 0, _ => []
  | k + 1, n => n % 65536 :: digK k (n / 65536)
theorem digK_num : ∀ {l : List Int}, dg 65536 l → l = digK l.length (numD l)
  | [], _ => rfl
  | x :: t, h => by
    have h0 := h 0
    have e : numD (x :: t) = x + 65536 * numD t := rfl
    have hx : 0 ≤ x ∧ x < 65536 := h0
    have ih := digK_num (l := t) (fun j => h (j + 1))
    show x :: t = numD (x :: t) % 65536 :: digK t.length (numD (x :: t) / 65536)
    rw [e, show (x + 65536 * numD t) % 65536 = x by omega, show (x + 65536 * numD t) / 65536 = numD t by omega, ← ih]
theorem d16_eq (n : Int) : d16 n = digK 16 n := by
  unfold d16
  simp only [digK, List.cons.injEq, and_true, true_and]
  refine ⟨?_, ?_, ?_, ?_, ?_, ?_, ?_, ?_, ?_, ?_, ?_, ?_, ?_, ?_⟩ <;> omega
theorem d16_of {l : List Int} (hv : l.length = 16) (hd : dg 65536 l) : l = d16 (numD l) := by
  rw [d16_eq, ← hv]; exact digK_num hd
end Go.Proofs.YtkjbjgkjplmkhaaDoor.W
namespace Go.Proofs.YtkjbjgkjplmkhaaDoor.W
theorem numD_take : ∀ (l : List Int) (i : Nat), i < l.length → numD (l.take (i + 1)) = numD (l.take i) + l.getD i 0 * 65536 ^ i
  | [], i, h => absurd h (by simp)
  | x :: t, 0, _ => by
    show x + 65536 * numD (t.take 0) = 0 + x * 1
    rw [List.take_zero]
    show x + 65536 * 0 = 0 + x * 1
    omega
  | x :: t, i + 1, h => by
    show x + 65536 * numD (t.take (i + 1)) = x + 65536 * numD (t.take i) + t.getD i 0 * 65536 ^ (i + 1)
    rw [numD_take t i (by simpa using h), Int.pow_succ]
    generalize (65536 : Int) ^ i = d
    generalize numD (t.take i) = n
    generalize t.getD i 0 = y
    grind
/-- The prime taken from a number's digits. -/
def bst (l : List Int) : Nat → List Int × Int
  | 0 => (l, 0)
  | i + 1 => ((bst l i).1.set i (((bst l i).1.getD i 0 + 65536 - pr.getD i 0 - (bst l i).2) % 65536), 1 - ((bst l i).1.getD i 0 + 65536 - pr.getD i 0 - (bst l i).2) / 65536)
def bv (l : List Int) (i : Nat) : List Int := (bst l i).1
def bb (l : List Int) (i : Nat) : Int := (bst l i).2
structure BvOk (l : List Int) (i : Nat) : Prop where
  len : (bv l i).length = l.length
  b : 0 ≤ bb l i ∧ bb l i < 2
  num : numD (bv l i) - bb l i * 65536 ^ i = numD l - numD (pr.take i)
  dg : dg 65536 (bv l i)
theorem bv_ok {l : List Int} (hl : l.length = 16) (hd : dg 65536 l) : ∀ i, i ≤ 16 → BvOk l i
  | 0, _ => ⟨rfl, by show (0 : Int) ≤ 0 ∧ (0 : Int) < 2; decide, by show numD l - 0 * 1 = numD l - 0; omega, hd⟩
  | i + 1, h => by
    have q := bv_ok hl hd i (by omega)
    have hx := q.dg i
    have hb := q.b
    have hp := pr_dg i
    have hn := q.num
    have e1 : bv l (i + 1) = (bv l i).set i (((bv l i).getD i 0 + 65536 - pr.getD i 0 - bb l i) % 65536) := rfl
    have e2 : bb l (i + 1) = 1 - ((bv l i).getD i 0 + 65536 - pr.getD i 0 - bb l i) / 65536 := rfl
    have hlen := q.len
    refine ⟨by rw [e1, set_len, hlen], by rw [e2]; omega, ?_, fun j => ?_⟩
    · rw [e1, e2, numD_set _ _ _ (by omega), numD_take pr i (by rw [pr_len]; omega), Int.pow_succ]
      generalize (65536 : Int) ^ i = d at *
      generalize numD (bv l i) = n at *
      generalize (bv l i).getD i 0 = y at *
      generalize bb l i = c at *
      generalize numD l = m at *
      generalize numD (pr.take i) = r at *
      generalize pr.getD i 0 = p at *
      have : (y + 65536 - p - c) % 65536 = y + 65536 - p - c - 65536 * ((y + 65536 - p - c) / 65536) := by omega
      rw [this]
      generalize (y + 65536 - p - c) / 65536 = z
      grind
    · rw [e1, getD_set]
      split
      · omega
      · exact q.dg j
theorem pr_num : numD pr = pn := by decide
/-- Of a number that is at least the prime. -/
theorem bv_num {l : List Int} (hl : l.length = 16) (hd : dg 65536 l) (h : pn ≤ numD l) : numD (bv l 16) = numD l - pn := by
  have q := bv_ok hl hd 16 (by decide)
  have hn := q.num
  have e : pr.take 16 = pr := rfl
  rw [e, pr_num] at hn
  have e16 : (65536 : Int) ^ 16 = 115792089237316195423570985008687907853269984665640564039457584007913129639936 := by decide
  rw [e16] at hn
  have h1 := numD_lt q.dg
  rw [q.len, hl, e16] at h1
  have h2 := numD_nn q.dg
  have h3 := numD_lt hd
  rw [hl, e16] at h3
  have hb := q.b
  unfold pn at *
  omega
theorem pr_fz : (fz pr).length = 16 ∧ dg 65536 (fz pr) ∧ pn ≤ numD (fz pr) := by
  have := fz_ok pr_len (dg_mono pr_dg (by decide))
  exact ⟨this.1, this.2.1, by decide +kernel⟩
end Go.Proofs.YtkjbjgkjplmkhaaDoor.W
namespace Go.Proofs.YtkjbjgkjplmkhaaDoor.W
/-- The highest place at which the digits are not the prime's. -/
def tpk (l : List Int) : Nat → Nat
  | 0 => 0
  | k + 1 => if l.getD k 0 = pr.getD k 0 then tpk l k else k
def tp (l : List Int) : Nat := tpk l 16
theorem tpk_ok {l : List Int} : ∀ k, (∀ m, m < k → l.getD m 0 = pr.getD m 0) ∨ (tpk l k < k ∧ ¬ l.getD (tpk l k) 0 = pr.getD (tpk l k) 0 ∧ ∀ m, tpk l k < m → m < k → l.getD m 0 = pr.getD m 0)
  | 0 => .inl fun m h => absurd h (by omega)
  | k + 1 => by
    unfold tpk
    by_cases h : l.getD k 0 = pr.getD k 0
    · rw [if_pos h]
      rcases tpk_ok (l := l) k with q | ⟨q1, q2, q3⟩
      · exact .inl fun m hm => by
          by_cases e : m = k
          · subst e; exact h
          · exact q m (by omega)
      · exact .inr ⟨by omega, q2, fun m h1 h2 => by
          by_cases e : m = k
          · subst e; exact h
          · exact q3 m h1 (by omega)⟩
    · rw [if_neg h]
      exact .inr ⟨by omega, h, fun m h1 h2 => by omega⟩
theorem ext16 {l m : List Int} (hl : l.length = m.length) (h : ∀ j, j < l.length → l.getD j 0 = m.getD j 0) : l = m := by
  refine List.ext_getElem hl fun i h1 h2 => ?_
  have := h i h1
  rw [List.getD_eq_getElem?_getD, List.getD_eq_getElem?_getD, List.getElem?_eq_getElem h1, List.getElem?_eq_getElem h2] at this
  exact this
theorem tp_ok {l : List Int} (hl : l.length = 16) : l = pr ∨ (tp l < 16 ∧ ¬ l.getD (tp l) 0 = pr.getD (tp l) 0 ∧ ∀ m, tp l < m → l.getD m 0 = pr.getD m 0) := by
  rcases tpk_ok (l := l) 16 with q | ⟨q1, q2, q3⟩
  · exact .inl (ext16 (by rw [hl, pr_len]) fun j hj => q j (by omega))
  · refine .inr ⟨q1, q2, fun m hm => ?_⟩
    by_cases h : m < 16
    · exact q3 m hm h
    · rw [List.getD_eq_getElem?_getD, List.getD_eq_getElem?_getD, List.getElem?_eq_none (by omega), List.getElem?_eq_none (by rw [pr_len]; omega)]
theorem numD_split : ∀ (l : List Int) (i : Nat), i < l.length → numD l = numD (l.take i) + (l.getD i 0 + 65536 * numD (l.drop (i + 1))) * 65536 ^ i
  | [], i, h => absurd h (by simp)
  | x :: t, 0, _ => by
    show x + 65536 * numD t = numD (List.take 0 (x :: t)) + (x + 65536 * numD (t.drop 0)) * 1
    rw [List.take_zero, List.drop_zero]
    show x + 65536 * numD t = 0 + (x + 65536 * numD t) * 1
    omega
  | x :: t, i + 1, h => by
    show x + 65536 * numD t = x + 65536 * numD (t.take i) + (t.getD i 0 + 65536 * numD (t.drop (i + 1))) * 65536 ^ (i + 1)
    rw [numD_split t i (by simpa using h), Int.pow_succ]
    generalize (65536 : Int) ^ i = d
    generalize numD (t.take i) = n
    generalize t.getD i 0 = y
    generalize numD (t.drop (i + 1)) = z
    grind
theorem dg_take {B : Int} (hB : 0 < B) {l : List Int} (h : dg B l) (i : Nat) : dg B (l.take i) := by
  intro j
  by_cases q : j < i
  · have : (l.take i).getD j 0 = l.getD j 0 := by
      rw [List.getD_eq_getElem?_getD, List.getD_eq_getElem?_getD, List.getElem?_take, if_pos q]
    rw [this]; exact h j
  · have : (l.take i).getD j 0 = 0 := by
      rw [List.getD_eq_getElem?_getD, List.getElem?_take, if_neg q]; rfl
    rw [this]; exact ⟨Int.le_refl 0, hB⟩
/-- The higher digit decides. -/
theorem tp_cmp {l : List Int} (hl : l.length = 16) (hd : dg 65536 l) (h : tp l < 16) (hne : ¬ l.getD (tp l) 0 = pr.getD (tp l) 0) (heq : ∀ m, tp l < m → l.getD m 0 = pr.getD m 0) :
    (l.getD (tp l) 0 > pr.getD (tp l) 0 ↔ pn ≤ numD l) := by
  generalize tp l = j at *
  have s1 := numD_split l j (by omega)
  have s2 := numD_split pr j (by rw [pr_len]; omega)
  rw [pr_num] at s2
  have ed : l.drop (j + 1) = pr.drop (j + 1) := ext16 (by simp [hl, pr_len]) fun k _ => by
    have := heq (j + 1 + k) (by omega)
    rw [List.getD_eq_getElem?_getD, List.getD_eq_getElem?_getD] at this ⊢
    rw [List.getElem?_drop, List.getElem?_drop]
    exact this
  rw [ed] at s1
  have t1 := numD_lt (dg_take (by decide) hd j)
  have t2 := numD_lt (dg_take (by decide) pr_dg j)
  rw [List.length_take, hl, Nat.min_eq_left (by omega)] at t1
  rw [List.length_take, pr_len, Nat.min_eq_left (by omega)] at t2
  have n1 := numD_nn (dg_take (by decide) hd j)
  have n2 := numD_nn (dg_take (by decide) pr_dg j)
  generalize (65536 : Int) ^ j = d at *
  generalize numD (pr.drop (j + 1)) = z at *
  generalize numD (l.take j) = a at *
  generalize numD (pr.take j) = b at *
  generalize l.getD j 0 = x at *
  generalize pr.getD j 0 = y at *
  generalize numD l = n at *
  generalize pn = p at *
  subst s1
  subst s2
  have e : a + (x + 65536 * z) * d - (b + (y + 65536 * z) * d) = a - b + (x - y) * d := by grind
  constructor
  · intro hg
    have : 1 * d ≤ (x - y) * d := Int.mul_le_mul_of_nonneg_right (by omega) (by omega)
    omega
  · intro hg
    by_cases q : x > y
    · exact q
    · have : (x - y) * d ≤ (-1) * d := Int.mul_le_mul_of_nonneg_right (by omega) (by omega)
      omega
end Go.Proofs.YtkjbjgkjplmkhaaDoor.W
namespace Go.Proofs.YtkjbjgkjplmkhaaDoor.W
theorem mul16 {x y z : Int} (hx : 0 ≤ x ∧ x < 65536) (hy : 0 ≤ y ∧ y < 65536) (hz : 0 ≤ z ∧ z < 1099511627776) : (z + x * y) % 18446744073709551616 = z + x * y := by
  have h1 : x * y ≤ 65535 * y := Int.mul_le_mul_of_nonneg_right (by omega) hy.1
  have h0 := Int.mul_nonneg hx.1 hy.1
  omega
theorem mul16a {x y : Int} (hx : 0 ≤ x ∧ x < 65536) (hy : 0 ≤ y ∧ y < 65536) : x * y % 18446744073709551616 = x * y := by
  have h1 : x * y ≤ 65535 * y := Int.mul_le_mul_of_nonneg_right (by omega) hy.1
  have h0 := Int.mul_nonneg hx.1 hy.1
  omega
end Go.Proofs.YtkjbjgkjplmkhaaDoor.W

/- Sums, differences, products of the document's numbers, digit by digit. -/
namespace Go.Proofs.YtkjbjgkjplmkhaaDoor.W
/-- Places written one behind the other. -/
def sq (g : Nat → Int) (z : List Int) : Nat → List Int
  | 0 => z
  | i + 1 => (sq g z i).set i (g i)
theorem sq_len {g : Nat → Int} {z : List Int} : ∀ {i : Nat}, (sq g z i).length = z.length
  | 0 => rfl
  | i + 1 => by rw [sq, set_len, sq_len]
theorem sq_get {g : Nat → Int} {z : List Int} : ∀ {i : Nat}, i ≤ z.length → ∀ j, (sq g z i).getD j 0 = if j < i then g j else z.getD j 0
  | 0, _, j => by rw [if_neg (by omega)]; rfl
  | i + 1, h, j => by
    rw [sq, getD_set, sq_len, sq_get (by omega) j]
    by_cases h1 : i = j
    · subst h1
      rw [if_pos ⟨rfl, by omega⟩, if_pos (by omega)]
    · rw [if_neg (fun q => h1 q.1)]
      by_cases h2 : j < i
      · rw [if_pos h2, if_pos (by omega)]
      · rw [if_neg h2, if_neg (by omega)]
def sumG (g : Nat → Int) : Nat → Int
  | 0 => 0
  | i + 1 => sumG g i + g i * 65536 ^ i
theorem sumG_take (l : List Int) : ∀ i, i ≤ l.length → sumG (fun j => l.getD j 0) i = numD (l.take i)
  | 0, _ => by rw [List.take_zero]; rfl
  | i + 1, h => by rw [sumG, sumG_take l i (by omega), numD_take l i (by omega)]
theorem sumG_all (l : List Int) : sumG (fun j => l.getD j 0) l.length = numD l := by
  rw [sumG_take l _ (Nat.le_refl _), List.take_length]
theorem sumG_congr {g h : Nat → Int} : ∀ i, (∀ j, j < i → g j = h j) → sumG g i = sumG h i
  | 0, _ => rfl
  | i + 1, q => by rw [sumG, sumG, sumG_congr i (fun j hj => q j (by omega)), q i (by omega)]
theorem sumG_lin (a b : Int) {f h : Nat → Int} : ∀ i, sumG (fun j => a * f j + b * h j) i = a * sumG f i + b * sumG h i
  | 0 => by simp [sumG]
  | i + 1 => by
    simp only [sumG]
    rw [sumG_lin a b i]
    grind
theorem sq_num {g : Nat → Int} {z : List Int} : numD (sq g z z.length) = sumG g z.length := by
  have h := sumG_all (sq g z z.length)
  rw [sq_len] at h
  rw [← h]
  exact sumG_congr _ fun j hj => by rw [sq_get (Nat.le_refl _), if_pos hj]
def z16 : List Int := [0, 0, 0, 0, 0, 0, 0, 0, 0, 0, 0, 0, 0, 0, 0, 0]
def z32 : List Int := [0, 0, 0, 0, 0, 0, 0, 0, 0, 0, 0, 0, 0, 0, 0, 0, 0, 0, 0, 0, 0, 0, 0, 0, 0, 0, 0, 0, 0, 0, 0, 0]
/-- The sum's digits. -/
def addG (l m : List Int) (j : Nat) : Int := l.getD j 0 + m.getD j 0
theorem dg_sq {B : Int} {g : Nat → Int} {z : List Int} (hg : ∀ j, 0 ≤ g j ∧ g j < B) (hz : dg B z) {i : Nat} (h : i ≤ z.length) : dg B (sq g z i) := by
  intro j
  rw [sq_get h]
  split
  · exact hg j
  · exact hz j
theorem add_num {l m : List Int} (hl : l.length = 16) (hm : m.length = 16) : numD (sq (addG l m) l 16) = numD l + numD m := by
  have h := sq_num (g := addG l m) (z := l)
  rw [hl] at h
  rw [h]
  have e := sumG_lin 1 1 (f := fun j => l.getD j 0) (h := fun j => m.getD j 0) 16
  have a := sumG_all l
  have b := sumG_all m
  rw [hl] at a
  rw [hm] at b
  rw [a, b] at e
  have c : sumG (addG l m) 16 = sumG (fun j => 1 * l.getD j 0 + 1 * m.getD j 0) 16 := sumG_congr _ fun j _ => by
    show l.getD j 0 + m.getD j 0 = _
    omega
  rw [c, e]; omega
theorem add_dg {l m : List Int} (hl : l.length = 16) (hd : dg 65536 l) (he : dg 65536 m) : dg 1099511627776 (sq (addG l m) l 16) :=
  dg_sq (fun j => by have := hd j; have := he j; unfold addG; omega) (dg_mono hd (by decide)) (by omega)
/-- The difference's digits, with twice the prime. -/
def subG (l m : List Int) (j : Nat) : Int := l.getD j 0 + 2 * pr.getD j 0 + 131072 - m.getD j 0 - 131072
theorem sub_num {l m : List Int} (hl : l.length = 16) (hm : m.length = 16) : numD (sq (subG l m) z16 16) = numD l - numD m + 2 * pn := by
  have h : numD (sq (subG l m) z16 16) = sumG (subG l m) 16 := sq_num (g := subG l m) (z := z16)
  rw [h]
  have e := sumG_lin 1 (-1) (f := fun j => l.getD j 0) (h := fun j => m.getD j 0) 16
  have e2 := sumG_lin 1 2 (f := fun j => 1 * l.getD j 0 + -1 * m.getD j 0) (h := fun j => pr.getD j 0) 16
  have a := sumG_all l
  have b := sumG_all m
  have p : sumG (fun j => pr.getD j 0) 16 = numD pr := sumG_all pr
  rw [pr_num] at p
  rw [hl] at a
  rw [hm] at b
  rw [a, b] at e
  rw [e, p] at e2
  have c : sumG (subG l m) 16 = sumG (fun j => 1 * (1 * l.getD j 0 + -1 * m.getD j 0) + 2 * pr.getD j 0) 16 := sumG_congr _ fun j _ => by
    show l.getD j 0 + 2 * pr.getD j 0 + 131072 - m.getD j 0 - 131072 = _
    omega
  rw [c, e2]; omega
theorem sub_dg {l m : List Int} (hd : dg 65536 l) (he : dg 65536 m) (hs : ∀ j, m.getD j 0 ≤ 2 * pr.getD j 0) : dg 1099511627776 (sq (subG l m) z16 16) :=
  dg_sq (fun j => by have := hd j; have := he j; have := hs j; have := pr_dg j; unfold subG; omega) (fun j => by
    by_cases h : j < 16
    · have : ∀ j, j < 16 → 0 ≤ z16.getD j 0 ∧ z16.getD j 0 < 1099511627776 := by decide
      exact this j h
    · rw [List.getD_eq_getElem?_getD, List.getElem?_eq_none (by show 16 ≤ j; omega)]; decide) (by decide)
/-- One digit times all. -/
def mi (l m : List Int) (a : Nat) (v : List Int) : Nat → List Int
  | 0 => v
  | k + 1 => (mi l m a v k).set (a + k) ((mi l m a v k).getD (a + k) 0 + l.getD a 0 * m.getD k 0)
structure MiOk (l m : List Int) (a : Nat) (v : List Int) (k : Nat) : Prop where
  len : (mi l m a v k).length = v.length
  num : numD (mi l m a v k) = numD v + l.getD a 0 * 65536 ^ a * numD (m.take k)
  hi : ∀ j, a + k ≤ j → (mi l m a v k).getD j 0 = v.getD j 0
  le : ∀ j, v.getD j 0 ≤ (mi l m a v k).getD j 0 ∧ (mi l m a v k).getD j 0 ≤ v.getD j 0 + 4294836225
theorem prod_le {x y : Int} (hx : 0 ≤ x ∧ x < 65536) (hy : 0 ≤ y ∧ y < 65536) : 0 ≤ x * y ∧ x * y ≤ 4294836225 := by
  have h1 : x * y ≤ 65535 * y := Int.mul_le_mul_of_nonneg_right (by omega) hy.1
  have h0 := Int.mul_nonneg hx.1 hy.1
  omega
theorem mi_ok {l m v : List Int} {a : Nat} (hm : m.length = 16) (hv : v.length = 32) (ha : a < 16) (hd : dg 65536 l) (he : dg 65536 m) : ∀ k, k ≤ 16 → MiOk l m a v k
  | 0, _ => ⟨rfl, by
      show numD v = numD v + l.getD a 0 * 65536 ^ a * numD (m.take 0)
      rw [List.take_zero]
      show numD v = numD v + l.getD a 0 * 65536 ^ a * 0
      omega, fun j _ => rfl, fun j => ⟨Int.le_refl _, by show v.getD j 0 ≤ v.getD j 0 + 4294836225; omega⟩⟩
  | k + 1, h => by
    have q := mi_ok hm hv ha hd he k (by omega)
    have hp := prod_le (hd a) (he k)
    have hlen := q.len
    have e : mi l m a v (k + 1) = (mi l m a v k).set (a + k) ((mi l m a v k).getD (a + k) 0 + l.getD a 0 * m.getD k 0) := rfl
    have hin : a + k < (mi l m a v k).length := by omega
    refine ⟨by rw [e, set_len, hlen], ?_, fun j hj => ?_, fun j => ?_⟩
    · rw [e, numD_set _ _ _ hin, q.num, numD_take m k (by omega), Int.pow_add]
      generalize (65536 : Int) ^ a = d
      generalize (65536 : Int) ^ k = c
      generalize (mi l m a v k).getD (a + k) 0 = y
      generalize numD (m.take k) = n
      generalize numD v = w
      generalize l.getD a 0 = x
      generalize m.getD k 0 = z
      grind
    · rw [e, getD_out (by omega)]; exact q.hi j (by omega)
    · rw [e]
      by_cases hj : a + k = j
      · subst hj
        rw [getD_in hin, q.hi (a + k) (Nat.le_refl _)]
        omega
      · rw [getD_out hj]; exact q.le j
def mo (l m : List Int) : Nat → List Int
  | 0 => z32
  | a + 1 => mi l m a (mo l m a) 16
structure MoOk (l m : List Int) (a : Nat) : Prop where
  len : (mo l m a).length = 32
  num : numD (mo l m a) = numD (l.take a) * numD m
  dg : ∀ j, 0 ≤ (mo l m a).getD j 0 ∧ (mo l m a).getD j 0 ≤ (a : Int) * 4294836225
theorem z32_get (j : Nat) : z32.getD j 0 = 0 := by
  by_cases h : j < 32
  · have : ∀ j, j < 32 → z32.getD j 0 = 0 := by decide
    exact this j h
  · rw [List.getD_eq_getElem?_getD, List.getElem?_eq_none (by show 32 ≤ j; omega)]; rfl
theorem mo_ok {l m : List Int} (hl : l.length = 16) (hm : m.length = 16) (hd : dg 65536 l) (he : dg 65536 m) : ∀ a, a ≤ 16 → MoOk l m a
  | 0, _ => ⟨rfl, by
      show numD z32 = numD (l.take 0) * numD m
      rw [List.take_zero]
      show numD z32 = 0 * numD m
      rw [Int.zero_mul]; decide, fun j => by show 0 ≤ z32.getD j 0 ∧ z32.getD j 0 ≤ ((0 : Nat) : Int) * 4294836225; rw [z32_get]; decide⟩
  | a + 1, h => by
    have q := mo_ok hl hm hd he a (by omega)
    have o := mi_ok (v := mo l m a) hm q.len (show a < 16 by omega) hd he 16 (by decide)
    have e : mo l m (a + 1) = mi l m a (mo l m a) 16 := rfl
    have t16 : m.take 16 = m := by rw [← hm, List.take_length]
    refine ⟨by rw [e, o.len, q.len], ?_, fun j => ?_⟩
    · rw [e, o.num, q.num, numD_take l a (by omega), t16]
      generalize (65536 : Int) ^ a = d
      grind
    · rw [e]
      have h1 := o.le j
      have h2 := q.dg j
      have : ((a + 1 : Nat) : Int) * 4294836225 = (a : Int) * 4294836225 + 4294836225 := by omega
      omega
/-- What is above 16 bits goes to the next place. -/
def ca (v : List Int) : Nat → List Int
  | 0 => v
  | i + 1 => ((ca v i).set (i + 1) ((ca v i).getD (i + 1) 0 + (ca v i).getD i 0 / 65536)).set i ((ca v i).getD i 0 % 65536)
structure CaOk (v : List Int) (i : Nat) : Prop where
  len : (ca v i).length = v.length
  num : numD (ca v i) = numD v
  lo : ∀ j, j < i → 0 ≤ (ca v i).getD j 0 ∧ (ca v i).getD j 0 < 65536
  at_ : 0 ≤ (ca v i).getD i 0 ∧ (ca v i).getD i 0 < 137438953472
  hi : ∀ j, i < j → (ca v i).getD j 0 = v.getD j 0
theorem ca_ok {v : List Int} (hv : v.length = 32) (hd : ∀ j, 0 ≤ v.getD j 0 ∧ v.getD j 0 < 68719476736) : ∀ i, i ≤ 31 → CaOk v i
  | 0, _ => ⟨rfl, rfl, fun j h => absurd h (by omega), by
      have := hd 0
      show 0 ≤ v.getD 0 0 ∧ v.getD 0 0 < 137438953472
      omega, fun j _ => rfl⟩
  | i + 1, h => by
    have q := ca_ok hv hd i (by omega)
    have hn := hd (i + 1)
    rw [← q.hi (i + 1) (by omega)] at hn
    have ha := q.at_
    have hlen := q.len
    have e : ca v (i + 1) = ((ca v i).set (i + 1) ((ca v i).getD (i + 1) 0 + (ca v i).getD i 0 / 65536)).set i ((ca v i).getD i 0 % 65536) := rfl
    refine ⟨by rw [e, set_len, set_len, hlen], ?_, fun j hj => ?_, ?_, fun j hj => ?_⟩
    · rw [e, numD_set _ _ _ (by rw [set_len]; omega), numD_set _ _ _ (by omega), getD_out (by omega), q.num, Int.pow_succ]
      generalize (65536 : Int) ^ i = d
      generalize (ca v i).getD i 0 = y at *
      generalize (ca v i).getD (i + 1) 0 = x at *
      have : y % 65536 = y - 65536 * (y / 65536) := by omega
      rw [this]
      generalize y / 65536 = z
      grind
    · rw [e]
      by_cases hji : i = j
      · subst hji; rw [getD_in (by rw [set_len]; omega)]; omega
      · rw [getD_out hji, getD_out (by omega)]; exact q.lo j (by omega)
    · rw [e, getD_out (by omega), getD_in (by omega)]
      omega
    · rw [e, getD_out (by omega), getD_out (by omega)]; exact q.hi j (by omega)
/-- What stands above 2^256 brought in below. -/
def foG (v : List Int) (j : Nat) : Int := v.getD j 0 + 38 * v.getD (j + 16) 0
/-- The product, before it is brought below the prime. -/
def mulv (l m : List Int) : List Int := sq (foG (ca (mo l m 16) 31)) z16 16
theorem mul_bound {l m : List Int} (hl : l.length = 16) (hm : m.length = 16) (hd : dg 65536 l) (he : dg 65536 m) :
    (ca (mo l m 16) 31).length = 32 ∧ numD (ca (mo l m 16) 31) = numD l * numD m ∧ dg 65536 (ca (mo l m 16) 31) := by
  have o := mo_ok hl hm hd he 16 (by decide)
  have od : ∀ j, 0 ≤ (mo l m 16).getD j 0 ∧ (mo l m 16).getD j 0 < 68719476736 := fun j => by have := o.dg j; omega
  have q := ca_ok o.len od 31 (by decide)
  have len : (ca (mo l m 16) 31).length = 32 := by rw [q.len, o.len]
  have num : numD (ca (mo l m 16) 31) = numD l * numD m := by
    rw [q.num, o.num]
    have t16 : l.take 16 = l := by rw [← hl, List.take_length]
    rw [t16]
  refine ⟨len, num, ?_⟩
  have hnum : numD l * numD m < 65536 ^ 16 * 65536 ^ 16 := by
    have h1 := numD_lt hd
    have h2 := numD_lt he
    rw [hl] at h1
    rw [hm] at h2
    have h3 := numD_nn hd
    have h4 := numD_nn he
    have : numD l * numD m ≤ (65536 ^ 16 - 1) * (65536 ^ 16 - 1) := Int.mul_le_mul (by omega) (by omega) h4 (by decide)
    have g : ((65536 : Int) ^ 16 - 1) * (65536 ^ 16 - 1) < 65536 ^ 16 * 65536 ^ 16 := by decide
    omega
  intro j
  by_cases h : j < 31
  · exact q.lo j h
  · by_cases h2 : j = 31
    · subst h2
      have s := numD_split (ca (mo l m 16) 31) 31 (by omega)
      have t : 0 ≤ numD ((ca (mo l m 16) 31).take 31) := numD_nn (B := 65536) (fun j => by
        rw [List.getD_eq_getElem?_getD, List.getElem?_take]
        by_cases hj : j < 31
        · rw [if_pos hj, ← List.getD_eq_getElem?_getD]; exact q.lo j hj
        · rw [if_neg hj]; decide)
      have z : (ca (mo l m 16) 31).drop 32 = [] := List.drop_eq_nil_of_le (by omega)
      rw [z, num] at s
      have hz : numD ([] : List Int) = 0 := rfl
      rw [hz] at s
      have g := q.at_
      refine ⟨g.1, ?_⟩
      generalize (ca (mo l m 16) 31).getD 31 0 = x at *
      generalize numD ((ca (mo l m 16) 31).take 31) = y at *
      generalize numD l * numD m = n at *
      have e16 : (65536 : Int) ^ 16 * 65536 ^ 16 = 65536 * 65536 ^ 31 := by decide
      rw [e16] at hnum
      have hd31 : (0 : Int) < 65536 ^ 31 := by decide
      generalize (65536 : Int) ^ 31 = d at *
      by_cases hx : x < 65536
      · exact hx
      · have : 65536 * d ≤ (x + 65536 * 0) * d := Int.mul_le_mul_of_nonneg_right (by omega) (by omega)
        omega
    · rw [List.getD_eq_getElem?_getD, List.getElem?_eq_none (by omega)]; decide
theorem numD_cut : ∀ (l : List Int) (i : Nat), i ≤ l.length → numD l = numD (l.take i) + numD (l.drop i) * 65536 ^ i
  | l, 0, _ => by
    rw [List.take_zero, List.drop_zero]
    show numD l = 0 + numD l * 1
    omega
  | [], i + 1, h => absurd h (by simp)
  | x :: t, i + 1, h => by
    show x + 65536 * numD t = x + 65536 * numD (t.take i) + numD (t.drop i) * 65536 ^ (i + 1)
    rw [numD_cut t i (by simpa using h), Int.pow_succ]
    generalize (65536 : Int) ^ i = d
    generalize numD (t.take i) = n
    generalize numD (t.drop i) = z
    grind
theorem mul_num {l m : List Int} (hl : l.length = 16) (hm : m.length = 16) (hd : dg 65536 l) (he : dg 65536 m) : ∃ c : Int, numD (mulv l m) = numD l * numD m + pn * c := by
  obtain ⟨len, num, _⟩ := mul_bound hl hm hd he
  unfold mulv
  generalize ca (mo l m 16) 31 = w at *
  have h : numD (sq (foG w) z16 16) = sumG (foG w) 16 := sq_num (g := foG w) (z := z16)
  rw [h]
  have a := sumG_take w 16 (by omega)
  have b := sumG_all (w.drop 16)
  rw [List.length_drop, len] at b
  have b' : sumG (fun j => w.getD (j + 16) 0) 16 = numD (w.drop 16) := by
    rw [← b]
    exact sumG_congr _ fun j _ => by
      rw [List.getD_eq_getElem?_getD, List.getD_eq_getElem?_getD, List.getElem?_drop, Nat.add_comm]
  have e := sumG_lin 1 38 (f := fun j => w.getD j 0) (h := fun j => w.getD (j + 16) 0) 16
  rw [a, b'] at e
  have c : sumG (foG w) 16 = sumG (fun j => 1 * w.getD j 0 + 38 * w.getD (j + 16) 0) 16 := sumG_congr _ fun j _ => by
    show w.getD j 0 + 38 * w.getD (j + 16) 0 = _
    omega
  have s := numD_cut w 16 (by omega)
  rw [num] at s
  have e16 : (65536 : Int) ^ 16 = 38 + 2 * pn := by decide
  rw [e16] at s
  refine ⟨-(2 * numD (w.drop 16)), ?_⟩
  rw [c, e, s]
  generalize numD (w.drop 16) = x
  generalize numD (w.take 16) = y
  generalize pn = p
  grind
theorem mul_dg {l m : List Int} (hl : l.length = 16) (hm : m.length = 16) (hd : dg 65536 l) (he : dg 65536 m) : dg 1099511627776 (mulv l m) := by
  obtain ⟨_, _, g⟩ := mul_bound hl hm hd he
  exact dg_sq (fun j => by have := g j; have := g (j + 16); unfold foG; omega) (fun j => by
    by_cases h : j < 16
    · have : ∀ j, j < 16 → 0 ≤ z16.getD j 0 ∧ z16.getD j 0 < 1099511627776 := by decide
      exact this j h
    · rw [List.getD_eq_getElem?_getD, List.getElem?_eq_none (by show 16 ≤ j; omega)]; decide) (by decide)
end Go.Proofs.YtkjbjgkjplmkhaaDoor.W
namespace Go.Proofs.YtkjbjgkjplmkhaaDoor.W
/-- Sealed: a row that is not to be reckoned out. -/
theorem sl_ex (l : List Int) : ∃ y : List Int, y = l := ⟨_, rfl⟩
noncomputable def sl (l : List Int) : List Int := Classical.choose (sl_ex l)
theorem sl_eq (l : List Int) : sl l = l := Classical.choose_spec (sl_ex l)
end Go.Proofs.YtkjbjgkjplmkhaaDoor.W
