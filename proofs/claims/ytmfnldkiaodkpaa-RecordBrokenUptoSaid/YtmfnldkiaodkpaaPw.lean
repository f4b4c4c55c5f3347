/- What functions of the program come to: parts of the walk (Pw). -/
import Derived.Test.YtmfnldkiaodkpaaVmb
import Derived.KernelRfl
import Derived.Test.YtmfnldkiaodkpaaProg
set_option linter.unusedSimpArgs false
set_option linter.unusedVariables false
namespace Go.Proofs.Ytmfnldkiaodkpaa.Vm
theorem mod64 {a x : Int} (h : a % 18446744073709551616 = x) : 0 ≤ x ∧ x < 18446744073709551616 := by omega
/-- The prime, and what five limbs stand for. -/
def pP : Int := 57896044618658097711785492504343953926634992332820282019728792003956564819949
def valE (a0 a1 a2 a3 a4 : Int) : Int := a0 + a1 * 2251799813685248 + a2 * 5070602400912917605986812821504 + a3 * 11417981541647679048466287755595961091061972992 + a4 * 25711008708143844408671393477458601640355247900524685364822016
theorem chain {r0 r1 r2 r3 r4 c0 c1 c2 c3 c4 s0 s1 s2 s3 s4 z : Int}
    (h0 : r0 + z = 2251799813685248 * c0 + s0) (h1 : r1 + c0 = 2251799813685248 * c1 + s1) (h2 : r2 + c1 = 2251799813685248 * c2 + s2) (h3 : r3 + c2 = 2251799813685248 * c3 + s3) (h4 : r4 + c3 = 2251799813685248 * c4 + s4) :
    valE r0 r1 r2 r3 r4 + z = valE s0 s1 s2 s3 s4 + 57896044618658097711785492504343953926634992332820282019728792003956564819968 * c4 := by
  unfold valE; omega
theorem valE_lt {s0 s1 s2 s3 s4 : Int} (h0 : 0 ≤ s0 ∧ s0 < 2251799813685248) (h1 : 0 ≤ s1 ∧ s1 < 2251799813685248) (h2 : 0 ≤ s2 ∧ s2 < 2251799813685248) (h3 : 0 ≤ s3 ∧ s3 < 2251799813685248) (h4 : 0 ≤ s4 ∧ s4 < 2251799813685248) :
    0 ≤ valE s0 s1 s2 s3 s4 ∧ valE s0 s1 s2 s3 s4 < 57896044618658097711785492504343953926634992332820282019728792003956564819968 := by
  unfold valE; omega
/-- The last reduction. -/
theorem reduce {V S L q d : Int} (hV : 0 ≤ V) (hV2 : V < 2 * pP - 19) (hS : 0 ≤ S ∧ S < 57896044618658097711785492504343953926634992332820282019728792003956564819968) (hL : 0 ≤ L ∧ L < 57896044618658097711785492504343953926634992332820282019728792003956564819968)
    (h1 : V + 19 = S + 57896044618658097711785492504343953926634992332820282019728792003956564819968 * q) (h2 : V + 19 * q = L + 57896044618658097711785492504343953926634992332820282019728792003956564819968 * d) : L = V % pP := by
  unfold pP at *
  have hq : q = 0 ∨ q = 1 := by omega
  rcases hq with rfl | rfl
  · have : d = 0 := by omega
    subst this
    rw [Int.emod_eq_of_lt (by omega) (by omega)]; omega
  · have : d = 1 := by omega
    subst this
    have : V % 57896044618658097711785492504343953926634992332820282019728792003956564819949 = (V - 57896044618658097711785492504343953926634992332820282019728792003956564819949) % 57896044618658097711785492504343953926634992332820282019728792003956564819949 := by
      rw [Int.sub_emod_right]
    rw [this, Int.emod_eq_of_lt (by omega) (by omega)]; omega
/-- A carry turns the number by a multiple of the prime. -/
theorem carry_val {a0 a1 a2 a3 a4 : Int} : valE (a0 % 2251799813685248 + a4 / 2251799813685248 * 19) (a1 % 2251799813685248 + a0 / 2251799813685248) (a2 % 2251799813685248 + a1 / 2251799813685248) (a3 % 2251799813685248 + a2 / 2251799813685248) (a4 % 2251799813685248 + a3 / 2251799813685248) = valE a0 a1 a2 a3 a4 - pP * (a4 / 2251799813685248) := by
  have e0 := Int.emod_add_mul_ediv a0 2251799813685248
  have e1 := Int.emod_add_mul_ediv a1 2251799813685248
  have e2 := Int.emod_add_mul_ediv a2 2251799813685248
  have e3 := Int.emod_add_mul_ediv a3 2251799813685248
  have e4 := Int.emod_add_mul_ediv a4 2251799813685248
  generalize a0 % 2251799813685248 = m0 at *
  generalize a1 % 2251799813685248 = m1 at *
  generalize a2 % 2251799813685248 = m2 at *
  generalize a3 % 2251799813685248 = m3 at *
  generalize a4 % 2251799813685248 = m4 at *
  generalize a0 / 2251799813685248 = d0 at *
  generalize a1 / 2251799813685248 = d1 at *
  generalize a2 / 2251799813685248 = d2 at *
  generalize a3 / 2251799813685248 = d3 at *
  generalize a4 / 2251799813685248 = d4 at *
  unfold valE pP
  omega
theorem stepA {a z x c : Int} (ha : 0 ≤ a ∧ a < 4503599627370496) (hz : 0 ≤ z ∧ z < 100) (h : (a + z) % 18446744073709551616 = x) (h' : x / 2251799813685248 = c) :
    (0 ≤ c ∧ c < 100) ∧ ∃ s, (0 ≤ s ∧ s < 2251799813685248) ∧ a + z = 2251799813685248 * c + s :=
  ⟨by omega, x % 2251799813685248, by omega, by omega⟩
theorem stepB {a z x c l : Int} (ha : 0 ≤ a ∧ a < 4503599627370496) (hz : 0 ≤ z ∧ z < 2000) (h : (a + z) % 18446744073709551616 = x) (h' : x / 2251799813685248 = c) (hm : x % 2251799813685248 = l) :
    (0 ≤ c ∧ c < 100) ∧ (0 ≤ l ∧ l < 2251799813685248) ∧ a + z = 2251799813685248 * c + l := by omega
/-- The chain of Bytes. -/
theorem bytes_chain {r0 r1 r2 r3 r4 y0 c0 y1 c1 y2 c2 y3 c3 y4 q q19 z0 d0 l0 z1 d1 l1 z2 d2 l2 z3 d3 l3 z4 d4 l4 : Int}
    (g0 : 0 ≤ r0 ∧ r0 < 2251799813685348) (g1 : 0 ≤ r1 ∧ r1 < 2251799813685348) (g2 : 0 ≤ r2 ∧ r2 < 2251799813685348) (g3 : 0 ≤ r3 ∧ r3 < 2251799813685348) (g4 : 0 ≤ r4 ∧ r4 < 2251799813685348)
    (a0 : (r0 + 19) % 18446744073709551616 = y0) (b0 : y0 / 2251799813685248 = c0) (a1 : (r1 + c0) % 18446744073709551616 = y1) (b1 : y1 / 2251799813685248 = c1) (a2 : (r2 + c1) % 18446744073709551616 = y2) (b2 : y2 / 2251799813685248 = c2)
    (a3 : (r3 + c2) % 18446744073709551616 = y3) (b3 : y3 / 2251799813685248 = c3) (a4 : (r4 + c3) % 18446744073709551616 = y4) (b4 : y4 / 2251799813685248 = q) (a5 : 19 * q % 18446744073709551616 = q19)
    (e0 : (r0 + q19) % 18446744073709551616 = z0) (f0 : z0 / 2251799813685248 = d0) (k0 : z0 % 2251799813685248 = l0) (e1 : (r1 + d0) % 18446744073709551616 = z1) (f1 : z1 / 2251799813685248 = d1) (k1 : z1 % 2251799813685248 = l1)
    (e2 : (r2 + d1) % 18446744073709551616 = z2) (f2 : z2 / 2251799813685248 = d2) (k2 : z2 % 2251799813685248 = l2) (e3 : (r3 + d2) % 18446744073709551616 = z3) (f3 : z3 / 2251799813685248 = d3) (k3 : z3 % 2251799813685248 = l3)
    (e4 : (r4 + d3) % 18446744073709551616 = z4) (f4 : z4 / 2251799813685248 = d4) (k4 : z4 % 2251799813685248 = l4) :
    (0 ≤ l0 ∧ l0 < 2251799813685248) ∧ (0 ≤ l1 ∧ l1 < 2251799813685248) ∧ (0 ≤ l2 ∧ l2 < 2251799813685248) ∧ (0 ≤ l3 ∧ l3 < 2251799813685248) ∧ (0 ≤ l4 ∧ l4 < 2251799813685248) ∧ valE l0 l1 l2 l3 l4 = valE r0 r1 r2 r3 r4 % pP := by
  have w : ∀ {r : Int}, 0 ≤ r ∧ r < 2251799813685348 → 0 ≤ r ∧ r < 4503599627370496 := fun h => ⟨h.1, Int.lt_trans h.2 (by decide)⟩
  have w2 : ∀ {r : Int}, 0 ≤ r ∧ r < 100 → 0 ≤ r ∧ r < 2000 := fun h => ⟨h.1, Int.lt_trans h.2 (by decide)⟩
  obtain ⟨n0, s0, t0, u0⟩ := stepA (w g0) (by decide) a0 b0
  obtain ⟨n1, s1, t1, u1⟩ := stepA (w g1) n0 a1 b1
  obtain ⟨n2, s2, t2, u2⟩ := stepA (w g2) n1 a2 b2
  obtain ⟨n3, s3, t3, u3⟩ := stepA (w g3) n2 a3 b3
  obtain ⟨n4, s4, t4, u4⟩ := stepA (w g4) n3 a4 b4
  have eq19 : q19 = 19 * q := by clear e0 e1 e2 e3 e4 f0 f1 f2 f3 f4 k0 k1 k2 k3 k4 a0 a1 a2 a3 a4 b0 b1 b2 b3 b4; omega
  have hq : 0 ≤ q19 ∧ q19 < 2000 := by clear e0 e1 e2 e3 e4 f0 f1 f2 f3 f4 k0 k1 k2 k3 k4 a0 a1 a2 a3 a4 b0 b1 b2 b3 b4; omega
  obtain ⟨m0, p0, v0⟩ := stepB (w g0) hq e0 f0 k0
  obtain ⟨m1, p1, v1⟩ := stepB (w g1) (w2 m0) e1 f1 k1
  obtain ⟨m2, p2, v2⟩ := stepB (w g2) (w2 m1) e2 f2 k2
  obtain ⟨m3, p3, v3⟩ := stepB (w g3) (w2 m2) e3 f3 k3
  obtain ⟨m4, p4, v4⟩ := stepB (w g4) (w2 m3) e4 f4 k4
  have c1 := chain u0 u1 u2 u3 u4
  have c2 := chain v0 v1 v2 v3 v4
  rw [eq19] at c2
  refine ⟨p0, p1, p2, p3, p4, reduce ?_ ?_ (valE_lt t0 t1 t2 t3 t4) (valE_lt p0 p1 p2 p3 p4) c1 c2⟩
  · clear c1 c2 u0 u1 u2 u3 u4 v0 v1 v2 v3 v4 e0 e1 e2 e3 e4 f0 f1 f2 f3 f4 k0 k1 k2 k3 k4 a0 a1 a2 a3 a4 b0 b1 b2 b3 b4
    unfold valE; omega
  · clear c1 c2 u0 u1 u2 u3 u4 v0 v1 v2 v3 v4 e0 e1 e2 e3 e4 f0 f1 f2 f3 f4 k0 k1 k2 k3 k4 a0 a1 a2 a3 a4 b0 b1 b2 b3 b4
    unfold valE pP; omega
end Go.Proofs.Ytmfnldkiaodkpaa.Vm

/- Words for the field's elements, and for numbers of 128 bits. -/
namespace Go.Proofs.Ytmfnldkiaodkpaa.W
/-- An element: five limbs. -/
structure El where
  a0 : Int
  a1 : Int
  a2 : Int
  a3 : Int
  a4 : Int
def el (e : El) : List Int := [e.a0, e.a1, e.a2, e.a3, e.a4]
/-- The two words of a number of 128 bits, the high one first. -/
def wd (n : Int) : List Int := [n / 18446744073709551616, n % 18446744073709551616]
end Go.Proofs.Ytmfnldkiaodkpaa.W

namespace Go.Proofs.Ytmfnldkiaodkpaa.Vm
open Go Go.Proofs Go.Proofs.Ytmfnldkiaodkpaa
set_option maxRecDepth 100000
theorem mixed : Try.prog.follows .mixedOrders = true := by kernel_rfl

end Go.Proofs.Ytmfnldkiaodkpaa.Vm
