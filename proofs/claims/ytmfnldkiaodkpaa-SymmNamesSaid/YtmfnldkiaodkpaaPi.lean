/- What functions of the program come to: parts of the walk (Pi). -/
import Derived.Test.YtmfnldkiaodkpaaPg
import Derived.KernelRfl
import Derived.Test.YtmfnldkiaodkpaaProg
set_option linter.unusedSimpArgs false
set_option linter.unusedVariables false
namespace Go.Proofs.Ytmfnldkiaodkpaa.Vm
open Go Go.Proofs Go.Proofs.Ytmfnldkiaodkpaa
/-! ### Poly's numbers -/
def v26 (a0 a1 a2 a3 a4 : Int) : Int := a0 + a1 * 67108864 + a2 * 4503599627370496 + a3 * 302231454903657293676544 + a4 * 20282409603651670423947251286016
def p130 : Int := 1361129467683753853853498429727072845819
def vP (e : W.El) : Int := v26 e.a0 e.a1 e.a2 e.a3 e.a4
/-- Products' sums, by so many times 2^54. -/
def Bq (k w : Int) : Prop := 0 ≤ w ∧ w ≤ k * 18014398509481984
theorem Bq.add {k l w p : Int} (h : Bq k w) (h' : Bq l p) : Bq (k + l) (w + p) := by unfold Bq at *; omega
def B26 (a : Int) : Prop := 0 ≤ a ∧ a < 67108864
end Go.Proofs.Ytmfnldkiaodkpaa.Vm

namespace Go.Proofs.Ytmfnldkiaodkpaa.Vm
open Go Go.Proofs Go.Proofs.Ytmfnldkiaodkpaa
/-- Limbs of 26 bits. -/
def nP (e : W.El) : Prop := B26 e.a0 ∧ B26 e.a1 ∧ B26 e.a2 ∧ B26 e.a3 ∧ B26 e.a4
end Go.Proofs.Ytmfnldkiaodkpaa.Vm

namespace Go.Proofs.Ytmfnldkiaodkpaa.Vm
open Go Go.Proofs Go.Proofs.Ytmfnldkiaodkpaa
/-- What carry does to five limbs, told by its carries. -/
structure CR (a0 a1 a2 a3 a4 : Int) (e : W.El) (d0 d1 d2 d3 d4 f l0 l1 : Int) : Prop where
  e0 : a0 = 67108864 * d0 + l0
  e1 : a1 + d0 = 67108864 * d1 + l1
  e2 : a2 + d1 = 67108864 * d2 + e.a2
  e3 : a3 + d2 = 67108864 * d3 + e.a3
  e4 : a4 + d3 = 67108864 * d4 + e.a4
  ef : l0 + 5 * d4 = 67108864 * f + e.a0
  eg : e.a1 = l1 + f
  b0 : 0 ≤ l0 ∧ l0 < 67108864
  b1 : 0 ≤ l1 ∧ l1 < 67108864
  b2 : 0 ≤ e.a2 ∧ e.a2 < 67108864
  b3 : 0 ≤ e.a3 ∧ e.a3 < 67108864
  b4 : 0 ≤ e.a4 ∧ e.a4 < 67108864
  bf : 0 ≤ e.a0 ∧ e.a0 < 67108864
theorem CR.val {a0 a1 a2 a3 a4 : Int} {e : W.El} {d0 d1 d2 d3 d4 f l0 l1 : Int} (h : CR a0 a1 a2 a3 a4 e d0 d1 d2 d3 d4 f l0 l1) : vP e = v26 a0 a1 a2 a3 a4 - p130 * d4 := by
  obtain ⟨h0, h1, h2, h3, h4, h5, h6, _, _, _, _, _, _⟩ := h
  unfold vP v26 p130
  omega
/-- After two carries; after three. -/
def okQ (e : W.El) : Prop := B26 e.a0 ∧ (0 ≤ e.a1 ∧ e.a1 ≤ 67108864 ∧ (e.a1 = 67108864 → e.a0 ≤ 4)) ∧ B26 e.a2 ∧ B26 e.a3 ∧ B26 e.a4
theorem CR.two {a0 a1 a2 a3 a4 : Int} {e : W.El} {d0 d1 d2 d3 d4 f l0 l1 : Int} (h : CR a0 a1 a2 a3 a4 e d0 d1 d2 d3 d4 f l0 l1) (k0 : B26 a0) (k1 : 0 ≤ a1 ∧ a1 < 67141632) (k2 : B26 a2) (k3 : B26 a3) (k4 : B26 a4) : okQ e := by
  obtain ⟨h0, h1, h2, h3, h4, h5, h6, b0, b1, b2, b3, b4, bf⟩ := h
  unfold B26 at *
  have q0 : d0 = 0 := by omega
  have q1 : 0 ≤ d1 ∧ d1 ≤ 1 := by omega
  have q2 : 0 ≤ d2 ∧ d2 ≤ 1 := by omega
  have q3 : 0 ≤ d3 ∧ d3 ≤ 1 := by omega
  have q4 : 0 ≤ d4 ∧ d4 ≤ 1 := by omega
  have qf : 0 ≤ f ∧ f ≤ 1 := by omega
  exact ⟨bf, ⟨by omega, by omega, fun hh => by omega⟩, b2, b3, b4⟩
theorem CR.three {a0 a1 a2 a3 a4 : Int} {e : W.El} {d0 d1 d2 d3 d4 f l0 l1 : Int} (h : CR a0 a1 a2 a3 a4 e d0 d1 d2 d3 d4 f l0 l1) (k0 : B26 a0) (k1 : 0 ≤ a1 ∧ a1 ≤ 67108864 ∧ (a1 = 67108864 → a0 ≤ 4)) (k2 : B26 a2) (k3 : B26 a3) (k4 : B26 a4) : nP e := by
  obtain ⟨h0, h1, h2, h3, h4, h5, h6, b0, b1, b2, b3, b4, bf⟩ := h
  unfold B26 at *
  have q0 : d0 = 0 := by omega
  by_cases hb : a1 = 67108864
  · have := k1.2.2 hb
    have q1 : d1 = 1 ∧ l1 = 0 := by omega
    have q2 : 0 ≤ d2 ∧ d2 ≤ 1 := by omega
    have q3 : 0 ≤ d3 ∧ d3 ≤ 1 := by omega
    have q4 : 0 ≤ d4 ∧ d4 ≤ 1 := by omega
    have qf : f = 0 := by omega
    exact ⟨bf, ⟨by omega, by omega⟩, b2, b3, b4⟩
  · have q1 : d1 = 0 := by omega
    have q2 : d2 = 0 := by omega
    have q3 : d3 = 0 := by omega
    have q4 : d4 = 0 := by omega
    have qf : f = 0 := by omega
    exact ⟨bf, ⟨by omega, by omega⟩, b2, b3, b4⟩
end Go.Proofs.Ytmfnldkiaodkpaa.Vm

namespace Go.Proofs.Ytmfnldkiaodkpaa.Vm
open Go Go.Proofs Go.Proofs.Ytmfnldkiaodkpaa
def By (b : Int) : Prop := 0 ≤ b ∧ b < 256
/-- The number of 17 bytes. -/
def n17 (b : Nat → Int) : Int := b 0 * 1 + b 1 * 256 + b 2 * 65536 + b 3 * 16777216 + b 4 * 4294967296 + b 5 * 1099511627776 + b 6 * 281474976710656 + b 7 * 72057594037927936 + b 8 * 18446744073709551616 + b 9 * 4722366482869645213696 + b 10 * 1208925819614629174706176 + b 11 * 309485009821345068724781056 + b 12 * 79228162514264337593543950336 + b 13 * 20282409603651670423947251286016 + b 14 * 5192296858534827628530496329220096 + b 15 * 1329227995784915872903807060280344576 + b 16 * 340282366920938463463374607431768211456
end Go.Proofs.Ytmfnldkiaodkpaa.Vm

namespace Go.Proofs.Ytmfnldkiaodkpaa.Vm
open Go Go.Proofs Go.Proofs.Ytmfnldkiaodkpaa
def AllB (l : List Int) : Prop := ∀ x ∈ l, By x
theorem AllB.get {l : List Int} (h : AllB l) : ∀ i, By (l.getD i 0) := bt_list h
/-- The same, of numbers. -/
def evalP (l : List Int) (R : Int) (q m : Nat) (A : Int) : Int :=
  if _h : m = 0 then A else evalP l R q (m - min m 16) ((A + n17 (fun i => (blk l (q - m) (min m 16)).getD i 0) % 1361129467683753853853498429727072845824) * R % p130)
termination_by m
decreasing_by omega
end Go.Proofs.Ytmfnldkiaodkpaa.Vm

namespace Go.Proofs.Ytmfnldkiaodkpaa.Vm
open Go Go.Proofs Go.Proofs.Ytmfnldkiaodkpaa
end Go.Proofs.Ytmfnldkiaodkpaa.Vm

namespace Go.Proofs.Ytmfnldkiaodkpaa.Vm
open Go Go.Proofs Go.Proofs.Ytmfnldkiaodkpaa
/-- evalP, with fuel. -/
def evalF (l : List Int) (R : Int) (q : Nat) : Nat → Nat → Int → Int
  | 0, _, A => A
  | f + 1, m, A => if m = 0 then A else evalF l R q f (m - min m 16) ((A + n17 (fun i => (blk l (q - m) (min m 16)).getD i 0) % 1361129467683753853853498429727072845824) * R % p130)
end Go.Proofs.Ytmfnldkiaodkpaa.Vm
