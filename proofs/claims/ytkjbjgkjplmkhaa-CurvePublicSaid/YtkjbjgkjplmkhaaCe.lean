/- What functions of the program come to: parts of the walk (Ce). -/
import Derived.Test.YtkjbjgkjplmkhaaCd
import Derived.Test.YtkjbjgkjplmkhaaCb
/- Edwards' curve: its points are a group; the ladder's answer is the ordinate of a multiple. -/
namespace Go.Proofs.Ytkjbjgkjplmkhaa.Vm
theorem fcancel {a b c : Fp} (hc : c ≠ 0) (h : a * c = b * c) : a = b := by
  have k := finv_cancel hc
  have e1 : a = a * c * finv c := by
    generalize finv c = i at *
    grind (splits := 0) (ringSteps := 1000000) -lia -linarith
  have e2 : b = b * c * finv c := by
    generalize finv c = i at *
    grind (splits := 0) (ringSteps := 1000000) -lia -linarith
  rw [e1, e2, h]
theorem fprod {a b : Fp} (ha : a ≠ 0) (hb : b ≠ 0) : a * b ≠ 0 := by
  intro h
  exact ha (fcancel hb (h.trans (by grind (splits := 0) (ringSteps := 1000000) -lia -linarith)))
theorem fzero {a b : Fp} (h : a * b = 0) : a = 0 ∨ b = 0 := by
  by_cases ha : a = 0
  · exact .inl ha
  · by_cases hb : b = 0
    · exact .inr hb
    · exact absurd h (fprod ha hb)
def dE : Fp := ⟨37095705934669439343138083508754565189542113879843219016388785533085940283555, by decide⟩
def eE : Fp := ⟨29203323570479832313932222820853031755424015489030106335172286495629888845891, by decide⟩
def iE : Fp := ⟨19681161376707505956807079304988542015446066515923890162744021073123829784752, by decide⟩
theorem de_rel : dE * eE = 1 := by decide +kernel
theorem i_rel : iE * iE + 1 = 0 := by decide +kernel
theorem c_rel : (toF 121665 + 1) * dE + toF 121665 = 0 := by decide +kernel
theorem two_ne : (2 : Fp) ≠ 0 := by decide
def hN : Nat := 28948022309329048855892746252171976963317496166410141009864396001978282409974
theorem d_half : fpow pN dE.val 256 hN ≠ 1 := by decide +kernel
theorem hN_two : hN + hN = pN - 1 := by decide +kernel
theorem hN_lt : hN < 2 ^ 256 := by decide +kernel
theorem fexp_half (t : Fp) (ht : t ≠ 0) (n : Nat) (hn : n + n = pN - 1) : fexp (t * t) n = 1 := by
  rw [fexp_mul, ← fexp_add]
  apply Fin.ext
  rw [fexp_val]
  exact pow_one_of prm_b77 (n + n) hn t.val (by
    rw [Nat.mod_eq_of_lt t.isLt]
    intro e
    exact ht (Fin.ext e))
theorem d_nonsq {z w : Fp} (h : z * z = dE * (w * w)) : w = 0 := by
  by_cases hw : w = 0
  · exact hw
  · exfalso
    have c := finv_cancel hw
    have ht : (z * finv w) * (z * finv w) = dE := by
      generalize finv w = v at *
      generalize dE = d at *
      grind (splits := 0) (ringSteps := 1000000) -lia -linarith
    have hd0 : dE ≠ 0 := by decide
    have hn : z * finv w ≠ 0 := by
      intro e
      rw [e] at ht
      exact hd0 (ht.symm.trans (by grind (splits := 0) (ringSteps := 1000000) -lia -linarith))
    have f := fexp_half _ hn hN hN_two
    rw [ht] at f
    have v := congrArg Fin.val f
    rw [fexp_val, ← fpow_eq pN 256 dE.val hN hN_lt] at v
    exact d_half v
structure EP where
  x : Fp
  y : Fp
  h : y * y - x * x = 1 + dE * (x * x) * (y * y)
theorem EP.e (P : EP) : P.x * P.x * (P.y * P.y) = eE * (P.y * P.y - P.x * P.x - 1) := by
  have h := P.h
  have r := de_rel
  generalize dE = d at *
  generalize eE = e at *
  grind (splits := 0) (ringSteps := 1000000) -lia -linarith
theorem EP.ext {P Q : EP} (h1 : P.x = Q.x) (h2 : P.y = Q.y) : P = Q := by
  cases P; cases Q; cases h1; cases h2; rfl
/-- No denominator is 0. -/
theorem ed_ne (P Q : EP) {s : Fp} (hs : s * s = 1) : dE * (P.x * Q.x * P.y * Q.y) ≠ s := by
  intro ht
  have s0 : s ≠ 0 := by
    intro e
    rw [e] at hs
    exact one_ne (hs.symm.trans (by grind (splits := 0) (ringSteps := 1000000) -lia -linarith))
  have n1 := ed_nz dE P.x P.y Q.x Q.y iE s i_rel hs P.h Q.h ht 1 (by grind (splits := 0) (ringSteps := 1000000) -lia -linarith)
  have n2 := ed_nz dE P.x P.y Q.x Q.y iE s i_rel hs P.h Q.h ht (-1) (by grind (splits := 0) (ringSteps := 1000000) -lia -linarith)
  have z1 := d_nonsq n1
  have z2 := d_nonsq n2
  have hx : P.x * P.y ≠ 0 := by
    intro e
    apply s0
    rw [← ht]
    have : P.x * Q.x * P.y * Q.y = P.x * P.y * (Q.x * Q.y) := by grind (splits := 0) (ringSteps := 1000000) -lia -linarith
    rw [this, e]; grind (splits := 0) (ringSteps := 1000000) -lia -linarith
  have hq : Q.y ≠ 0 := by
    intro e
    apply s0
    rw [← ht, e]; grind (splits := 0) (ringSteps := 1000000) -lia -linarith
  rcases fzero z1 with z1 | z1
  · exact hx z1
  rcases fzero z2 with z2 | z2
  · exact hx z2
  have : 2 * Q.y = 0 := by grind (splits := 0) (ringSteps := 1000000) -lia -linarith
  rcases fzero this with h | h
  · exact two_ne h
  · exact hq h
theorem ed_pos (P Q : EP) : 1 + dE * (P.x * Q.x * P.y * Q.y) ≠ 0 := by
  intro h
  exact ed_ne P Q (s := -1) (by grind (splits := 0) (ringSteps := 1000000) -lia -linarith) (by grind (splits := 0) (ringSteps := 1000000) -lia -linarith)
theorem ed_neg (P Q : EP) : 1 - dE * (P.x * Q.x * P.y * Q.y) ≠ 0 := by
  intro h
  exact ed_ne P Q (s := 1) (by grind (splits := 0) (ringSteps := 1000000) -lia -linarith) (by grind (splits := 0) (ringSteps := 1000000) -lia -linarith)
def addX (P Q : EP) : Fp := (P.x * Q.y + Q.x * P.y) * finv (1 + dE * (P.x * Q.x * P.y * Q.y))
def addY (P Q : EP) : Fp := (P.y * Q.y + P.x * Q.x) * finv (1 - dE * (P.x * Q.x * P.y * Q.y))
theorem addX_eq (P Q : EP) : addX P Q * (1 + dE * (P.x * Q.x * P.y * Q.y)) = P.x * Q.y + Q.x * P.y := by
  have c := finv_cancel (ed_pos P Q)
  unfold addX
  generalize finv (1 + dE * (P.x * Q.x * P.y * Q.y)) = v at *
  generalize 1 + dE * (P.x * Q.x * P.y * Q.y) = w at *
  generalize P.x * Q.y + Q.x * P.y = a at *
  grind (splits := 0) (ringSteps := 1000000) -lia -linarith
theorem addY_eq (P Q : EP) : addY P Q * (1 - dE * (P.x * Q.x * P.y * Q.y)) = P.y * Q.y + P.x * Q.x := by
  have c := finv_cancel (ed_neg P Q)
  unfold addY
  generalize finv (1 - dE * (P.x * Q.x * P.y * Q.y)) = v at *
  generalize 1 - dE * (P.x * Q.x * P.y * Q.y) = w at *
  generalize P.y * Q.y + P.x * Q.x = a at *
  grind (splits := 0) (ringSteps := 1000000) -lia -linarith
theorem add_closed (P Q : EP) : addY P Q * addY P Q - addX P Q * addX P Q = 1 + dE * (addX P Q * addX P Q) * (addY P Q * addY P Q) := by
  have c := ed_closed dE eE P.x P.y Q.x Q.y de_rel P.e Q.e
  have hx := addX_eq P Q
  have hy := addY_eq P Q
  have n1 := ed_pos P Q
  have n2 := ed_neg P Q
  generalize addX P Q = X at *
  generalize addY P Q = Y at *
  generalize dE = d at *
  generalize 1 + d * (P.x * Q.x * P.y * Q.y) = p at *
  generalize 1 - d * (P.x * Q.x * P.y * Q.y) = m at *
  rw [← hx, ← hy] at c
  refine fcancel (fprod (fprod n1 n1) (fprod n2 n2)) ?_
  grind (splits := 0) (ringSteps := 1000000) -lia -linarith
def EP.add (P Q : EP) : EP := ⟨addX P Q, addY P Q, add_closed P Q⟩
def EP.O : EP := ⟨0, 1, by decide +kernel⟩
def EP.neg (P : EP) : EP := ⟨-P.x, P.y, by
  have h := P.h
  grind (splits := 0) (ringSteps := 1000000) -lia -linarith⟩
theorem add_comm' (P Q : EP) : P.add Q = Q.add P := by
  apply EP.ext
  · show addX P Q = addX Q P
    unfold addX
    have e : P.x * Q.x * P.y * Q.y = Q.x * P.x * Q.y * P.y := by grind (splits := 0) (ringSteps := 1000000) -lia -linarith
    rw [e]
    have e2 : P.x * Q.y + Q.x * P.y = Q.x * P.y + P.x * Q.y := by grind (splits := 0) (ringSteps := 1000000) -lia -linarith
    rw [e2]
  · show addY P Q = addY Q P
    unfold addY
    have e : P.x * Q.x * P.y * Q.y = Q.x * P.x * Q.y * P.y := by grind (splits := 0) (ringSteps := 1000000) -lia -linarith
    rw [e]
    have e2 : P.y * Q.y + P.x * Q.x = Q.y * P.y + Q.x * P.x := by grind (splits := 0) (ringSteps := 1000000) -lia -linarith
    rw [e2]
theorem add_zero' (P : EP) : P.add EP.O = P := by
  apply EP.ext
  · have h := addX_eq P EP.O
    show addX P EP.O = P.x
    generalize addX P EP.O = X at *
    have hx : EP.O.x = 0 := rfl
    have hy : EP.O.y = 1 := rfl
    rw [hx, hy] at h
    grind (splits := 0) (ringSteps := 1000000) -lia -linarith
  · have h := addY_eq P EP.O
    show addY P EP.O = P.y
    generalize addY P EP.O = Y at *
    have hx : EP.O.x = 0 := rfl
    have hy : EP.O.y = 1 := rfl
    rw [hx, hy] at h
    grind (splits := 0) (ringSteps := 1000000) -lia -linarith
theorem neg_add' (P : EP) : P.neg.add P = EP.O := by
  apply EP.ext
  · have h := addX_eq P.neg P
    have n := ed_pos P.neg P
    show addX P.neg P = 0
    generalize addX P.neg P = X at *
    refine fcancel n ?_
    rw [h]
    show -P.x * P.y + P.x * P.y = 0 * _
    grind (splits := 0) (ringSteps := 1000000) -lia -linarith
  · have h := addY_eq P.neg P
    have n := ed_neg P.neg P
    have hc := P.h
    show addY P.neg P = 1
    generalize addY P.neg P = Y at *
    refine fcancel n ?_
    rw [h]
    show P.y * P.y + -P.x * P.x = 1 * (1 - dE * (-P.x * P.x * P.y * P.y))
    grind (splits := 0) (ringSteps := 1000000) -lia -linarith
theorem join_x (a b a' b' p m p' m' d x1 y1 x3 y3 : Fp) (ax : (a * p * y3 * m + x3 * (b * m) * p) * (p' * m' + d * (x1 * y1 * (a' * p') * (b' * m'))) = (x1 * (b' * m') * p' + y1 * (a' * p') * m') * (p * m + d * (a * p * (b * m) * x3 * y3))) :
    (a * y3 + x3 * b) * (p * m) * (p' * m' * (1 + d * (x1 * a' * y1 * b'))) = (x1 * b' + a' * y1) * (p' * m') * (p * m * (1 + d * (a * x3 * b * y3))) := by
  grind (splits := 0) (ringSteps := 1000000) -lia -linarith
theorem join_y (a b a' b' p m p' m' d x1 y1 x3 y3 : Fp) (ay : (b * m * y3 * p + a * p * x3 * m) * (p' * m' - d * (x1 * y1 * (a' * p') * (b' * m'))) = (y1 * (b' * m') * p' + x1 * (a' * p') * m') * (p * m - d * (a * p * (b * m) * x3 * y3))) :
    (b * y3 + a * x3) * (p * m) * (p' * m' * (1 - d * (x1 * a' * y1 * b'))) = (y1 * b' + x1 * a') * (p' * m') * (p * m * (1 - d * (a * x3 * b * y3))) := by
  grind (splits := 0) (ringSteps := 1000000) -lia -linarith
theorem add_assoc' (P Q R : EP) : (P.add Q).add R = P.add (Q.add R) := by
  have hx1 := addX_eq P Q
  have hy1 := addY_eq P Q
  have hx2 := addX_eq Q R
  have hy2 := addY_eq Q R
  have p1 := ed_pos P Q
  have m1 := ed_neg P Q
  have p2 := ed_pos Q R
  have m2 := ed_neg Q R
  have q1 := ed_pos (P.add Q) R
  have q2 := ed_pos P (Q.add R)
  have r1 := ed_neg (P.add Q) R
  have r2 := ed_neg P (Q.add R)
  have ax := ed_assoc_x dE eE P.x P.y Q.x Q.y R.x R.y de_rel P.e Q.e R.e
  have ay := ed_assoc_y dE eE P.x P.y Q.x Q.y R.x R.y de_rel P.e Q.e R.e
  have e1 : (P.add Q).x = addX P Q := rfl
  have e2 : (P.add Q).y = addY P Q := rfl
  have e3 : (Q.add R).x = addX Q R := rfl
  have e4 : (Q.add R).y = addY Q R := rfl
  have X1 := addX_eq (P.add Q) R
  have X2 := addX_eq P (Q.add R)
  have Y1 := addY_eq (P.add Q) R
  have Y2 := addY_eq P (Q.add R)
  apply EP.ext
  · show addX (P.add Q) R = addX P (Q.add R)
    rw [e1, e2] at q1 X1
    rw [e3, e4] at q2 X2
    generalize addX (P.add Q) R = X at *
    generalize addX P (Q.add R) = X' at *
    clear Y1 Y2 ay r1 r2
    generalize addX P Q = a at *
    generalize addY P Q = b at *
    generalize addX Q R = a' at *
    generalize addY Q R = b' at *
    generalize dE = d at *
    generalize 1 + d * (P.x * Q.x * P.y * Q.y) = p at *
    generalize 1 - d * (P.x * Q.x * P.y * Q.y) = m at *
    generalize 1 + d * (Q.x * R.x * Q.y * R.y) = p' at *
    generalize 1 - d * (Q.x * R.x * Q.y * R.y) = m' at *
    rw [← hx1, ← hy1, ← hx2, ← hy2] at ax
    have n1 := fprod (fprod p1 m1) (fprod (fprod p2 m2) (fprod q1 q2))
    refine fcancel n1 ?_
    have l : X * (p * m * (p' * m' * ((1 + d * (a * R.x * b * R.y)) * (1 + d * (P.x * a' * P.y * b'))))) = (a * R.y + R.x * b) * (p * m) * (p' * m' * (1 + d * (P.x * a' * P.y * b'))) := by rw [← X1]; grind (splits := 0) (ringSteps := 1000000) -lia -linarith
    have r : X' * (p * m * (p' * m' * ((1 + d * (a * R.x * b * R.y)) * (1 + d * (P.x * a' * P.y * b'))))) = (P.x * b' + a' * P.y) * (p' * m') * (p * m * (1 + d * (a * R.x * b * R.y))) := by rw [← X2]; grind (splits := 0) (ringSteps := 1000000) -lia -linarith
    rw [l, r]
    exact join_x _ _ _ _ _ _ _ _ _ _ _ _ _ ax
  · show addY (P.add Q) R = addY P (Q.add R)
    rw [e1, e2] at r1 Y1
    rw [e3, e4] at r2 Y2
    generalize addY (P.add Q) R = X at *
    generalize addY P (Q.add R) = X' at *
    clear X1 X2 ax q1 q2
    generalize addX P Q = a at *
    generalize addY P Q = b at *
    generalize addX Q R = a' at *
    generalize addY Q R = b' at *
    generalize dE = d at *
    generalize 1 + d * (P.x * Q.x * P.y * Q.y) = p at *
    generalize 1 - d * (P.x * Q.x * P.y * Q.y) = m at *
    generalize 1 + d * (Q.x * R.x * Q.y * R.y) = p' at *
    generalize 1 - d * (Q.x * R.x * Q.y * R.y) = m' at *
    rw [← hx1, ← hy1, ← hx2, ← hy2] at ay
    have n1 := fprod (fprod p1 m1) (fprod (fprod p2 m2) (fprod r1 r2))
    refine fcancel n1 ?_
    have l : X * (p * m * (p' * m' * ((1 - d * (a * R.x * b * R.y)) * (1 - d * (P.x * a' * P.y * b'))))) = (b * R.y + a * R.x) * (p * m) * (p' * m' * (1 - d * (P.x * a' * P.y * b'))) := by rw [← Y1]; grind (splits := 0) (ringSteps := 1000000) -lia -linarith
    have r : X' * (p * m * (p' * m' * ((1 - d * (a * R.x * b * R.y)) * (1 - d * (P.x * a' * P.y * b'))))) = (P.y * b' + P.x * a') * (p' * m') * (p * m * (1 - d * (a * R.x * b * R.y))) := by rw [← Y2]; grind (splits := 0) (ringSteps := 1000000) -lia -linarith
    rw [l, r]
    exact join_y _ _ _ _ _ _ _ _ _ _ _ _ _ ay
/-- Multiples. -/
def EP.mul (P : EP) : Nat → EP
  | 0 => EP.O
  | n + 1 => (P.mul n).add P
theorem zero_add' (P : EP) : EP.O.add P = P := by rw [add_comm', add_zero']
theorem mul_add' (P : EP) (m : Nat) : ∀ n, P.mul (m + n) = (P.mul m).add (P.mul n)
  | 0 => by show P.mul m = (P.mul m).add EP.O; rw [add_zero']
  | n + 1 => by
    show (P.mul (m + n)).add P = (P.mul m).add ((P.mul n).add P)
    rw [mul_add' P m n, add_assoc']
theorem mul_mul' (P : EP) (m : Nat) : ∀ n, P.mul (m * n) = (P.mul m).mul n
  | 0 => rfl
  | n + 1 => by
    show P.mul (m * n + m) = ((P.mul m).mul n).add (P.mul m)
    rw [mul_add', mul_mul' P m n]
theorem mul_O : ∀ n, EP.O.mul n = EP.O
  | 0 => rfl
  | n + 1 => by
    show (EP.O.mul n).add EP.O = EP.O
    rw [add_zero', mul_O n]
theorem add_left_neg (P Q : EP) : P.neg.add (P.add Q) = Q := by rw [← add_assoc', neg_add', zero_add']
end Go.Proofs.Ytkjbjgkjplmkhaa.Vm

/- The ladder's answer is that of a multiple of a point. -/
namespace Go.Proofs.Ytkjbjgkjplmkhaa.Vm
def Rep (X Z : Fp) (P : EP) : Prop := ∃ l : Fp, l ≠ 0 ∧ X = l * (1 + P.y) ∧ Z = l * (1 - P.y)
theorem dbl_eq (c d x y Y l : Fp) (hc : (c + 1) * d + c = 0) (h : y * y - x * x = 1 + d * (x * x) * (y * y)) (hY : Y * (1 - d * (x * x * y * y)) = y * y + x * x) :
    (l * (1 + y) + l * (1 - y)) * (l * (1 + y) + l * (1 - y)) * ((l * (1 + y) - l * (1 - y)) * (l * (1 + y) - l * (1 - y))) = 8 * (l * l * (l * l)) * (1 + c * (1 - y * y)) * (1 - d * (x * x * y * y)) * (1 + Y)
    ∧ ((l * (1 + y) + l * (1 - y)) * (l * (1 + y) + l * (1 - y)) - (l * (1 + y) - l * (1 - y)) * (l * (1 + y) - l * (1 - y))) * ((l * (1 + y) + l * (1 - y)) * (l * (1 + y) + l * (1 - y)) + ((l * (1 + y) + l * (1 - y)) * (l * (1 + y) + l * (1 - y)) - (l * (1 + y) - l * (1 - y)) * (l * (1 + y) - l * (1 - y))) * c) = 8 * (l * l * (l * l)) * (1 + c * (1 - y * y)) * (1 - d * (x * x * y * y)) * (1 - Y) := by
  constructor <;> grind (splits := 0) (ringSteps := 1000000) -lia -linarith
theorem w_ne (y : Fp) : 1 + toF 121665 * (1 - y * y) ≠ 0 := by
  intro h
  have hc := c_rel
  have hc1 : toF 121665 + 1 ≠ 0 := by decide
  have hi := i_rel
  have e : (toF 121665 + 1) * (1 + dE * (y * y)) = 0 := by
    generalize toF 121665 = c at *
    generalize dE = d at *
    grind (splits := 0) (ringSteps := 1000000) -lia -linarith
  rcases fzero e with e | e
  · exact hc1 e
  · have : iE * iE = dE * (y * y) := by
      generalize iE = i at *
      generalize dE = d at *
      grind (splits := 0) (ringSteps := 1000000) -lia -linarith
    have hy := d_nonsq this
    rw [hy] at e
    exact one_ne (by
      generalize dE = d at *
      grind (splits := 0) (ringSteps := 1000000) -lia -linarith)
theorem eight_ne : (8 : Fp) ≠ 0 := by decide
theorem rep_dbl {x : Fp} {q : Q4} {P : EP} (h : Rep q.a q.b P) : Rep (stepF x q).a (stepF x q).b (P.add P) := by
  obtain ⟨l, hl, ha, hb⟩ := h
  have hY := addY_eq P P
  have k := dbl_eq (toF 121665) dE P.x P.y (addY P P) l c_rel P.h hY
  refine ⟨8 * (l * l * (l * l)) * (1 + toF 121665 * (1 - P.y * P.y)) * (1 - dE * (P.x * P.x * P.y * P.y)), ?_, ?_, ?_⟩
  rotate_left
  · unfold stepF
    dsimp only
    rw [ha, hb]
    exact k.1
  · unfold stepF
    dsimp only
    rw [ha, hb]
    exact k.2
  · exact fprod (fprod (fprod eight_ne (fprod (fprod hl hl) (fprod hl hl))) (w_ne P.y)) (ed_neg P P)
theorem diff_eq (a b c d y1 y2 x l m : Fp) (ha : a = l * (1 + y1)) (hb : b = l * (1 - y1)) (hc : c = m * (1 + y2)) (hd : d = m * (1 - y2)) :
    ((c - d) * (a + b) + (c + d) * (a - b)) * ((c - d) * (a + b) + (c + d) * (a - b)) = 16 * (l * l * (m * m)) * ((y1 + y2) * (y1 + y2))
    ∧ x * (((c - d) * (a + b) - (c + d) * (a - b)) * ((c - d) * (a + b) - (c + d) * (a - b))) = 16 * (l * l * (m * m)) * (x * ((y2 - y1) * (y2 - y1))) := by
  subst ha; subst hb; subst hc; subst hd
  constructor <;> grind (splits := 0) (ringSteps := 1000000) -lia -linarith
theorem sixteen_ne : (16 : Fp) ≠ 0 := by decide
theorem fsq {a : Fp} (h : a * a = 0) : a = 0 := by
  rcases fzero h with h | h <;> exact h
theorem dn1 (D A Y : Fp) (h : Y * D = A) : D - A = (1 - Y) * D := by
  rw [← h]; grind (splits := 0) (ringSteps := 1000000) -lia -linarith
theorem dn2 (D A Y : Fp) (h : Y * D = A) : D + A = (1 + Y) * D := by
  rw [← h]; grind (splits := 0) (ringSteps := 1000000) -lia -linarith
theorem dn3 (d x1 y1 x2 y2 : Fp) : 1 + d * (x1 * x2 * y1 * y2) = 1 - d * (-x1 * x2 * y1 * y2) := by grind (splits := 0) (ringSteps := 1000000) -lia -linarith
theorem dn4 (x1 y1 x2 y2 : Fp) : y1 * y2 - x1 * x2 = y1 * y2 + -x1 * x2 := by grind (splits := 0) (ringSteps := 1000000) -lia -linarith
theorem dn5 (s t Y3 Y0 p r x : Fp) (df : s * ((1 - Y3) * p * ((1 - Y0) * r)) = t * ((1 + Y3) * p * (x * (1 - Y0) * r))) : s * (1 - Y3) * ((1 - Y0) * (p * r)) = x * t * (1 + Y3) * ((1 - Y0) * (p * r)) := by grind (splits := 0) (ringSteps := 1000000) -lia -linarith
theorem dn6 (C D i2 Y3 : Fp) (rel : C * (1 - Y3) = D * (1 + Y3)) (hi : 2 * i2 = 1) : C = (C + D) * i2 * (1 + Y3) ∧ D = (C + D) * i2 * (1 - Y3) := by
  constructor <;> grind (splits := 0) (ringSteps := 1000000) -lia -linarith
theorem dn7 (C D i2 : Fp) (hi : 2 * i2 = 1) (e : (C + D) * i2 = 0) : C + D = 0 := by grind (splits := 0) (ringSteps := 1000000) -lia -linarith
theorem dn8 (C D Y3 : Fp) (rel : C * (1 - Y3) = D * (1 + Y3)) (e : C + D = 0) : 2 * C = 0 ∧ 2 * D = 0 := by
  constructor <;> grind (splits := 0) (ringSteps := 1000000) -lia -linarith
theorem dn9 (y1 y2 : Fp) (h : y1 + y2 = 0) (h' : y2 - y1 = 0) : 2 * y2 = 0 ∧ 2 * y1 = 0 := by
  constructor <;> grind (splits := 0) (ringSteps := 1000000) -lia -linarith
theorem dn10 (d x1 x2 Y0 : Fp) (c1 : 0 * 0 - x1 * x1 = 1 + d * (x1 * x1) * (0 * 0)) (c2 : 0 * 0 - x2 * x2 = 1 + d * (x2 * x2) * (0 * 0)) (hY0 : Y0 * (1 - d * (-x1 * x2 * 0 * 0)) = 0 * 0 + -x1 * x2) : (Y0 - 1) * (Y0 + 1) = 0 := by grind (splits := 0) (ringSteps := 1000000) -lia -linarith
theorem dn11 (Y : Fp) (h : Y - 1 = 0) : Y = 1 := by grind (splits := 0) (ringSteps := 1000000) -lia -linarith
theorem dn12 (Y : Fp) (h : Y + 1 = 0) : Y = -1 := by grind (splits := 0) (ringSteps := 1000000) -lia -linarith
theorem fmul_assoc (a b c : Fp) : a * b * c = a * (b * c) := by grind (splits := 0) (ringSteps := 1000000) -lia -linarith
theorem rep_add {x : Fp} {q : Q4} {P Q B : EP} (h : Rep q.a q.b P) (h' : Rep q.c q.d Q) (hB : P.neg.add Q = B) (hx : x * (1 - B.y) = 1 + B.y) (b1 : B.y ≠ 1) (b2 : B.y ≠ -1) : Rep (stepF x q).c (stepF x q).d (P.add Q) := by
  obtain ⟨l, hl, ha, hb⟩ := h
  obtain ⟨m, hm, hc, hd⟩ := h'
  have hY3 := addY_eq P Q
  have hY0 := addY_eq P.neg Q
  have n3 := ed_neg P Q
  have n0 := ed_neg P.neg Q
  have e0 : addY P.neg Q = B.y := by rw [← hB]; rfl
  have ex : P.neg.x = -P.x := rfl
  have ey : P.neg.y = P.y := rfl
  rw [e0, ex, ey] at hY0
  rw [ex, ey] at n0
  have df := ed_diff dE eE P.x P.y Q.x Q.y de_rel P.e Q.e
  have k := diff_eq q.a q.b q.c q.d P.y Q.y x l m ha hb hc hd
  have hy3 : (P.add Q).y = addY P Q := rfl
  have c1 := P.h
  have c2 := Q.h
  unfold Rep
  rw [hy3]
  have s1 : (stepF x q).c = 16 * (l * l * (m * m)) * ((P.y + Q.y) * (P.y + Q.y)) := k.1
  have s2 : (stepF x q).d = 16 * (l * l * (m * m)) * (x * ((Q.y - P.y) * (Q.y - P.y))) := k.2
  rw [s1, s2]
  have nK : 16 * (l * l * (m * m)) ≠ 0 := fprod sixteen_ne (fprod (fprod hl hl) (fprod hm hm))
  generalize 16 * (l * l * (m * m)) = K at *
  clear k s1 s2 ha hb hc hd hm hl hB e0 ex ey
  generalize addY P Q = Y3 at *
  generalize B.y = Y0 at *
  generalize P.x = x1 at *
  generalize P.y = y1 at *
  generalize Q.x = x2 at *
  generalize Q.y = y2 at *
  generalize dE = d at *
  have nb : 1 - Y0 ≠ 0 := by
    intro e; apply b1; grind (splits := 0) (ringSteps := 1000000) -lia -linarith
  have nx : x ≠ 0 := by
    intro e
    apply b2
    rw [e] at hx
    grind (splits := 0) (ringSteps := 1000000) -lia -linarith
  -- the relation of the two
  have rel : (y1 + y2) * (y1 + y2) * (1 - Y3) = x * ((y2 - y1) * (y2 - y1)) * (1 + Y3) := by
    refine fcancel (fprod nb (fprod n3 n0)) ?_
    have u1 := dn1 _ _ _ hY3
    have u2 := dn2 _ _ _ hY3
    have u3 := dn1 _ _ _ hY0
    have u4 := dn2 _ _ _ hY0
    rw [dn3, dn4, u1, u2, u3, u4, ← hx] at df
    exact dn5 _ _ _ _ _ _ _ df
  have i2 := finv_cancel two_ne
  have relK : K * ((y1 + y2) * (y1 + y2)) * (1 - Y3) = K * (x * ((y2 - y1) * (y2 - y1))) * (1 + Y3) := by
    rw [fmul_assoc, rel, ← fmul_assoc]
  have k6 := dn6 _ _ (finv 2) _ relK i2
  refine ⟨_, ?_, k6.1, k6.2⟩
  intro e
  have e1 := dn8 _ _ _ relK (dn7 _ _ _ i2 e)
  clear k6 relK rel df hY3 n3 n0 hy3
  rcases fzero e1.1 with z1 | z1
  · exact two_ne z1
  rcases fzero z1 with z1 | z1
  · exact nK z1
  rcases fzero e1.2 with z2 | z2
  · exact two_ne z2
  rcases fzero z2 with z2 | z2
  · exact nK z2
  rcases fzero z2 with z2 | z2
  · exact nx z2
  obtain ⟨v1, v2⟩ := dn9 _ _ (fsq z1) (fsq z2)
  rcases fzero v1 with v1 | v1
  · exact two_ne v1
  rcases fzero v2 with v2 | v2
  · exact two_ne v2
  rw [v1, v2] at hY0
  rw [v2] at c1
  rw [v1] at c2
  have t2 := dn10 _ _ _ _ c1 c2 hY0
  rcases fzero t2 with t2 | t2
  · exact b1 (dn11 _ t2)
  · exact b2 (dn12 _ t2)
def uOf (P : EP) : Fp := (1 + P.y) * finv (1 - P.y)
theorem lad_mul {B : EP} {x : Fp} (hx : x * (1 - B.y) = 1 + B.y) (b1 : B.y ≠ 1) (b2 : B.y ≠ -1) (k : Nat) : ∀ (n : Nat) (q : Q4), Rep q.a q.b (B.mul (k / 2 ^ n)) → Rep q.c q.d (B.mul (k / 2 ^ n + 1)) →
    Rep (ladF k x n q).a (ladF k x n q).b (B.mul k)
  | 0, q, h, _ => by
    rw [Nat.pow_zero, Nat.div_one] at h
    exact h
  | n + 1, q, h, h' => by
    unfold ladF bitF
    rw [bit_cast]
    have e : k / 2 ^ n = k / 2 ^ (n + 1) + k / 2 ^ (n + 1) + k / 2 ^ n % 2 := by
      rw [Nat.pow_succ, ← Nat.div_div_eq_div_mul]; omega
    generalize hm : k / 2 ^ (n + 1) = m at *
    have hd : (B.mul m).neg.add (B.mul (m + 1)) = B := add_left_neg (B.mul m) B
    have r1 := rep_add h h' hd hx b1 b2
    have e1 : (B.mul m).add (B.mul (m + 1)) = B.mul (m + m + 1) := by rw [← mul_add']; congr 1
    rw [e1] at r1
    rcases Nat.mod_two_eq_zero_or_one (k / 2 ^ n) with hb | hb
    · rw [hb] at e
      have hb' : (k / 2 ^ n % 2 == 1) = false := by rw [hb]; rfl
      rw [hb', cond_false]
      refine lad_mul hx b1 b2 k n (stepF x q) ?_ ?_
      · rw [e]
        have := rep_dbl (x := x) h
        rw [← mul_add'] at this
        exact this
      · rw [e]
        exact r1
    · rw [hb] at e
      have hb' : (k / 2 ^ n % 2 == 1) = true := by rw [hb]; rfl
      rw [hb', cond_true]
      refine lad_mul hx b1 b2 k n (stepF x q.swap).swap ?_ ?_
      · rw [e]
        show Rep (stepF x q.swap).c (stepF x q.swap).d _
        rw [(stepF_swap x q).1, (stepF_swap x q).2]
        exact r1
      · rw [e]
        show Rep (stepF x q.swap).a (stepF x q.swap).b _
        have := rep_dbl (x := x) (q := q.swap) h'
        rw [← mul_add'] at this
        have e2 : m + m + 1 + 1 = m + 1 + (m + 1) := by omega
        rw [e2]
        exact this
theorem uOf_eq {B : EP} (b1 : B.y ≠ 1) : uOf B * (1 - B.y) = 1 + B.y := by
  have n : 1 - B.y ≠ 0 := by
    intro e; apply b1
    generalize B.y = y at *
    grind (splits := 0) (ringSteps := 1000000) -lia -linarith
  have c := finv_cancel n
  unfold uOf
  generalize finv (1 - B.y) = i at *
  generalize B.y = y at *
  grind (splits := 0) (ringSteps := 1000000) -lia -linarith
theorem xF_mul {B : EP} (b1 : B.y ≠ 1) (b2 : B.y ≠ -1) {k : Nat} (hk : k < 2 ^ 255) : xF k (uOf B) = ((uOf (B.mul k)).val : Int) := by
  have hx := uOf_eq b1
  have h0 : k / 2 ^ 255 = 0 := Nat.div_eq_of_lt hk
  have i2 := finv_cancel two_ne
  have nb : 1 - B.y ≠ 0 := by
    intro e; apply b1
    generalize B.y = y at *
    grind (splits := 0) (ringSteps := 1000000) -lia -linarith
  have ib := finv_cancel nb
  have r := lad_mul hx b1 b2 k 255 ⟨1, 0, uOf B, 1⟩ (by
    rw [h0]
    refine ⟨finv 2, ?_, ?_, ?_⟩
    · intro e; rw [e] at i2; exact one_ne (i2.symm.trans (by grind (splits := 0) (ringSteps := 1000000) -lia -linarith))
    · show 1 = finv 2 * (1 + 1)
      generalize finv 2 = i at *
      grind (splits := 0) (ringSteps := 1000000) -lia -linarith
    · show 0 = finv 2 * (1 - 1)
      generalize finv 2 = i at *
      grind (splits := 0) (ringSteps := 1000000) -lia -linarith) (by
    rw [h0]
    show Rep (uOf B) 1 (EP.O.add B)
    rw [zero_add']
    refine ⟨finv (1 - B.y), ?_, ?_, ?_⟩
    · intro e; rw [e] at ib; exact one_ne (ib.symm.trans (by grind (splits := 0) (ringSteps := 1000000) -lia -linarith))
    · unfold uOf
      generalize finv (1 - B.y) = i at *
      generalize B.y = y at *
      grind (splits := 0) (ringSteps := 1000000) -lia -linarith
    · generalize finv (1 - B.y) = i at *
      generalize B.y = y at *
      grind (splits := 0) (ringSteps := 1000000) -lia -linarith)
  obtain ⟨l, hl, ha, hb⟩ := r
  have il := finv_cancel hl
  unfold xF
  rw [ha, hb]
  have : l * (1 + (B.mul k).y) * finv (l * (1 - (B.mul k).y)) = uOf (B.mul k) := by
    unfold uOf
    rw [finv_mul]
    generalize finv l = i at *
    generalize finv (1 - (B.mul k).y) = j at *
    generalize (B.mul k).y = y at *
    grind (splits := 0) (ringSteps := 1000000) -lia -linarith
  rw [this]
theorem uOf_zero {P : EP} (h : P.y = 1 ∨ P.y = -1) : uOf P = 0 := by
  unfold uOf
  rcases h with h | h <;> rw [h]
  · have e : (1 : Fp) - 1 = 0 := by grind (splits := 0) (ringSteps := 1000000) -lia -linarith
    rw [e, finv_zero]; grind (splits := 0) (ringSteps := 1000000) -lia -linarith
  · generalize finv (1 - -1) = i
    grind (splits := 0) (ringSteps := 1000000) -lia -linarith
theorem x_zero {P : EP} (h : P.y = 1 ∨ P.y = -1) : P.x = 0 := by
  have c := P.h
  have hd : 1 + dE ≠ 0 := by decide +kernel
  have e : (1 + dE) * (P.x * P.x) = 0 := by
    rcases h with h | h <;> rw [h] at c <;> generalize dE = d at * <;> generalize P.x = x at * <;> grind (splits := 0) (ringSteps := 1000000) -lia -linarith
  rcases fzero e with e | e
  · exact absurd e hd
  · exact fsq e
theorem two_O {P : EP} (h : P.y = 1 ∨ P.y = -1) : P.add P = EP.O := by
  have hx := x_zero h
  apply EP.ext
  · have k := addX_eq P P
    have n := ed_pos P P
    show addX P P = 0
    refine fcancel n ?_
    rw [k, hx]
    generalize P.y = y
    grind (splits := 0) (ringSteps := 1000000) -lia -linarith
  · have k := addY_eq P P
    have n := ed_neg P P
    show addY P P = 1
    refine fcancel n ?_
    rw [k, hx]
    rcases h with h | h <;> rw [h] <;> generalize dE = d <;> grind (splits := 0) (ringSteps := 1000000) -lia -linarith
/-- The ladder's answer, whatever the point, for an even number. -/
theorem xF_even (B : EP) {k j : Nat} (hk : k < 2 ^ 255) (hj : k = 2 * j) : xF k (uOf B) = ((uOf (B.mul k)).val : Int) := by
  by_cases b1 : B.y = 1 ∨ B.y = -1
  · rw [uOf_zero b1, xF_zero, hj, mul_mul']
    have e : B.mul 2 = EP.O := by
      show (EP.O.add B).add B = EP.O
      rw [zero_add', two_O b1]
    rw [e, mul_O]
    rw [uOf_zero (P := EP.O) (.inl rfl)]
    rfl
  · exact xF_mul (fun e => b1 (.inl e)) (fun e => b1 (.inr e)) hk
def B0 : EP := ⟨⟨42783823269122696939284341094755422415180979639778424813682678720006717057747, by decide⟩, ⟨46316835694926478169428394003475163141307993866256225615783033603165251855960, by decide⟩, by decide +kernel⟩
theorem B0_ne : B0.y ≠ 1 ∧ B0.y ≠ -1 := by decide +kernel
theorem B0_u : uOf B0 = toF 9 := by
  have h := uOf_eq B0_ne.1
  have n : 1 - B0.y ≠ 0 := by decide +kernel
  refine fcancel n ?_
  rw [h]
  decide +kernel
theorem toF_fval (a : Fp) : toF (a.val : Int) = a := by
  apply toF_ext
  rw [toF_val]
  have : (a.val : Int) < pP := by rw [pP_N]; exact Int.ofNat_lt.mpr a.isLt
  exact Int.emod_eq_of_lt (Int.natCast_nonneg _) this
theorem clamp_nat (k : Int) : ∃ j : Nat, clampN k = ((2 * j : Nat) : Int) ∧ 2 * j < 2 ^ 255 ∧ ∃ i : Nat, 2 * j = 8 * i ∧ 2 ^ 251 ≤ i ∧ i < 2 ^ 252 := by
  have h : 0 ≤ clampN k ∧ clampN k < 57896044618658097711785492504343953926634992332820282019728792003956564819968 ∧ clampN k % 8 = 0 ∧ 28948022309329048855892746252171976963317496166410141009864396001978282409984 ≤ clampN k := by
    unfold clampN; omega
  generalize clampN k = c at *
  refine ⟨(c / 2).toNat, by omega, by omega, (c / 8).toNat, by omega, by omega, by omega⟩
end Go.Proofs.Ytkjbjgkjplmkhaa.Vm

namespace Go.Proofs.Ytkjbjgkjplmkhaa.Vm
open Go Go.Proofs Go.Proofs.Ytkjbjgkjplmkhaa
def cN (k : Int) : Nat := (clampN k).toNat
theorem clamp_cast (k : Int) : clampN k = (cN k : Int) ∧ ∃ j, cN k = 2 * j ∧ cN k < 2 ^ 255 := by
  obtain ⟨j, h1, h2, _⟩ := clamp_nat k
  have : cN k = 2 * j := by unfold cN; rw [h1, Int.toNat_natCast]
  exact ⟨by rw [this]; exact h1, j, this, by rw [this]; exact h2⟩
theorem fval_mod (a : Fp) : toF ((a.val : Int) % 57896044618658097711785492504343953926634992332820282019728792003956564819968) = a := by
  have : (a.val : Int) < pP := by rw [pP_N]; exact Int.ofNat_lt.mpr a.isLt
  rw [Int.emod_eq_of_lt (Int.natCast_nonneg _) (Int.lt_trans this (by decide)), toF_fval]
/-- X of a point's number: that of a multiple. -/
theorem x_ed (k : Int) (Q : EP) : PureF Try.prog 30 [(.aggi .u8 (W.bts k)), (.aggi .u8 (W.bts ((uOf Q).val : Int)))] (.aggi .u8 (W.bts ((uOf (Q.mul (cN k))).val : Int))) := by
  have h := x_ok k ((uOf Q).val : Int)
  obtain ⟨hc, j, hj, hlt⟩ := clamp_cast k
  rw [fval_mod, hc, xF_even Q hlt hj] at h
  exact h
theorem pub_ed (k : Int) : PureF Try.prog 32 [(.aggi .u8 (W.bts k))] (.aggi .u8 (W.bts ((uOf (B0.mul (cN k))).val : Int))) := by
  have h := public_ok k
  obtain ⟨hc, j, hj, hlt⟩ := clamp_cast k
  rw [← B0_u, hc, xF_even B0 hlt hj] at h
  exact h
theorem comm_ed (P : EP) (a b : Nat) : (P.mul a).mul b = (P.mul b).mul a := by rw [← mul_mul', ← mul_mul', Nat.mul_comm]
theorem curveAgrees_ok (a b : Int) : PureF Try.prog 11 [(.aggi .u8 (W.bts a)), (.aggi .u8 (W.bts b))] (.c (.bool true)) := by
  have c3 := x_ed a (B0.mul (cN b))
  have c7 := x_ed b (B0.mul (cN a))
  rw [comm_ed] at c3
  exact run11 a b _ _ _ _ true (pub_ed b) c3 (pub_ed a) c7 curveKnown_ok (by simp)
theorem curveThree_ok {a b c : Int} (ha : I64 a) (hb : I64 b) (hc : I64 c) : PureF Try.prog 12 [(.c (.int .i64 a)), (.c (.int .i64 b)), (.c (.int .i64 c))] (.c (.bool true)) := by
  have _ := ha; have _ := hb; have _ := hc
  obtain ⟨x, c1⟩ := secret_ok a
  obtain ⟨y, c3⟩ := secret_ok b
  obtain ⟨z, c5⟩ := secret_ok c
  have c9 := x_ed y (B0.mul (cN z))
  have c11 := x_ed x ((B0.mul (cN z)).mul (cN y))
  have c16 := x_ed x (B0.mul (cN y))
  have c18 := x_ed z ((B0.mul (cN y)).mul (cN x))
  have c23 := x_ed z (B0.mul (cN x))
  have c25 := x_ed y ((B0.mul (cN x)).mul (cN z))
  have e1 : ((B0.mul (cN y)).mul (cN x)).mul (cN z) = ((B0.mul (cN z)).mul (cN y)).mul (cN x) := by
    rw [comm_ed _ (cN x) (cN z), comm_ed B0 (cN y) (cN z)]
  have e2 : ((B0.mul (cN x)).mul (cN z)).mul (cN y) = ((B0.mul (cN z)).mul (cN y)).mul (cN x) := by
    rw [comm_ed _ (cN z) (cN y), comm_ed B0 (cN x) (cN y), comm_ed _ (cN x) (cN z), comm_ed B0 (cN y) (cN z)]
  rw [e1] at c18
  rw [e2] at c25
  exact run12 a b c _ _ _ _ _ _ _ _ _ _ _ _ c1 c3 c5 (pub_ed z) c9 c11 curveKnown_ok (pub_ed y) c16 c18 (by simp [W.bts]) (pub_ed x) c23 c25 (by simp [W.bts])
end Go.Proofs.Ytkjbjgkjplmkhaa.Vm
