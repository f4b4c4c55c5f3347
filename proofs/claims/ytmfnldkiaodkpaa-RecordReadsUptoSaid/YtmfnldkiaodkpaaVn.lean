/- What functions of the program come to: parts of the walk (Vn). -/
import Derived.Test.YtmfnldkiaodkpaaVmc
set_option linter.unusedSimpArgs false
set_option linter.unusedVariables false
/- A nil slice in a cell of a block, told as a row of nothing over a block of its own. -/
namespace Go.Proofs.Ytmfnldkiaodkpaa.Vm
open Go
variable {P : Program} {φ φ' : Phi}
theorem look_putE1 {m : Mem} {B : Nat} {k' : Blk} {b i : Nat} {k : Blk} (h : look (putE m B (.one k')) b i = some k) : (b = B ∧ i = 0 ∧ k = k') ∨ (b ≠ B ∧ look m b i = some k) := by
  unfold look at h
  rw [ent_putE] at h
  by_cases hb : b = B
  · rw [if_pos hb] at h
    simp only [Ent.at] at h
    cases hi : Nat.beq i 0 with
    | false => rw [hi] at h; simp at h
    | true => rw [hi] at h; simp only [cond_true] at h; injection h with h; exact .inl ⟨hb, Nat.eq_of_beq_eq_true hi, h.symm⟩
  · rw [if_neg hb] at h
    exact .inr ⟨hb, by unfold look; exact h⟩
theorem CodeOk.wnilC {nt n0 : Nat} {k : K} {tm : Tm} {me : Mem} {nx nx' : Nat} {s' : S0} {x : Ex} (B j es c : Nat) (bd : Body) {o e : Bool} {L : List C} (hlen : bd.len = 0) (hc : nx ≤ c) (hx : c < nx') (hcB : ¬ c = B)
    (hB : look me B 0 = some ⟨o, e, .cells L⟩) (hj : L[j]? = some .nils)
    (h : CodeOk P nt n0 k ⟨tm, (c, .one ⟨true, false, bd⟩) :: putE me B (.one ⟨o, e, .cells (L.set j (.sl c 0 0 0 es))⟩), nx'⟩ x s') : CodeOk P nt n0 k ⟨tm, me, nx⟩ x s' := by
  intro Γ cd hP hnt hn0 hf0 hcd φ a w R hf
  let φ1 : Phi := fun b i => if b = c ∧ i = 0 then some ⟨0, 0, 0, true⟩ else φ b i
  have hle : φ.le φ1 := by
    intro b i l hl
    have : ¬ (b = c ∧ i = 0) := fun e => by
      have := hf.1 b (by show nx ≤ b; omega) i
      rw [hl] at this; simp at this
    show (if b = c ∧ i = 0 then _ else φ b i) = some l
    rw [if_neg this]; exact hl
  have hc1 : φ1 c 0 = some ⟨0, 0, 0, true⟩ := by show (if c = c ∧ 0 = 0 then _ else _) = _; rw [if_pos ⟨rfl, rfl⟩]
  have hlook : ∀ {b i : Nat} {k1 : Blk}, look ((c, Ent.one ⟨true, false, bd⟩) :: putE me B (.one ⟨o, e, .cells (L.set j (.sl c 0 0 0 es))⟩)) b i = some k1 →
      (b = c ∧ i = 0 ∧ k1 = ⟨true, false, bd⟩) ∨ (b = B ∧ i = 0 ∧ k1 = ⟨o, e, .cells (L.set j (.sl c 0 0 0 es))⟩) ∨ look me b i = some k1 := by
    intro b i k1 hk
    unfold look at hk
    simp only [ent] at hk
    by_cases hb : c = b
    · subst hb
      simp only [Nat.beq_refl, cond_true, Ent.at] at hk
      cases hi : Nat.beq i 0 with
      | false => rw [hi] at hk; simp at hk
      | true => rw [hi] at hk; simp only [cond_true] at hk; injection hk with hk; exact .inl ⟨rfl, Nat.eq_of_beq_eq_true hi, hk.symm⟩
    · rw [beqF hb] at hk
      have hk' : look (putE me B (.one ⟨o, e, .cells (L.set j (.sl c 0 0 0 es))⟩)) b i = some k1 := by unfold look; exact hk
      rcases look_putE1 hk' with h1 | ⟨_, h1⟩
      · exact .inr (.inl h1)
      · exact .inr (.inr h1)
  -- what stood there
  have hold : ∀ {b i : Nat} {k1 : Blk} {l : Loc}, look ((c, Ent.one ⟨true, false, bd⟩) :: putE me B (.one ⟨o, e, .cells (L.set j (.sl c 0 0 0 es))⟩)) b i = some k1 → φ1 b i = some l → 0 < l.sz →
      ∃ k0, look me b i = some k0 ∧ φ b i = some l := by
    intro b i k1 l hk hl hz
    rcases hlook hk with ⟨rfl, rfl, rfl⟩ | ⟨rfl, rfl, rfl⟩ | hk
    · rw [hc1] at hl; injection hl with hl; subst hl; simp at hz
    · obtain ⟨l1, hl1, _⟩ := R.mem.blk b 0 _ hB
      have := hle _ _ _ hl1
      rw [hl] at this; injection this with this; subst this
      exact ⟨_, hB, hl1⟩
    · obtain ⟨l1, hl1, _⟩ := R.mem.blk b i k1 hk
      have := hle _ _ _ hl1
      rw [hl] at this; injection this with this; subst this
      exact ⟨_, hk, hl1⟩
  have hn0' : Γ.n0 ≤ nx := hf.2
  refine h Γ cd hP hnt hn0 hf0 hcd φ1 a w ⟨fun b i l hl => hle _ _ _ (R.le _ _ _ hl), ⟨?_, ?_, ?_⟩, ?_, R.keeps, ?_, R.size, R.defers, ?_⟩ ⟨?_, by show Γ.n0 ≤ nx'; omega⟩
  · intro g
    obtain ⟨l, h1, h2⟩ := R.mem.glob g
    exact ⟨l, hle _ _ _ h1, h2⟩
  · intro b i k1 hk
    rcases hlook hk with ⟨rfl, rfl, rfl⟩ | ⟨rfl, rfl, rfl⟩ | hk
    · refine ⟨_, hc1, rfl, ?_, fun h => by simp at h, fun h => by simp at h, fun j hj => ?_, fun _ j hj => by simp at hj⟩
      · show 0 + bd.len ≤ 0; rw [hlen]; exact Nat.le_refl _
      · have : j < bd.len := hj
        omega
    · obtain ⟨l, hl, hRB⟩ := R.mem.blk b 0 _ hB
      have hll : (Blk.mk o e (.cells (L.set j (.sl c 0 0 0 es)))).len = (Blk.mk o e (.cells L)).len := by show (L.set j _).length = L.length; exact List.length_set ..
      refine ⟨l, hle _ _ _ hl, hRB.own, by rw [hll]; exact hRB.fits, fun h => by rw [hll]; exact hRB.exact h, hRB.there, fun q hq => ?_, hRB.free⟩
      rw [hll] at hq
      obtain ⟨v, h3, h4⟩ := hRB.cell q hq
      refine ⟨v, h3, ?_⟩
      have h4 : RC φ (L.getD q .unk) v := h4
      show RC φ1 ((L.set j (.sl c 0 0 0 es)).getD q .unk) v
      by_cases hqj : q = j
      · subst hqj
        have hlt : q < L.length := hq
        rw [List.getD_eq_getElem?_getD, hj] at h4
        have h4 : v = .slice none 0 0 := h4
        rw [List.getD_eq_getElem?_getD, List.getElem?_set_self hlt]
        exact ⟨none, 0, h4, Nat.le_refl _, .inl rfl⟩
      · rw [List.getD_eq_getElem?_getD, List.getElem?_set_ne (fun e => hqj e.symm), ← List.getD_eq_getElem?_getD]
        exact h4.mono hle
    · obtain ⟨l, hl, hRB⟩ := R.mem.blk b i k1 hk
      exact ⟨l, hle _ _ _ hl, hRB.own, hRB.fits, hRB.exact, hRB.there, fun j hj => by
        obtain ⟨v, h3, h4⟩ := hRB.cell j hj
        exact ⟨v, h3, h4.mono hle⟩, hRB.free⟩
  · intro b i k1 l b' i' k2 l' hk hk' hl hl' ho hz hz' heq
    obtain ⟨_, q1, p1⟩ := hold hk hl hz
    obtain ⟨_, q2, p2⟩ := hold hk' hl' hz'
    exact R.mem.inj _ _ _ _ _ _ _ _ q1 q2 p1 p2 ho hz hz' heq
  · intro n
    rcases R.tmp n with h1 | ⟨x, h1, h2⟩
    · exact .inl h1
    · exact .inr ⟨x, h1, h2.mono hle⟩
  · intro b i k1 l hk hl ho hz
    obtain ⟨k0, q1, p1⟩ := hold hk hl hz
    exact R.owned b i k0 l q1 p1 ho hz
  · intro b i l hl
    by_cases hb : b = c ∧ i = 0
    · exact .inr (by rw [hb.1]; show Γ.n0 ≤ c; omega)
    · have : φ1 b i = φ b i := by show (if b = c ∧ i = 0 then _ else _) = _; rw [if_neg hb]
      rw [this] at hl; exact R.new b i l hl
  · intro b hb i
    have hb' : nx' ≤ b := hb
    show (if b = c ∧ i = 0 then _ else φ b i) = none
    rw [if_neg (by omega)]
    exact hf.1 b (by show nx ≤ b; omega) i
end Go.Proofs.Ytmfnldkiaodkpaa.Vm
