/- What functions of the program come to: parts of the walk (Vmc). -/
import Derived.Test.YtohleiikedpmkaaVmb
import Derived.Deep.Matrix
import Derived.ChangeSlices
import Derived.OpenShut
import Derived.ChangeOld
import Derived.SizedLaws
import Derived.WalkKit
import Derived.ProofKit
import Derived.Deep.Slices
set_option linter.unusedSimpArgs false
set_option linter.unusedVariables false
namespace Go.Proofs.Ytohleiikedpmkaa.Vm
open Go
variable {P : Program}
def exOff : Mem → Mem
  | [] => []
  | (b, .one k) :: r => (b, .one ⟨k.own, false, k.body⟩) :: exOff r
  | (b, .many f) :: r => (b, .many f) :: exOff r
theorem look_exOff {b i : Nat} : ∀ {m : Mem} {k' : Blk}, look (exOff m) b i = some k' → ∃ k, look m b i = some k ∧ k'.own = k.own ∧ (k'.ex = true → k.ex = true) ∧ k'.body = k.body
  | [], _, h => by simp [exOff, look, ent] at h
  | (c, e) :: r, k', h => by
    unfold look at h ⊢
    cases e with
    | one k =>
      simp only [exOff, ent] at h ⊢
      by_cases hc : c = b
      · subst hc
        simp only [Nat.beq_refl, cond_true, Ent.at] at h ⊢
        cases hi : Nat.beq i 0 with
        | false => rw [hi] at h; simp at h
        | true =>
          rw [hi] at h; simp only [cond_true] at h ⊢
          injection h with h; subst h
          exact ⟨k, rfl, rfl, fun h => by simp at h, rfl⟩
      · rw [beqF hc] at h ⊢
        simp only [cond_false] at h ⊢
        exact look_exOff (m := r) (by unfold look; exact h)
    | many f =>
      simp only [exOff, ent] at h ⊢
      by_cases hc : c = b
      · subst hc
        simp only [Nat.beq_refl, cond_true] at h ⊢
        exact ⟨k', h, rfl, fun h => h, rfl⟩
      · rw [beqF hc] at h ⊢
        simp only [cond_false] at h ⊢
        exact look_exOff (m := r) (by unfold look; exact h)
theorem Contract0.exact {f : Nat} {args : List V} {m : Mem} {n0 : Nat} {res : V} {kill : List Nat} {up : Mem} (hC : Contract0 P f args (exOff m) n0 res kill up) : Contract0 P f args m n0 res kill up := by
  intro φ w vals hm hf hall
  refine (hC φ w vals ⟨hm.glob, ?_, ?_⟩ hf hall).mono ?_
  · intro b i k h
    obtain ⟨k0, h0, h1, h2, h3⟩ := look_exOff h
    obtain ⟨l, hl, hB⟩ := hm.blk b i k0 h0
    have hlen : k.len = k0.len := by unfold Blk.len; rw [h3]
    exact ⟨l, hl, hB.own.trans h1.symm, by rw [hlen]; exact hB.fits, fun he => by rw [hlen]; exact hB.exact (h2 he), hB.there, fun j hj => by rw [h3]; exact hB.cell j (by rw [← hlen]; exact hj), hB.free⟩
  · intro b i k l b' i' k' l' h h' hl hl' ho hz hz' hr
    obtain ⟨k0, h0, _⟩ := look_exOff h
    obtain ⟨k1, h1, _⟩ := look_exOff h'
    exact hm.inj b i k0 l b' i' k1 l' h0 h1 hl hl' ho hz hz' hr
  · rintro e w' ⟨v, φ', he, hr, S⟩
    refine ⟨v, φ', he, hr, S.le, S.new, S.keeps.imp ?_, S.blk, ?_, S.inj⟩
    · rintro r _ ⟨b, i, k, l, hb, hk, hl, ho, hz, hr⟩
      obtain ⟨k0, h0, _⟩ := look_exOff hk
      exact ⟨b, i, k0, l, hb, h0, hl, ho, hz, hr⟩
    · intro b i k l hk hl hz
      rcases S.src b i k l hk hl hz with h | ⟨b0, i0, k0, l0, hb, hk0, hl0, ho, hz0, hr⟩
      · exact .inl h
      · obtain ⟨k1, h1, _⟩ := look_exOff hk0
        exact .inr ⟨b0, i0, k1, l0, hb, h1, hl0, ho, hz0, hr⟩
end Go.Proofs.Ytohleiikedpmkaa.Vm

namespace Go.Proofs.Ytohleiikedpmkaa.Vm
open Go
variable {P : Program} {φ φ' : Phi} {m : Mem} {w w' : World}
inductive It where
  | b (s d : Nat) (ro : Bool) (fl : List (Nat × Nat × Nat) := [])
  | z (d : Nat) (k : Body)
def itT : List It → Th3
  | [] => []
  | .b s d ro _ :: r => (s, d, ro) :: itT r
  | .z _ _ :: r => itT r
def itD : List It → List Nat
  | [] => []
  | .b _ _ _ _ :: r => itD r
  | .z d _ :: r => d :: itD r
def fillC1 (fl : List (Nat × Nat × Nat)) (j : Nat) : C → C
  | .nils => (match fl.find? fun x => Nat.beq x.1 j with | some (_, d, es) => .sl d 0 0 0 es | none => .nils)
  | c => c
def fillCs (fl : List (Nat × Nat × Nat)) : Nat → List C → List C
  | _, [] => []
  | j, c :: r => fillC1 fl j c :: fillCs fl (j + 1) r
def fillB (fl : List (Nat × Nat × Nat)) : Body → Body
  | .cells l => (match fl with | [] => .cells l | _ => .cells (fillCs fl 0 l))
  | b => b
def itM (th : Th) (m : Mem) : List It → Mem
  | [] => []
  | .b s d ro fl :: r => match ent m s with
    | some (.one k) => (d, .one ⟨bif ro then false else k.own, bif ro then false else k.ex, normBody (fillB fl (renBody th 0 k.body))⟩) :: itM th m r
    | some (.many f) => (d, .many fun i => match f i with | some k => some ⟨bif ro then false else k.own, bif ro then false else k.ex, normBody (renBody th 0 k.body)⟩ | none => none) :: itM th m r
    | _ => itM th m r
  | .z d k :: r => bif Nat.beq k.len 0 then (d, .one ⟨false, false, k⟩) :: itM th m r else itM th m r
def Phi.viaN (φ : Phi) (t : Th3) (ds : List Nat) : Phi := fun b i =>
  match φ.via t b i with
  | some l => some l
  | none => if b ≠ 0 ∧ (findD b t).isNone ∧ b ∈ ds ∧ i = 0 then some ⟨0, 0, 0, false⟩ else none
theorem via_le (φ : Phi) (t : Th3) (ds : List Nat) : (φ.via t).le (φ.viaN t ds) := by
  intro b i l h
  simp only [Phi.viaN, h]
def okThN (t : Th3) (ds : List Nat) (n0 : Nat) : Bool := okTh t n0 && ds.all (fun d => Nat.blt d n0 && !Nat.beq d 0 && !memN d (dsts t))
def srcOk (t : Th3) (m : Mem) (b' i : Nat) (k' : Blk) : Prop := ∃ b ro k, (b, b', ro) ∈ t ∧ look m b i = some k ∧ k'.own = (k.own && !ro) ∧ (k'.ex = true → k.ex = true) ∧ mapB (zeroP t) k.body k'.body
def viewMN (t : Th3) (ds : List Nat) (m m' : Mem) : Prop := ∀ b' i k', look m' b' i = some k' →
  srcOk t m b' i k' ∨ (b' ∈ ds ∧ i = 0 ∧ k'.own = false ∧ k'.ex = false ∧ k'.len = 0)
theorem findD_none {b : Nat} : ∀ {t : Th3}, memN b (dsts t) = false → findD b t = none
  | [], _ => rfl
  | (s, d, ro) :: r, h => by
    simp only [dsts, memN] at h
    simp only [findD]
    by_cases hd : d = b
    · subst hd; simp at h
    · rw [beqF hd] at h ⊢
      simp only [cond_false] at h ⊢
      exact findD_none h
section
variable {t : Th3} {ds : List Nat} {n0 : Nat}
theorem via_two (ht : okTh t n0 = true) (hm : RM φ m w) {b1 i1 b2 i2 : Nat} {k1 k2 : Blk} (h1 : srcOk t m b1 i1 k1) (h2 : srcOk t m b2 i2 k2) (hne : ¬ (b1 = b2 ∧ i1 = i2)) :
    ∃ M : Mem, RM (φ.via t) M w ∧ look M b1 i1 = some k1 ∧ look M b2 i2 = some k2 := by
  by_cases hb : b1 = b2
  · subst hb
    have hi : ¬ i1 = i2 := fun e => hne ⟨rfl, e⟩
    refine ⟨[(b1, .many fun j => bif Nat.beq j i1 then some k1 else bif Nat.beq j i2 then some k2 else none)], RM.via ht hm ?_, ?_, ?_⟩
    · intro c j k3 h3
      unfold look at h3
      simp only [ent] at h3
      by_cases hc : b1 = c
      · subst hc
        simp only [Nat.beq_refl, cond_true, Ent.at] at h3
        by_cases hj : j = i1
        · subst hj; simp at h3; subst h3; exact h1
        · rw [beqF hj] at h3; simp only [cond_false] at h3
          by_cases hj2 : j = i2
          · subst hj2; simp at h3; subst h3; exact h2
          · rw [beqF hj2] at h3; simp at h3
      · rw [beqF hc] at h3; simp at h3
    · unfold look; simp [ent, Ent.at]
    · unfold look; simp only [ent, Nat.beq_refl, cond_true, Ent.at]
      rw [beqF (fun e => hi e.symm)]; simp
  · refine ⟨[(b1, .many fun j => bif Nat.beq j i1 then some k1 else none), (b2, .many fun j => bif Nat.beq j i2 then some k2 else none)], RM.via ht hm ?_, ?_, ?_⟩
    · intro c j k3 h3
      unfold look at h3
      simp only [ent] at h3
      by_cases hc : b1 = c
      · subst hc
        simp only [Nat.beq_refl, cond_true, Ent.at] at h3
        by_cases hj : j = i1
        · subst hj; simp at h3; subst h3; exact h1
        · rw [beqF hj] at h3; simp at h3
      · rw [beqF hc] at h3
        simp only [cond_false] at h3
        by_cases hc2 : b2 = c
        · subst hc2
          simp only [Nat.beq_refl, cond_true, Ent.at] at h3
          by_cases hj : j = i2
          · subst hj; simp at h3; subst h3; exact h2
          · rw [beqF hj] at h3; simp at h3
        · rw [beqF hc2] at h3; simp at h3
    · unfold look; simp [ent, Ent.at]
    · unfold look; simp only [ent]
      rw [beqF hb]; simp [Ent.at]
theorem via_one (ht : okTh t n0 = true) (hm : RM φ m w) {b i : Nat} {k : Blk} (h : srcOk t m b i k) : ∃ l, φ.via t b i = some l ∧ RB (φ.via t) l k w := by
  have : RM (φ.via t) [(b, .many fun j => bif Nat.beq j i then some k else none)] w := RM.via ht hm (by
    intro c j k2 h2
    unfold look at h2
    simp only [ent] at h2
    by_cases hc : b = c
    · subst hc
      simp only [Nat.beq_refl, cond_true, Ent.at] at h2
      by_cases hj : j = i
      · subst hj; simp at h2; subst h2; exact h
      · rw [beqF hj] at h2; simp at h2
    · rw [beqF hc] at h2; simp at h2)
  exact this.blk b i k (by unfold look; simp [ent, Ent.at])
theorem RM.viaN (ht : okThN t ds n0 = true) (hm : RM φ m w) {m' : Mem} (hv : viewMN t ds m m') : RM (φ.viaN t ds) m' w := by
  simp only [okThN, Bool.and_eq_true] at ht
  obtain ⟨ht, hds⟩ := ht
  have hd0 : ∀ d, d ∈ ds → d ≠ 0 ∧ findD d t = none := by
    intro d hd
    have := List.all_eq_true.1 hds d hd
    simp only [Bool.and_eq_true, Bool.not_eq_true'] at this
    refine ⟨fun e => by rw [e] at this; simp at this, findD_none this.2⟩
  have hz : ∀ d, d ∈ ds → φ.viaN t ds d 0 = some ⟨0, 0, 0, false⟩ := by
    intro d hd
    obtain ⟨h0, h1⟩ := hd0 d hd
    have : φ.via t d 0 = none := by simp only [Phi.via, if_neg h0, h1]
    simp only [Phi.viaN, this]
    rw [if_pos ⟨h0, by rw [h1]; rfl, hd, trivial⟩]
  refine ⟨fun g => ?_, fun b' i k' h => ?_, fun b1 i1 k1 l1 b2 i2 k2 l2 h1 h2 hl1 hl2 ho hz1 hz2 heq => ?_⟩
  · obtain ⟨l, h1, h2, h3⟩ := hm.glob g
    exact ⟨{ l with own := false }, via_le _ _ _ _ _ _ (by simp [Phi.via, h1]), h2, h3⟩
  · rcases hv _ _ _ h with hs | ⟨hd, rfl, hown, hex, hlen⟩
    · obtain ⟨l, hl, H⟩ := via_one ht hm hs
      exact ⟨l, via_le _ _ _ _ _ _ hl, H.own, H.fits, H.exact, H.there, fun j hj => by
        obtain ⟨v, h3, h4⟩ := H.cell j hj
        exact ⟨v, h3, h4.mono (via_le _ _ _)⟩, H.free⟩
    · refine ⟨⟨0, 0, 0, false⟩, hz b' hd, hown.symm, ?_, ?_, ?_, ?_, ?_⟩
      · show 0 + k'.len ≤ 0; rw [hlen]; exact Nat.le_refl _
      · intro he; rw [hex] at he; simp at he
      · intro h; simp at h
      · intro j hj; rw [hlen] at hj; omega
      · intro h; simp at h
  · have key : ∀ b' i k' l, look m' b' i = some k' → φ.viaN t ds b' i = some l → 0 < l.sz → srcOk t m b' i k' ∧ φ.via t b' i = some l := by
      intro b' i k' l h hl hlz
      rcases hv _ _ _ h with hs | ⟨hd, rfl, hown, hex, hlen⟩
      · obtain ⟨l', hl', _⟩ := via_one ht hm hs
        have := via_le φ t ds _ _ _ hl'
        rw [hl] at this; injection this with this; subst this
        exact ⟨hs, hl'⟩
      · rw [hz b' hd] at hl
        injection hl with hl; subst hl; simp at hlz
    obtain ⟨q1, p1⟩ := key _ _ _ _ h1 hl1 hz1
    obtain ⟨q2, p2⟩ := key _ _ _ _ h2 hl2 hz2
    by_cases hne : b1 = b2 ∧ i1 = i2
    · exact hne
    · obtain ⟨M, hM, e1, e2⟩ := via_two ht hm q1 q2 hne
      exact hM.inj _ _ _ _ _ _ _ _ e1 e2 p1 p2 ho hz1 hz2 heq
end
structure StepX (φ φ' : Phi) (m up : Mem) (wr : List Nat) (ns : List Nat) (w w' : World) : Prop where
  le : φ.le φ'
  new : ∀ b i l, φ' b i = some l → φ b i = some l ∨ b ∈ ns
  keeps : Keeps (fun r => ∃ b i k l, b ∈ wr ∧ look m b i = some k ∧ φ b i = some l ∧ l.own = true ∧ 0 < l.sz ∧ l.r = r) w w'
  blk : ∀ b i k, look up b i = some k → ∃ l, φ' b i = some l ∧ RB φ' l k w'
  src : ∀ b i k l, look up b i = some k → φ' b i = some l → 0 < l.sz → w.heap.size ≤ l.r ∨ ∃ b0 i0 k0 l0, b0 ∈ wr ∧ look m b0 i0 = some k0 ∧ φ b0 i0 = some l0 ∧ l0.own = true ∧ 0 < l0.sz ∧ l0.r = l.r
  inj : ∀ b i k l b' i' k' l', look up b i = some k → look up b' i' = some k' → φ' b i = some l → φ' b' i' = some l' → l.own = true → 0 < l.sz → 0 < l'.sz → l.r = l'.r → b = b' ∧ i = i'
def okNu0 (nu : Th) (n0 : Nat) : Bool := nodupN (fsts nu) && nodupN (snds nu) && (fsts nu).all (fun s => Nat.ble n0 s)
theorem Contract0.core {f : Nat} {args0 args : List V} {m0 : Mem} {n0 : Nat} {res0 res : V} {kill0 kill : List Nat} {up0 up : Mem} (hC : Contract0 P f args0 m0 n0 res0 kill0 up0) (t : Th3) (ds : List Nat) (nu : Th)
    (ht : okThN t ds n0 = true) (hnu : okNu0 nu n0 = true) (hv : viewMN t ds m m0) (ha : mapVs (zeroP t) args args0) (hn0 : 0 < n0)
    (hres : mapV (pairsOut t ++ nu) res0 res) (hup : viewOut (pairsOut t ++ nu) up0 up) (hkill : killOk t (kill0 ++ up0.map Prod.fst) (kill ++ up.map Prod.fst) = true)
    (φ : Phi) (w : World) (vals : List Value) (hm : RM φ m w) (hf : ∀ d ∈ snds nu, ∀ i, φ d i = none) (hall : All2 (RV φ) args vals) :
    Calls P f vals.toArray w fun e w' => ∃ v φ', e = .returned v ∧ RV φ' res v ∧ StepX φ φ' m up (kill ++ up.map Prod.fst) (snds nu) w w' := by
  have htN := ht
  simp only [okThN, Bool.and_eq_true] at ht
  obtain ⟨ht', hdsA⟩ := ht
  have ht := ht'
  simp only [okTh, Bool.and_eq_true, List.all_eq_true, Bool.not_eq_true'] at ht
  simp only [okNu0, Bool.and_eq_true, List.all_eq_true] at hnu
  obtain ⟨⟨hnf, hns⟩, hnf0⟩ := hnu
  have hd0 : ∀ {s d ro}, (s, d, ro) ∈ t → d ≠ 0 ∧ d < n0 := fun {s d ro} h => ⟨fun e => by have := (ht.2 d (mem_dsts h)).2; rw [e] at this; simp at this, Nat.lt_of_succ_le (Nat.le_of_ble_eq_true (ht.2 d (mem_dsts h)).1)⟩
  have hdd : ∀ d, d ∈ ds → d < n0 ∧ d ≠ 0 ∧ findD d t = none := by
    intro d hd
    have := List.all_eq_true.1 hdsA d hd
    simp only [Bool.and_eq_true, Bool.not_eq_true'] at this
    exact ⟨Nat.lt_of_succ_le (Nat.le_of_ble_eq_true this.1.1), fun e => by rw [e] at this; simp at this, findD_none this.2⟩
  have hnone : ∀ b i l, φ.viaN t ds b i = some l → l.own = true → φ.via t b i = some l := by
    intro b i l h ho
    unfold Phi.viaN at h
    split at h
    · rename_i l' h'; rw [h']; exact h
    · split at h
      · injection h with h; subst h; simp at ho
      · simp at h
  have hfresh : Fresh (φ.viaN t ds) n0 := by
    intro b hb i
    have hb0 : b ≠ 0 := by omega
    have h1 : findD b t = none := by
      cases hfd : findD b t with
      | none => rfl
      | some p =>
        obtain ⟨s, ro⟩ := p
        have := (hd0 (findD_mem hfd)).2
        omega
    have h2 : b ∉ ds := fun h => by have := (hdd b h).1; omega
    have h3 : φ.via t b i = none := by simp only [Phi.via, if_neg hb0, h1]
    simp only [Phi.viaN, h3]
    rw [if_neg (fun h => h2 h.2.2.1)]
  have hmoves0 : Moves (zeroP t) φ (φ.viaN t ds) := fun b b' i l hb hl => by
    obtain ⟨l', h1, h2⟩ := moves_in (φ := φ) ht' b b' i l hb hl
    exact ⟨l', via_le _ _ _ _ _ _ h1, h2⟩
  refine (hC (φ.viaN t ds) w vals (hm.viaN htN hv) hfresh (mapVs_rel hmoves0 ha hall)).mono ?_
  rintro e w' ⟨v, φ1, he, hrv, S⟩
  let φ2 : Phi := fun b i => match φ b i with | some l => some l | none => (match findN b nu with | some b0 => φ1 b0 i | none => none)
  have hle2 : φ.le φ2 := by
    intro b i l h
    show (match φ b i with | some l => some l | none => _) = some l
    rw [h]
  have hnew2 : ∀ b b0 i, (b0, b) ∈ nu → φ2 b i = φ1 b0 i := by
    intro b b0 i h
    have h1 : φ b i = none := hf b (mem_snds h) i
    show (match φ b i with | some l => some l | none => (match findN b nu with | some b0 => φ1 b0 i | none => none)) = _
    rw [h1, mem_findN hns h]
  have hold : ∀ s d i l, (s, d, false) ∈ t → φ1 d i = some l → φ s i = some l := by
    intro s d i l h h1
    rcases S.new d i l h1 with h2 | h2
    · have h3 : findD d t = some (s, false) := mem_findD ht.1.1 h
      unfold Phi.viaN at h2
      rw [via_dst ht.1.1 h (hd0 h).1] at h2
      cases hs : φ s i with
      | none => rw [hs] at h2; simp [h3] at h2
      | some l2 => rw [hs] at h2; simpa using h2
    · have := (hd0 h).2; omega
  have hmv : ∀ b0 b i l, (b0, b) ∈ pairsOut t ++ nu → φ1 b0 i = some l → φ2 b i = some l := by
    intro b0 b i l h h1
    rcases List.mem_append.1 h with h | h
    · exact hle2 _ _ _ (hold b b0 i l (mem_pairsOut h) h1)
    · rw [hnew2 b b0 i h]; exact h1
  have hmoves : Moves (pairsOut t ++ nu) φ1 φ2 := fun b0 b i l h h1 => ⟨l, hmv b0 b i l h h1, rfl, rfl, rfl, fun h => h⟩
  have alias : ∀ {r : Nat}, (∃ b0 i0 k0 l0, b0 ∈ kill0 ++ up0.map Prod.fst ∧ look m0 b0 i0 = some k0 ∧ φ.viaN t ds b0 i0 = some l0 ∧ l0.own = true ∧ 0 < l0.sz ∧ l0.r = r) → ∃ b i k l, b ∈ kill ++ up.map Prod.fst ∧ look m b i = some k ∧ φ b i = some l ∧ l.own = true ∧ 0 < l.sz ∧ l.r = r := by
    rintro r ⟨b0, i0, k0, l0, h1, h2, h3, h4, h5, h6⟩
    have h3 := hnone _ _ _ h3 h4
    rcases hv _ _ _ h2 with ⟨b, ro, k, hmem, hk, _, _, _⟩ | ⟨hd, _⟩
    · rw [via_dst ht.1.1 hmem (hd0 hmem).1] at h3
      obtain ⟨l, hl, e⟩ := Option.map_eq_some_iff.1 h3
      have hro : ro = false := by cases ro with | false => rfl | true => simp at e; rw [← e] at h4; simp at h4
      subst hro
      simp at e
      subst e
      exact ⟨b, i0, k, l, killOk_get hkill h1 (mem_findD ht.1.1 hmem), hk, hl, h4, h5, h6⟩
    · obtain ⟨_, hb0, hfd⟩ := hdd b0 hd
      simp only [Phi.via, if_neg hb0, hfd] at h3
      simp at h3
  refine ⟨v, φ2, he, mapV_rel hmoves hres hrv, hle2, ?_, ?_, ?_, ?_, ?_⟩
  · intro b i l h
    cases hb : φ b i with
    | some l' =>
      have := hle2 _ _ _ hb
      rw [h] at this
      exact .inl this.symm
    | none =>
      right
      have h' : (match φ b i with | some l => some l | none => (match findN b nu with | some b0 => φ1 b0 i | none => none)) = some l := h
      rw [hb] at h'
      simp only at h'
      cases hn : findN b nu with
      | none => rw [hn] at h'; simp at h'
      | some b0 => exact mem_snds (findN_mem hn)
  · exact S.keeps.imp fun r _ h => alias h
  · intro b i k h
    obtain ⟨b0, k0, hb, hk0, hown, hex, hbody⟩ := hup _ _ _ h
    obtain ⟨l, hl, H⟩ := S.blk _ _ _ hk0
    obtain ⟨hlen, hget⟩ := mapB_get hbody
    refine ⟨l, hmv _ _ _ _ hb hl, by rw [hown]; exact H.own, ?_, fun he => ?_, H.there, fun j hj => ?_, H.free⟩
    · show l.s + k.body.len ≤ l.sz; rw [← hlen]; exact H.fits
    · obtain ⟨q1, q2⟩ := H.exact (hex he); exact ⟨q1, by rw [q2]; exact hlen⟩
    · have hj' : j < k0.body.len := by rw [hlen]; exact hj
      obtain ⟨v, hv1, hv2⟩ := H.cell j hj'
      exact ⟨v, hv1, mapC_rel hmoves (hget j hj') hv2⟩
  · intro b i k l h hl hz
    obtain ⟨b0, k0, hb, hk0, hown, hex, hbody⟩ := hup _ _ _ h
    obtain ⟨l1, hl1, H⟩ := S.blk _ _ _ hk0
    have := hmv _ _ _ _ hb hl1
    rw [hl] at this
    injection this with this
    subst this
    rcases S.src _ _ _ _ hk0 hl1 hz with h1 | h1
    · exact .inl h1
    · obtain ⟨b', i', k', l', q1, q2, q3, q4, q5, q6⟩ := alias h1
      exact .inr ⟨b', i', k', l', q1, q2, q3, q4, q5, q6⟩
  · intro b i k l b' i' k' l' h h' hl hl' ho hz hz' heq
    obtain ⟨b0, k0, hb, hk0, _, _, _⟩ := hup _ _ _ h
    obtain ⟨b0', k0', hb', hk0', _, _, _⟩ := hup _ _ _ h'
    obtain ⟨l1, hl1, _⟩ := S.blk _ _ _ hk0
    obtain ⟨l1', hl1', _⟩ := S.blk _ _ _ hk0'
    have e1 := hmv _ _ _ _ hb hl1
    rw [hl] at e1; injection e1 with e1; subst e1
    have e2 := hmv _ _ _ _ hb' hl1'
    rw [hl'] at e2; injection e2 with e2; subst e2
    obtain ⟨rfl, rfl⟩ := S.inj _ _ _ _ _ _ _ _ hk0 hk0' hl1 hl1' ho hz hz' heq
    refine ⟨?_, rfl⟩
    rcases List.mem_append.1 hb with q | q <;> rcases List.mem_append.1 hb' with q' | q'
    · have := mem_findD ht.1.1 (mem_pairsOut q)
      rw [mem_findD ht.1.1 (mem_pairsOut q')] at this
      simpa using this.symm
    · have h1 := (hd0 (mem_pairsOut q)).2
      have h2 := Nat.le_of_ble_eq_true (hnf0 _ (mem_fsts q'))
      omega
    · have h1 := (hd0 (mem_pairsOut q')).2
      have h2 := Nat.le_of_ble_eq_true (hnf0 _ (mem_fsts q))
      omega
    · exact fsts_inj hnf q q'
theorem mapC_fill {th : Th} {fl : List (Nat × Nat × Nat)} {j : Nat} (c : C) : mapC ((0, 0) :: th) c (fillC1 fl j (renC th 0 c)) := by
  have h := mapC_ren (th := th) c
  cases hr : renC th 0 c with
  | nils =>
    rw [hr] at h
    have hc : c = .nils := by cases c <;> simp_all [mapC]
    subst hc
    simp only [fillC1]
    split
    · exact ⟨rfl, rfl, rfl⟩
    · rfl
  | _ => rw [hr] at h; exact h
theorem mapCs_fill {th : Th} {fl : List (Nat × Nat × Nat)} : ∀ (j : Nat) (l : List C), mapCs ((0, 0) :: th) l (fillCs fl j (l.map (renC th 0)))
  | _, [] => trivial
  | j, c :: r => ⟨mapC_fill c, mapCs_fill (j + 1) r⟩
theorem mapB_fill {th : Th} {fl : List (Nat × Nat × Nat)} (b : Body) : mapB ((0, 0) :: th) b (normBody (fillB fl (renBody th 0 b))) := by
  cases b with
  | cells l =>
    cases fl with
    | nil => exact mapB_norm (mapCs_ren l)
    | cons x fl => exact mapB_norm (mapCs_fill 0 l)
  | ints k l => exact ⟨rfl, rfl⟩
  | gen n f => exact ⟨rfl, fun j _ => mapC_ren (f j)⟩
  | row n w f => exact mapB_ren (.row n w f)
  | ig n kf g => exact mapB_ren (.ig n kf g)
def fillV (f : Option (Nat × Nat)) : V → V
  | .c .nils => (match f with | some (d, es) => .c (.sl d 0 0 0 es) | none => .c .nils)
  | v => v
def fillVs (th : Th) : List (Option (Nat × Nat)) → List V → List V
  | _, [] => []
  | [], v :: r => normV (renV th 0 v) :: fillVs th [] r
  | f :: fs, v :: r => fillV f (normV (renV th 0 v)) :: fillVs th fs r
theorem mapV_ren1 {th : Th} {v : V} (h : ∀ l, v ≠ .tup l) : mapV ((0, 0) :: th) v (normV (renV th 0 v)) :=
  (mapVs_ren (th := th) (l := [v]) (by cases v <;> simp_all [noTup])).1
theorem noTup_cons {v : V} {r : List V} (h : noTup (v :: r) = true) : (∀ l, v ≠ .tup l) ∧ noTup r = true := by
  cases v <;> simp_all [noTup]
theorem mapV_fill {t : Th} {v v' : V} {f : Option (Nat × Nat)} (h : mapV t v v') : mapV t v (fillV f v') := by
  unfold fillV
  split
  · split
    · have hc : v = .c .nils := by
        cases v with
        | c x => cases x <;> simp_all [mapV, mapV1, mapC]
        | _ => simp_all [mapV, mapV1]
      subst hc
      exact ⟨rfl, rfl, rfl⟩
    · exact h
  · exact h
theorem fitVs_fill {th : Th} : ∀ {fl : List (Option (Nat × Nat))} {l : List V}, noTup l = true → mapVs ((0, 0) :: th) l (fillVs th fl l)
  | fl, [], _ => by cases fl <;> trivial
  | [], v :: r, h => ⟨mapV_ren1 (noTup_cons h).1, fitVs_fill (noTup_cons h).2⟩
  | f :: fs, v :: r, h => ⟨mapV_fill (mapV_ren1 (noTup_cons h).1), fitVs_fill (noTup_cons h).2⟩
theorem viewMN_it {m : Mem} {t : Th3} {ds : List Nat} : ∀ (r : List It), (∀ x ∈ itT r, x ∈ t) → (∀ x ∈ itD r, x ∈ ds) → viewMN t ds m (itM (pairsIn t) m r)
  | [], _, _, b', i, k', h => by simp [itM, look, ent] at h
  | .b s d ro fl :: r, hs, hd, b', i, k', h => by
    simp only [itM] at h
    split at h
    · rename_i k hk
      unfold look at h
      simp only [ent] at h
      by_cases hdd : d = b'
      · subst hdd
        simp only [Nat.beq_refl, cond_true, Ent.at] at h
        cases hi : Nat.beq i 0 with
        | false => rw [hi] at h; simp at h
        | true =>
          rw [hi] at h; simp only [cond_true] at h
          injection h with h; subst h
          refine .inl ⟨s, ro, k, hs _ (by simp [itT]), ?_, by cases ro <;> simp, fun h => ?_, mapB_fill _⟩
          · unfold look; rw [hk]; simp only [Ent.at, hi, cond_true]
          · cases ro with
            | true => simp at h
            | false => exact h
      · rw [beqF hdd] at h
        exact viewMN_it r (fun x hx => hs x (by simp only [itT]; exact List.mem_cons_of_mem _ hx)) (fun x hx => hd x (by simpa only [itD] using hx)) b' i k' (by unfold look; exact h)
    · rename_i f hk
      unfold look at h
      simp only [ent] at h
      by_cases hdd : d = b'
      · subst hdd
        simp only [Nat.beq_refl, cond_true, Ent.at] at h
        cases hf : f i with
        | none => rw [hf] at h; simp at h
        | some k =>
          rw [hf] at h
          injection h with h; subst h
          refine .inl ⟨s, ro, k, hs _ (by simp [itT]), ?_, by cases ro <;> simp, fun h => ?_, mapB_ren _⟩
          · unfold look; rw [hk]; exact hf
          · cases ro with
            | true => simp at h
            | false => exact h
      · rw [beqF hdd] at h
        exact viewMN_it r (fun x hx => hs x (by simp only [itT]; exact List.mem_cons_of_mem _ hx)) (fun x hx => hd x (by simpa only [itD] using hx)) b' i k' (by unfold look; exact h)
    · exact viewMN_it r (fun x hx => hs x (by simp only [itT]; exact List.mem_cons_of_mem _ hx)) (fun x hx => hd x (by simpa only [itD] using hx)) b' i k' h
  | .z d k :: r, hs, hd, b', i, k', h => by
    simp only [itM] at h
    cases hk : Nat.beq k.len 0 with
    | false =>
      rw [hk] at h; simp only [cond_false] at h
      exact viewMN_it r (fun x hx => hs x (by simpa only [itT] using hx)) (fun x hx => hd x (by simp only [itD]; exact List.mem_cons_of_mem _ hx)) b' i k' h
    | true =>
      rw [hk] at h; simp only [cond_true] at h
      unfold look at h
      simp only [ent] at h
      by_cases hdd : d = b'
      · subst hdd
        simp only [Nat.beq_refl, cond_true, Ent.at] at h
        cases hi : Nat.beq i 0 with
        | false => rw [hi] at h; simp at h
        | true =>
          rw [hi] at h; simp only [cond_true] at h
          injection h with h; subst h
          exact .inr ⟨hd _ (by simp [itD]), Nat.eq_of_beq_eq_true hi, rfl, rfl, Nat.eq_of_beq_eq_true hk⟩
      · rw [beqF hdd] at h
        exact viewMN_it r (fun x hx => hs x (by simpa only [itT] using hx)) (fun x hx => hd x (by simp only [itD]; exact List.mem_cons_of_mem _ hx)) b' i k' (by unfold look; exact h)
def instOk (L : List It) (nu : Th) (n0 nid : Nat) (args : List V) (res0 : V) (k0 k1 : List Nat) : Bool :=
  okThN (itT L) (itD L) n0 && okNu nu n0 nid && noTup args && Nat.blt 0 n0 && flatTup1 res0 && killOk (itT L) k0 k1
theorem Contract0.inst {f : Nat} {args args0 : List V} {m m0 : Mem} {n0 nid : Nat} {res0 res : V} {kill0 : List Nat} {up0 up : Mem} (hC : Contract0 P f args0 m0 n0 res0 kill0 up0) (L : List It) (fl : List (Option (Nat × Nat))) (nu : Th) (kill : List Nat)
    (hok : instOk L nu n0 nid args res0 (kill0 ++ keysOf up0) (kill ++ keysOf up) = true) (hm : itM (pairsIn (itT L)) m L = m0) (ha : fillVs (pairsIn (itT L)) fl args = args0)
    (hres : renV (pairsOut (itT L) ++ nu) 0 res0 = res) (hup : outM (pairsOut (itT L) ++ nu) up0 (pairsOut (itT L) ++ nu) = up) : Contract P f args m nid res kill up := by
  simp only [instOk, Bool.and_eq_true] at hok
  obtain ⟨⟨⟨⟨⟨ht, hnu⟩, hnt⟩, hn0⟩, hf⟩, hk⟩ := hok
  subst hm; subst ha; subst hres; subst hup
  rw [keysOf_map, keysOf_map] at hk
  intro φ w vals hm hfr hall
  simp only [okNu, Bool.and_eq_true, List.all_eq_true] at hnu
  obtain ⟨⟨⟨q1, q2⟩, q3⟩, q4⟩ := hnu
  have hnu0 : okNu0 nu n0 = true := by
    simp only [okNu0, Bool.and_eq_true, List.all_eq_true]; exact ⟨⟨q1, q2⟩, q3⟩
  refine (hC.core (itT L) (itD L) nu ht hnu0 (viewMN_it L (fun _ h => h) (fun _ h => h)) (fitVs_fill hnt) (Nat.le_of_ble_eq_true hn0) (mapV_in (renIn_self _) res0 hf) (viewOut_gen _ fun _ h => h) hk φ w vals hm ?_ hall).mono ?_
  · intro d hd i
    have := q4 d hd
    exact hfr d (Nat.le_of_ble_eq_true this.1) (Nat.lt_of_succ_le (Nat.le_of_ble_eq_true this.2)) i
  · rintro e w' ⟨v, φ', he, hr, S⟩
    refine ⟨v, φ', he, hr, S.le, fun b i l h => ?_, S.keeps, S.blk, fun b i k l h h1 h2 => ?_, S.inj⟩
    · rcases S.new b i l h with h1 | h1
      · exact .inl h1
      · have := q4 b h1
        exact .inr ⟨Nat.le_of_ble_eq_true this.1, Nat.lt_of_succ_le (Nat.le_of_ble_eq_true this.2)⟩
    · rcases S.src b i k l h h1 h2 with h3 | h3
      · exact .inl h3
      · exact .inr (.inl h3)
def renOk (L : List It) (nu : Th) (n0 n1 : Nat) (args : List V) (res0 : V) (k0 k1 : List Nat) : Bool :=
  okThN (itT L) (itD L) n0 && okNu0 nu n0 && (snds nu).all (fun d => Nat.ble n1 d) && noTup args && Nat.blt 0 n0 && flatTup1 res0 && killOk (itT L) k0 k1
theorem Contract0.renum {f : Nat} {args args0 : List V} {m m0 : Mem} {n0 n1 : Nat} {res0 res : V} {kill0 : List Nat} {up0 up : Mem} (hC : Contract0 P f args0 m0 n0 res0 kill0 up0) (L : List It) (fl : List (Option (Nat × Nat))) (nu : Th) (kill : List Nat)
    (hok : renOk L nu n0 n1 args res0 (kill0 ++ keysOf up0) (kill ++ keysOf up) = true) (hm : itM (pairsIn (itT L)) m L = m0) (ha : fillVs (pairsIn (itT L)) fl args = args0)
    (hres : renV (pairsOut (itT L) ++ nu) 0 res0 = res) (hup : outM (pairsOut (itT L) ++ nu) up0 (pairsOut (itT L) ++ nu) = up) : Contract0 P f args m n1 res kill up := by
  simp only [renOk, Bool.and_eq_true, List.all_eq_true] at hok
  obtain ⟨⟨⟨⟨⟨⟨ht, hnu⟩, hn1⟩, hnt⟩, hn0⟩, hf⟩, hk⟩ := hok
  subst hm; subst ha; subst hres; subst hup
  rw [keysOf_map, keysOf_map] at hk
  intro φ w vals hm hfr hall
  refine (hC.core (itT L) (itD L) nu ht hnu (viewMN_it L (fun _ h => h) (fun _ h => h)) (fitVs_fill hnt) (Nat.le_of_ble_eq_true hn0) (mapV_in (renIn_self _) res0 hf) (viewOut_gen _ fun _ h => h) hk φ w vals hm ?_ hall).mono ?_
  · intro d hd i
    exact hfr d (Nat.le_of_ble_eq_true (hn1 d hd)) i
  · rintro e w' ⟨v, φ', he, hr, S⟩
    refine ⟨v, φ', he, hr, S.le, fun b i l h => ?_, S.keeps, S.blk, S.src, S.inj⟩
    rcases S.new b i l h with h1 | h1
    · exact .inl h1
    · exact .inr (Nat.le_of_ble_eq_true (hn1 b h1))
theorem Contract0.told {f : Nat} {args : List V} {m : Mem} {n0 : Nat} {res res' : V} {kill : List Nat} {up up' : Mem} (h : res = res') (h' : up = up') (hC : Contract0 P f args m n0 res kill up) : Contract0 P f args m n0 res' kill up' := by
  subst h; subst h'; exact hC
theorem EI.wrapI {a : Int} (h : -9223372036854775808 ≤ a ∧ a < 9223372036854775808) : IntKind.i64.wrap a = a := by
  rw [IntKind.wrap_i64]; omega
theorem EV.rec1 {w i d o : Nat} {f : Nat → List C} {c : C} (ho : o = i * w + d) (hd : d < w) (hc : List.getD (f i) d .unk = c) : (V.c (recGet w f o)) = V.c c := by
  subst ho
  unfold recGet
  rw [Nat.mul_comm, Nat.mul_add_div (by omega), Nat.div_eq_of_lt hd, Nat.add_zero, Nat.mul_add_mod, Nat.mod_eq_of_lt hd, hc]
theorem EV.recs {w i : Nat} {f : Nat → List C} (hl : (f i).length = w) : V.agg ((List.range w).map fun j => recGet w f (i * w + j)) = V.agg (f i) := by
  congr 1
  refine List.ext_getElem? fun j => ?_
  by_cases hj : j < w
  · have h1 : (i * w + j) / w = i := by rw [Nat.mul_comm, Nat.mul_add_div (by omega), Nat.div_eq_of_lt hj, Nat.add_zero]
    have h2 : (i * w + j) % w = j := by rw [Nat.mul_comm, Nat.mul_add_mod, Nat.mod_eq_of_lt hj]
    rw [List.getElem?_map, List.getElem?_range hj, Option.map_some, recGet, h1, h2, List.getD_eq_getElem?_getD, List.getElem?_eq_getElem (by omega)]
    rfl
  · rw [List.getElem?_eq_none (by simp; omega), List.getElem?_eq_none (by omega)]
theorem EV.sl {b i o o' n n' es : Nat} (h : o = o') (h' : n = n') : V.c (C.sl b i o n es) = V.c (C.sl b i o' n' es) := by rw [h, h']
theorem EV.ptr {b i o o' : Nat} (h : o = o') : V.c (C.ptr b i o) = V.c (C.ptr b i o') := by rw [h]
theorem EV.str {s s' : ByteArray} (h : s = s') : V.c (C.str s) = V.c (C.str s') := by rw [h]
theorem EV.aggi {k : IntKind} {l l' : List Int} (h : l = l') : V.aggi k l = V.aggi k l' := by rw [h]
theorem mmin (a b : Int) : (bif decide (b < a) then b else a) = min a b := by
  by_cases h : b < a
  · rw [decide_eq_true h, cond_true]; omega
  · rw [decide_eq_false h, cond_false]; omega
theorem mmax (a b : Int) : (bif decide (b > a) then b else a) = max a b := by
  by_cases h : b > a
  · rw [decide_eq_true h, cond_true]; omega
  · rw [decide_eq_false h, cond_false]; omega
theorem mulE_one (i : Nat) : mulE i 1 = i := by simp [mulE]
theorem beq_t {a b : Int} (h : a = b) : (a == b) = true := by simp [h]
theorem beq_f {a b : Int} (h : ¬ a = b) : (a == b) = false := by simp [h]
theorem bne_t {a b : Int} (h : ¬ a = b) : (a != b) = true := by simp [h]
theorem bne_f {a b : Int} (h : a = b) : (a != b) = false := by simp [h]
theorem not_t {a : Bool} (h : a = false) : (!a) = true := by simp [h]
theorem not_f {a : Bool} (h : a = true) : (!a) = false := by simp [h]
end Go.Proofs.Ytohleiikedpmkaa.Vm

namespace Go.Proofs.Ytohleiikedpmkaa.Vm
open Go
theorem Contract0.in1 {P : Program} {f : Nat} {args args0 : List V} {m m0 : Mem} {n0 nid : Nat} {res0 res : V} {kill0 : List Nat} {up0 up : Mem} (hC : Contract0 P f args0 m0 n0 res0 kill0 up0) (L : List It) (fl : List (Option (Nat × Nat))) (nu : Th) (kill : List Nat)
    (h : (instOk L nu n0 nid args res0 (kill0 ++ keysOf up0) (kill ++ keysOf up), itM (pairsIn (itT L)) m L, fillVs (pairsIn (itT L)) fl args, renV (pairsOut (itT L) ++ nu) 0 res0, outM (pairsOut (itT L) ++ nu) up0 (pairsOut (itT L) ++ nu)) = (true, m0, args0, res, up)) : Contract P f args m nid res kill up := by
  simp only [Prod.mk.injEq] at h
  exact Contract0.inst hC L fl nu kill h.1 h.2.1 h.2.2.1 h.2.2.2.1 h.2.2.2.2
end Go.Proofs.Ytohleiikedpmkaa.Vm

namespace Go.Proofs.Ytohleiikedpmkaa.Vm
open Go
variable {P : Program} {φ φ' : Phi} {m : Mem} {w w' : World}
def ContractN (P : Program) (f : Nat) (args : List V) (m : Mem) (ns : List Nat) (res : V) (kill : List Nat) (up : Mem) : Prop :=
  ∀ (φ : Phi) (w : World) (vals : List Value), RM φ m w → (∀ d ∈ ns, ∀ i, φ d i = none) → All2 (RV φ) args vals →
    Calls P f vals.toArray w fun e w' => ∃ v φ', e = .returned v ∧ RV φ' res v ∧ StepX φ φ' m up (kill ++ up.map Prod.fst) ns w w'
def instOkN (L : List It) (nu : Th) (n0 : Nat) (args : List V) (res0 : V) (k0 k1 : List Nat) : Bool :=
  okThN (itT L) (itD L) n0 && okNu0 nu n0 && noTup args && Nat.blt 0 n0 && flatTup1 res0 && killOk (itT L) k0 k1
theorem Contract0.instN {f : Nat} {args args0 : List V} {m m0 : Mem} {n0 : Nat} {res0 res : V} {kill0 : List Nat} {up0 up : Mem} (hC : Contract0 P f args0 m0 n0 res0 kill0 up0) (L : List It) (fl : List (Option (Nat × Nat))) (nu : Th) (kill : List Nat)
    (hok : instOkN L nu n0 args res0 (kill0 ++ keysOf up0) (kill ++ keysOf up) = true) (hm : itM (pairsIn (itT L)) m L = m0) (ha : fillVs (pairsIn (itT L)) fl args = args0)
    (hres : renV (pairsOut (itT L) ++ nu) 0 res0 = res) (hup : outM (pairsOut (itT L) ++ nu) up0 (pairsOut (itT L) ++ nu) = up) : ContractN P f args m (snds nu) res kill up := by
  simp only [instOkN, Bool.and_eq_true] at hok
  obtain ⟨⟨⟨⟨⟨ht, hnu⟩, hnt⟩, hn0⟩, hf⟩, hk⟩ := hok
  subst hm; subst ha; subst hres; subst hup
  rw [keysOf_map, keysOf_map] at hk
  intro φ w vals hm hfr hall
  exact hC.core (itT L) (itD L) nu ht hnu (viewMN_it L (fun _ h => h) (fun _ h => h)) (fitVs_fill hnt) (Nat.le_of_ble_eq_true hn0) (mapV_in (renIn_self _) res0 hf) (viewOut_gen _ fun _ h => h) hk φ w vals hm hfr hall
def unV (D s i0 : Nat) : V → V
  | .c (.sl b i o n es) => bif Nat.beq b D then .c (.sl s i0 o n es) else .c (.sl b i o n es)
  | v => v
theorem ContractN.famB {f : Nat} {args args1 : List V} {ns : List Nat} {res : V} {kill : List Nat} {up : Mem} {bd : Body} {ex : Bool} (D s i0 : Nat)
    (h : ContractN P f args1 ((D, .one ⟨false, false, bd⟩) :: m) ns res kill up) (hD : memN D ns = false) (hD0 : Nat.blt 0 D = true) (hl : look m s i0 = some ⟨false, ex, bd⟩) (ha : args1.map (unV D s i0) = args) (hk : memN D (kill ++ keysOf up) = false) (hi : args1.all (fun v => match v with | .c (.sl b i _ _ _) => !Nat.beq b D || Nat.beq i 0 | _ => true) = true) :
    ContractN P f args m (D :: ns) res kill up := by
  subst ha
  intro φ w vals hm hfr hall
  have hfD : ∀ i, φ D i = none := fun i => hfr D (by simp) i
  obtain ⟨l0, hl0, hB⟩ := hm.blk s i0 _ hl
  have hD0' : D ≠ 0 := by have := Nat.le_of_ble_eq_true hD0; omega
  let φ1 : Phi := fun b i => if b = D ∧ i = 0 then some { l0 with own := false } else φ b i
  have hle : φ.le φ1 := by
    intro b i x hx
    have : ¬ (b = D ∧ i = 0) := fun e => by rw [e.1, hfD] at hx; simp at hx
    show (if b = D ∧ i = 0 then _ else φ b i) = some x
    rw [if_neg this]; exact hx
  have h1D : φ1 D 0 = some { l0 with own := false } := by show (if D = D ∧ 0 = 0 then _ else _) = _; rw [if_pos ⟨rfl, rfl⟩]
  have hlook : ∀ {b i : Nat} {k1 : Blk}, look ((D, Ent.one ⟨false, false, bd⟩) :: m) b i = some k1 → (b = D ∧ i = 0 ∧ k1 = ⟨false, false, bd⟩) ∨ (b ≠ D ∧ look m b i = some k1) := by
    intro b i k1 hk
    unfold look at hk
    simp only [ent] at hk
    by_cases hb : D = b
    · subst hb
      simp only [Nat.beq_refl, cond_true, Ent.at] at hk
      cases hi : Nat.beq i 0 with
      | false => rw [hi] at hk; simp at hk
      | true => rw [hi] at hk; simp only [cond_true] at hk; injection hk with hk; exact .inl ⟨rfl, Nat.eq_of_beq_eq_true hi, hk.symm⟩
    · rw [beqF hb] at hk; exact .inr ⟨fun e => hb e.symm, by unfold look; exact hk⟩
  have hmem : RM φ1 ((D, .one ⟨false, false, bd⟩) :: m) w := by
    refine ⟨?_, ?_, ?_⟩
    · intro g
      obtain ⟨x, h1, h2⟩ := hm.glob g
      exact ⟨x, hle _ _ _ h1, h2⟩
    · intro b i k1 hk1
      rcases hlook hk1 with ⟨rfl, rfl, rfl⟩ | ⟨_, hk1⟩
      · refine ⟨_, h1D, rfl, hB.fits, fun h => by simp at h, hB.there, fun j hj => ?_, fun h => by simp at h⟩
        obtain ⟨v, h3, h4⟩ := hB.cell j hj
        exact ⟨v, h3, h4.mono hle⟩
      · obtain ⟨x, hx, hBx⟩ := hm.blk b i k1 hk1
        exact ⟨x, hle _ _ _ hx, hBx.own, hBx.fits, hBx.exact, hBx.there, fun j hj => by
          obtain ⟨v, h3, h4⟩ := hBx.cell j hj
          exact ⟨v, h3, h4.mono hle⟩, hBx.free⟩
    · intro b i k1 x b' i' k2 x' hk1 hk2 hx hx' ho hz hz' heq
      have old : ∀ {b i k1 x}, look m b i = some k1 → φ1 b i = some x → φ b i = some x := by
        intro b i k1 x hk hx
        obtain ⟨y, hy, _⟩ := hm.blk b i k1 hk
        have := hle _ _ _ hy
        rw [hx] at this; injection this with this; rw [this]; exact hy
      rcases hlook hk1 with ⟨rfl, rfl, rfl⟩ | ⟨hb1, hkm⟩
      · rw [h1D] at hx; injection hx with hx; subst hx; simp at ho
      · have hx0 := old hkm hx
        rcases hlook hk2 with ⟨e1, e2, e3⟩ | ⟨_, hk2⟩
        ·
          subst e1; subst e2; subst e3
          rw [h1D] at hx'; injection hx' with hx'; subst hx'
          exfalso
          have hk1' : look m b i = some k1 := hkm
          obtain ⟨e1, e2⟩ := hm.inj b i k1 x s i0 _ l0 hk1' hl hx0 hl0 ho hz hz' heq
          subst e1; subst e2
          rw [hk1'] at hl
          injection hl with hl
          subst hl
          obtain ⟨y, hy, hBy⟩ := hm.blk _ _ _ hk1'
          rw [hx0] at hy; injection hy with hy; subst hy
          have := hBy.own
          rw [ho] at this; simp at this
        · exact hm.inj b i k1 x b' i' k2 x' hkm hk2 hx0 (old hk2 hx') ho hz hz' heq
  have hargs : ∀ {l1 : List V} {vs : List Value}, l1.all (fun v => match v with | .c (.sl b i _ _ _) => !Nat.beq b D || Nat.beq i 0 | _ => true) = true → All2 (RV φ) (l1.map (unV D s i0)) vs → All2 (RV φ1) l1 vs := by
    intro l1
    induction l1 with
    | nil => intro vs _ h; cases h; exact .nil
    | cons v r ih =>
      intro vs hal h
      simp only [List.all_cons, Bool.and_eq_true] at hal
      cases h with
      | cons h0 h1 =>
        refine .cons ?_ (ih hal.2 h1)
        have plain : unV D s i0 v = v → RV φ1 v _ := fun e => by rw [e] at h0; exact h0.mono hle
        cases v with
        | c c =>
          cases c with
          | sl b i o n es =>
            by_cases hb : b = D
            · subst hb
              have hi0 : i = 0 := by
                have := hal.1
                simp only [Nat.beq_refl, Bool.not_true, Bool.false_or] at this
                exact Nat.eq_of_beq_eq_true this
              subst hi0
              simp only [unV, Nat.beq_refl, cond_true] at h0
              obtain ⟨a, cap, hv, hn, hc⟩ := h0
              refine ⟨a, cap, hv, hn, ?_⟩
              rcases hc with hc | ⟨x, hx, ha, _⟩
              · exact .inl hc
              · rw [hl0] at hx; injection hx with hx; subst hx
                exact .inr ⟨_, h1D, ha, fun h => by simp at h⟩
            · exact plain (by simp only [unV, beqF hb, cond_false])
          | _ => exact plain rfl
        | _ => exact plain rfl
  refine (h φ1 w vals hmem ?_ (hargs hi hall)).mono ?_
  · intro d hd i
    have hdD : d ≠ D := fun e => by
      rw [e] at hd
      exact absurd (memN_iff.2 hd) (by rw [hD]; simp)
    show (if d = D ∧ i = 0 then _ else φ d i) = none
    rw [if_neg (fun e => hdD e.1)]
    exact hfr d (List.mem_cons_of_mem _ hd) i
  · rintro e w' ⟨v, φ', he, hr, S⟩
    have alias : ∀ {r : Nat}, (∃ b i k1 x, b ∈ kill ++ up.map Prod.fst ∧ look ((D, Ent.one ⟨false, false, bd⟩) :: m) b i = some k1 ∧ φ1 b i = some x ∧ x.own = true ∧ 0 < x.sz ∧ x.r = r) → ∃ b i k1 x, b ∈ kill ++ up.map Prod.fst ∧ look m b i = some k1 ∧ φ b i = some x ∧ x.own = true ∧ 0 < x.sz ∧ x.r = r := by
      rintro r ⟨b, i, k1, x, hb, hk1, hx, ho, hz, hr⟩
      rcases hlook hk1 with ⟨rfl, rfl, rfl⟩ | ⟨hbD, hk1⟩
      · rw [h1D] at hx; injection hx with hx; subst hx; simp at ho
      · refine ⟨b, i, k1, x, hb, hk1, ?_, ho, hz, hr⟩
        have : φ1 b i = φ b i := by show (if b = D ∧ i = 0 then _ else _) = _; rw [if_neg (fun e => hbD e.1)]
        rw [← this]; exact hx
    refine ⟨v, φ', he, hr, fun b i x hx => S.le _ _ _ (hle _ _ _ hx), ?_, S.keeps.imp fun r _ h => alias h, S.blk, ?_, S.inj⟩
    · intro b i x hx
      rcases S.new b i x hx with h1 | h1
      · by_cases hb : b = D ∧ i = 0
        · exact .inr (by rw [hb.1]; exact List.mem_cons_self ..)
        · have : φ1 b i = φ b i := by show (if b = D ∧ i = 0 then _ else _) = _; rw [if_neg hb]
          rw [this] at h1; exact .inl h1
      · exact .inr (List.mem_cons_of_mem _ h1)
    · intro b i k1 x hk1 hx hz
      rcases S.src b i k1 x hk1 hx hz with h1 | h1
      · exact .inl h1
      · exact .inr (alias h1)
theorem ContractN.fam {f : Nat} {args args1 : List V} {ns : List Nat} {res : V} {kill : List Nat} {up : Mem} {k : IntKind} {l : List Int} {ex : Bool} (D s i0 : Nat)
    (h : ContractN P f args1 ((D, .one ⟨false, false, .ints k l⟩) :: m) ns res kill up) (hD : memN D ns = false) (hD0 : Nat.blt 0 D = true) (hl : look m s i0 = some ⟨false, ex, .ints k l⟩) (ha : args1.map (unV D s i0) = args) (hk : memN D (kill ++ keysOf up) = false) (hi : args1.all (fun v => match v with | .c (.sl b i _ _ _) => !Nat.beq b D || Nat.beq i 0 | _ => true) = true) :
    ContractN P f args m (D :: ns) res kill up := ContractN.famB D s i0 h hD hD0 hl ha hk hi
theorem ContractN.fin {f : Nat} {args : List V} {ns : List Nat} {res : V} {kill : List Nat} {up : Mem} {nid : Nat} (h : ContractN P f args m ns res kill up) (hns : ns.all (fun d => Nat.ble nid d && Nat.blt d (nid + WW)) = true) : Contract P f args m nid res kill up := by
  intro φ w vals hm hfr hall
  have hn : ∀ d, d ∈ ns → nid ≤ d ∧ d < nid + WW := fun d hd => by
    have := List.all_eq_true.1 hns d hd
    simp only [Bool.and_eq_true] at this
    exact ⟨Nat.le_of_ble_eq_true this.1, Nat.lt_of_succ_le (Nat.le_of_ble_eq_true this.2)⟩
  refine (h φ w vals hm (fun d hd i => hfr d (hn d hd).1 (hn d hd).2 i) hall).mono ?_
  rintro e w' ⟨v, φ', he, hr, S⟩
  refine ⟨v, φ', he, hr, S.le, fun b i l h => ?_, S.keeps, S.blk, fun b i k l h h1 h2 => ?_, S.inj⟩
  · rcases S.new b i l h with h1 | h1
    · exact .inl h1
    · exact .inr (hn b h1)
  · rcases S.src b i k l h h1 h2 with h3 | h3
    · exact .inl h3
    · exact .inr (.inl h3)
end Go.Proofs.Ytohleiikedpmkaa.Vm

namespace Go.Proofs.Ytohleiikedpmkaa.Vm
open Go
variable {P : Program} {φ φ' : Phi} {m : Mem} {w w' : World}
theorem look_delE {b b' i : Nat} {k : Blk} : ∀ {m : Mem}, look (delE m b) b' i = some k → look m b' i = some k ∧ b' ≠ b
  | [], h => by simp [delE, look, ent] at h
  | (c, e) :: r, h => by
    unfold delE at h
    by_cases hc : c = b
    · subst hc
      rw [Nat.beq_refl, cond_true] at h
      obtain ⟨h1, h2⟩ := look_delE h
      refine ⟨?_, h2⟩
      unfold look at h1 ⊢
      simp only [ent, beqF (fun e => h2 e.symm), cond_false]
      exact h1
    · rw [beqF hc, cond_false] at h
      unfold look at h ⊢
      simp only [ent] at h ⊢
      by_cases hb : c = b'
      · subst hb
        rw [Nat.beq_refl, cond_true] at h ⊢
        exact ⟨h, hc⟩
      · rw [beqF hb, cond_false] at h ⊢
        exact look_delE (m := r) (by unfold look; exact h)
def unP (D b p : Nat) : V → V
  | .c (.sl b' i o n es) => bif Nat.beq b' D then .c (.sl b 0 (p + o) n es) else .c (.sl b' i o n es)
  | v => v
def unPC (D b p : Nat) : C → C
  | .sl b' i o n es => bif Nat.beq b' D && Nat.beq i 0 then .sl b 0 (p + o) n es else .sl b' i o n es
  | c => c
def unPB (D b p : Nat) (k : Blk) : Blk := match k.body with
  | .cells L => { k with body := .cells (L.map (unPC D b p)) }
  | _ => k
def unPM (D b p : Nat) : Mem → Mem
  | [] => []
  | (c, .one k) :: r => (c, .one (unPB D b p k)) :: unPM D b p r
  | (c, .many f) :: r => (c, .many f) :: unPM D b p r
theorem unPB_own {D b p : Nat} {k : Blk} : (unPB D b p k).own = k.own ∧ (unPB D b p k).ex = k.ex ∧ (unPB D b p k).len = k.len := by
  unfold unPB
  split
  · rename_i L hL
    exact ⟨rfl, rfl, by simp [Blk.len, hL, Body.len]⟩
  · exact ⟨rfl, rfl, rfl⟩
theorem look_unPM {D b p c i : Nat} {k : Blk} : ∀ {m : Mem}, look m c i = some k → look (unPM D b p m) c i = some (unPB D b p k) ∨ look (unPM D b p m) c i = some k
  | [], h => by simp [look, ent] at h
  | (c', .one k') :: r, h => by
    unfold look at h ⊢
    simp only [unPM, ent] at h ⊢
    by_cases hc : c' = c
    · subst hc
      rw [Nat.beq_refl, cond_true] at h ⊢
      simp only [Ent.at] at h ⊢
      cases hi : Nat.beq i 0 with
      | false => rw [hi] at h; simp at h
      | true => rw [hi] at h; simp only [cond_true] at h ⊢; injection h with h; subst h; exact .inl rfl
    · rw [beqF hc, cond_false] at h ⊢
      exact look_unPM (m := r) (by unfold look; exact h)
  | (c', .many f) :: r, h => by
    unfold look at h ⊢
    simp only [unPM, ent] at h ⊢
    by_cases hc : c' = c
    · subst hc
      rw [Nat.beq_refl, cond_true] at h ⊢
      exact .inr h
    · rw [beqF hc, cond_false] at h ⊢
      exact look_unPM (m := r) (by unfold look; exact h)
theorem ContractN.part {m1 : Mem} {f : Nat} {args args1 : List V} {ns : List Nat} {res : V} {kill : List Nat} {up : Mem} {k : IntKind} {l : List Int} (D b p : Nat) {own ex : Bool} {L : List C}
    (h : ContractN P f args1 ((D, .one ⟨false, false, .ints k l⟩) :: m1) ns res kill up) (hm1 : unPM D b p m1 = delE m b) (hD : memN D ns = false) (hD0 : Nat.blt 0 D = true) (hl : look m b 0 = some ⟨own, ex, .cells L⟩)
    (hfit : Nat.ble (p + l.length) L.length = true) (hseg : List.take l.length (List.drop p L) = l.map (.int k)) (ha : args1.map (unP D b p) = args)
    (hi : args1.all (fun v => match v with | .c (.sl b' i _ _ _) => !Nat.beq b' D || Nat.beq i 0 | _ => true) = true) :
    ContractN P f args m (D :: ns) res kill up := by
  subst ha
  intro φ w vals hm hfr hall
  have hfD : ∀ i, φ D i = none := fun i => hfr D (by simp) i
  obtain ⟨l0, hl0, hB⟩ := hm.blk b 0 _ hl
  have hfit' : p + l.length ≤ L.length := Nat.le_of_ble_eq_true hfit
  let φ1 : Phi := fun c i => if c = D ∧ i = 0 then some ⟨l0.r, l0.s + p, l0.sz, false⟩ else φ c i
  have hle : φ.le φ1 := by
    intro c i x hx
    have : ¬ (c = D ∧ i = 0) := fun e => by rw [e.1, hfD] at hx; simp at hx
    show (if c = D ∧ i = 0 then _ else φ c i) = some x
    rw [if_neg this]; exact hx
  have h1D : φ1 D 0 = some ⟨l0.r, l0.s + p, l0.sz, false⟩ := by show (if D = D ∧ 0 = 0 then _ else _) = _; rw [if_pos ⟨rfl, rfl⟩]
  have hlook : ∀ {c i : Nat} {k1 : Blk}, look ((D, Ent.one ⟨false, false, .ints k l⟩) :: m1) c i = some k1 → (c = D ∧ i = 0 ∧ k1 = ⟨false, false, .ints k l⟩) ∨ (c ≠ D ∧ (∃ k0, look m c i = some k0 ∧ (k0 = unPB D b p k1 ∨ k0 = k1)) ∧ c ≠ b) := by
    intro c i k1 hk
    unfold look at hk
    simp only [ent] at hk
    by_cases hb : D = c
    · subst hb
      simp only [Nat.beq_refl, cond_true, Ent.at] at hk
      cases hi : Nat.beq i 0 with
      | false => rw [hi] at hk; simp at hk
      | true => rw [hi] at hk; simp only [cond_true] at hk; injection hk with hk; exact .inl ⟨rfl, Nat.eq_of_beq_eq_true hi, hk.symm⟩
    · rw [beqF hb] at hk
      rw [cond_false] at hk
      have hk' : look m1 c i = some k1 := by unfold look; exact hk
      rcases look_unPM (D := D) (b := b) (p := p) hk' with h1 | h1
      · rw [hm1] at h1
        obtain ⟨h2, h3⟩ := look_delE h1
        exact .inr ⟨fun e => hb e.symm, ⟨_, h2, .inl rfl⟩, h3⟩
      · rw [hm1] at h1
        obtain ⟨h2, h3⟩ := look_delE h1
        exact .inr ⟨fun e => hb e.symm, ⟨_, h2, .inr rfl⟩, h3⟩
  have hcell : ∀ j, j < l.length → L.getD (p + j) .unk = .int k (l.getD j 0) := by
    intro j hj
    have e := congrArg (fun x : List C => x[j]?) hseg
    simp only [List.getElem?_take, hj, if_true, List.getElem?_drop, List.getElem?_map] at e
    rw [List.getD_eq_getElem?_getD, e, List.getD_eq_getElem?_getD, List.getElem?_eq_getElem hj]
    rfl
  have hC : ∀ {c : C} {v : Value}, RC φ (unPC D b p c) v → RC φ1 c v := by
    intro c v h0
    have plain : unPC D b p c = c → RC φ1 c v := fun e => by rw [e] at h0; exact h0.mono hle
    cases c with
    | sl b' i o n es =>
      by_cases hb : b' = D ∧ i = 0
      · obtain ⟨rfl, rfl⟩ := hb
        simp only [unPC, Nat.beq_refl, Bool.and_self, cond_true] at h0
        obtain ⟨a, cap, hv, hn, hc⟩ := h0
        refine ⟨a, cap, hv, hn, ?_⟩
        rcases hc with hc | ⟨x, hx, ha, _⟩
        · exact .inl hc
        · rw [hl0] at hx; injection hx with hx; subst hx
          exact .inr ⟨_, h1D, by rw [ha, Nat.add_assoc], fun h => by simp at h⟩
      · refine plain ?_
        have : (Nat.beq b' D && Nat.beq i 0) = false := by
          by_cases h1 : b' = D
          · have h2 : ¬ i = 0 := fun e => hb ⟨h1, e⟩
            rw [beqF h2, Bool.and_false]
          · rw [beqF h1, Bool.false_and]
        simp only [unPC, this, cond_false]
    | _ => exact plain rfl
  have hRC : ∀ {k1 : Blk} {j : Nat} {v : Value}, RC φ ((unPB D b p k1).body.get j) v → RC φ1 (k1.body.get j) v := by
    intro k1 j v h0
    unfold unPB at h0
    split at h0
    · rename_i M hM
      rw [hM]
      refine hC ?_
      show RC φ (unPC D b p (M.getD j .unk)) v
      have e : (M.map (unPC D b p)).getD j .unk = unPC D b p (M.getD j .unk) := by
        simp only [List.getD_eq_getElem?_getD, List.getElem?_map]
        cases M[j]? <;> rfl
      rw [← e]; exact h0
    · exact h0.mono hle
  have hmem : RM φ1 ((D, .one ⟨false, false, .ints k l⟩) :: m1) w := by
    refine ⟨?_, ?_, ?_⟩
    · intro g
      obtain ⟨x, h1, h2⟩ := hm.glob g
      exact ⟨x, hle _ _ _ h1, h2⟩
    · intro c i k1 hk1
      rcases hlook hk1 with ⟨rfl, rfl, rfl⟩ | ⟨_, hk1, _⟩
      · refine ⟨_, h1D, rfl, ?_, fun h => by simp at h, hB.there, fun j hj => ?_, fun h => by simp at h⟩
        · have h3 : l0.s + L.length ≤ l0.sz := hB.fits
          show l0.s + p + l.length ≤ l0.sz
          omega
        · have hj' : j < l.length := hj
          obtain ⟨v, h3, h4⟩ := hB.cell (p + j) (by show p + j < L.length; omega)
          refine ⟨v, ?_, ?_⟩
          · rw [← Nat.add_assoc] at h3; exact h3
          · have h5 : RC φ (L.getD (p + j) .unk) v := h4
            rw [hcell j hj'] at h5
            exact h5
      · obtain ⟨k0, hk0, he⟩ := hk1
        obtain ⟨x, hx, hBx⟩ := hm.blk c i k0 hk0
        have e3 : k0.own = k1.own ∧ k0.ex = k1.ex ∧ k0.len = k1.len := by
          rcases he with rfl | rfl
          · exact unPB_own
          · exact ⟨rfl, rfl, rfl⟩
        refine ⟨x, hle _ _ _ hx, hBx.own.trans e3.1, by rw [← e3.2.2]; exact hBx.fits, fun h => by rw [← e3.2.2]; exact hBx.exact (by rw [e3.2.1]; exact h), hBx.there, fun j hj => ?_, hBx.free⟩
        obtain ⟨v, h3, h4⟩ := hBx.cell j (by rw [e3.2.2]; exact hj)
        refine ⟨v, h3, ?_⟩
        rcases he with rfl | rfl
        · exact hRC h4
        · exact h4.mono hle
    · intro c i k1 x c' i' k2 x' hk1 hk2 hx hx' ho hz hz' heq
      have old : ∀ {c i k1 x}, look m c i = some k1 → φ1 c i = some x → φ c i = some x := by
        intro c i k1 x hk hx
        obtain ⟨y, hy, _⟩ := hm.blk c i k1 hk
        have := hle _ _ _ hy
        rw [hx] at this; injection this with this; rw [this]; exact hy
      rcases hlook hk1 with ⟨rfl, rfl, rfl⟩ | ⟨hb1, hkm, hcb⟩
      · rw [h1D] at hx; injection hx with hx; subst hx; simp at ho
      · obtain ⟨kk, hkm, _⟩ := hkm
        have hx0 := old hkm hx
        rcases hlook hk2 with ⟨e1, e2, e3⟩ | ⟨_, ⟨k2', hk2, _⟩, _⟩
        · subst e1; subst e2; subst e3
          rw [h1D] at hx'; injection hx' with hx'; subst hx'
          exact absurd (hm.inj c i kk x b 0 _ l0 hkm hl hx0 hl0 ho hz hz' heq).1 hcb
        · exact hm.inj c i kk x c' i' k2' x' hkm hk2 hx0 (old hk2 hx') ho hz hz' heq
  have hargs : ∀ {l1 : List V} {vs : List Value}, l1.all (fun v => match v with | .c (.sl b' i _ _ _) => !Nat.beq b' D || Nat.beq i 0 | _ => true) = true → All2 (RV φ) (l1.map (unP D b p)) vs → All2 (RV φ1) l1 vs := by
    intro l1
    induction l1 with
    | nil => intro vs _ h; cases h; exact .nil
    | cons v r ih =>
      intro vs hal h
      simp only [List.all_cons, Bool.and_eq_true] at hal
      cases h with
      | cons h0 h1 =>
        refine .cons ?_ (ih hal.2 h1)
        have plain : unP D b p v = v → RV φ1 v _ := fun e => by rw [e] at h0; exact h0.mono hle
        cases v with
        | c c =>
          cases c with
          | sl b' i o n es =>
            by_cases hb : b' = D
            · subst hb
              have hi0 : i = 0 := by
                have := hal.1
                simp only [Nat.beq_refl, Bool.not_true, Bool.false_or] at this
                exact Nat.eq_of_beq_eq_true this
              subst hi0
              simp only [unP, Nat.beq_refl, cond_true] at h0
              obtain ⟨a, cap, hv, hn, hc⟩ := h0
              refine ⟨a, cap, hv, hn, ?_⟩
              rcases hc with hc | ⟨x, hx, ha, _⟩
              · exact .inl hc
              · rw [hl0] at hx; injection hx with hx; subst hx
                exact .inr ⟨_, h1D, by rw [ha, Nat.add_assoc], fun h => by simp at h⟩
            · exact plain (by simp only [unP, beqF hb, cond_false])
          | _ => exact plain rfl
        | _ => exact plain rfl
  refine (h φ1 w vals hmem ?_ (hargs hi hall)).mono ?_
  · intro d hd i
    have hdD : d ≠ D := fun e => by
      rw [e] at hd
      exact absurd (memN_iff.2 hd) (by rw [hD]; simp)
    show (if d = D ∧ i = 0 then _ else φ d i) = none
    rw [if_neg (fun e => hdD e.1)]
    exact hfr d (List.mem_cons_of_mem _ hd) i
  · rintro e w' ⟨v, φ', he, hr, S⟩
    have alias : ∀ {r : Nat}, (∃ c i k1 x, c ∈ kill ++ up.map Prod.fst ∧ look ((D, Ent.one ⟨false, false, .ints k l⟩) :: m1) c i = some k1 ∧ φ1 c i = some x ∧ x.own = true ∧ 0 < x.sz ∧ x.r = r) → ∃ c i k1 x, c ∈ kill ++ up.map Prod.fst ∧ look m c i = some k1 ∧ φ c i = some x ∧ x.own = true ∧ 0 < x.sz ∧ x.r = r := by
      rintro r ⟨c, i, k1, x, hb, hk1, hx, ho, hz, hr⟩
      rcases hlook hk1 with ⟨rfl, rfl, rfl⟩ | ⟨hbD, ⟨kk, hk1, _⟩, _⟩
      · rw [h1D] at hx; injection hx with hx; subst hx; simp at ho
      · refine ⟨c, i, kk, x, hb, hk1, ?_, ho, hz, hr⟩
        have : φ1 c i = φ c i := by show (if c = D ∧ i = 0 then _ else _) = _; rw [if_neg (fun e => hbD e.1)]
        rw [← this]; exact hx
    refine ⟨v, φ', he, hr, fun c i x hx => S.le _ _ _ (hle _ _ _ hx), ?_, S.keeps.imp fun r _ h => alias h, S.blk, ?_, S.inj⟩
    · intro c i x hx
      rcases S.new c i x hx with h1 | h1
      · by_cases hb : c = D ∧ i = 0
        · exact .inr (by rw [hb.1]; exact List.mem_cons_self ..)
        · have : φ1 c i = φ c i := by show (if c = D ∧ i = 0 then _ else _) = _; rw [if_neg hb]
          rw [this] at h1; exact .inl h1
      · exact .inr (List.mem_cons_of_mem _ h1)
    · intro c i k1 x hk1 hx hz
      rcases S.src c i k1 x hk1 hx hz with h1 | h1
      · exact .inl h1
      · exact .inr (alias h1)
end Go.Proofs.Ytohleiikedpmkaa.Vm

namespace Go.Proofs.Ytohleiikedpmkaa.W
def le : Nat → Int → List Int
  | 0, _ => []
  | n + 1, v => v % 256 :: le n (v / 256)
end Go.Proofs.Ytohleiikedpmkaa.W

namespace Go.Proofs.Ytohleiikedpmkaa
def W.ck (p : Nat) : IntKind := bif Nat.beq (p % 4) 0 then .i32 else .i64
theorem W.ck_32 {o : Nat} (h : o % 4 = 0) : W.ck o = .i32 := by simp [W.ck, h]
theorem W.ck_64 {o : Nat} (h : ¬ o % 4 = 0) : W.ck o = .i64 := by
  unfold W.ck
  rw [show Nat.beq (o % 4) 0 = false from by cases e : Nat.beq (o % 4) 0 with | false => rfl | true => exact absurd (Nat.eq_of_beq_eq_true e) h]
  rfl
def W.rl (i n j : Nat) : Nat := bif Nat.blt j i then n else 0
def W.blank (p : Nat) : Int := if p % 4 = 0 then 32 else 0
def W.rep (c p : Nat) : Int := if p < 4 * c then W.blank p else 0
end Go.Proofs.Ytohleiikedpmkaa
namespace Go.Proofs.Ytohleiikedpmkaa.Vm
open Go Go.Proofs.Ytohleiikedpmkaa
theorem EV.ixk {q : List Int} {k : IntKind} {i : Nat} (h : i < q.length) : ((.c (Body.get (.cells (q.map (C.int k))) i)) : V) = .c (.int k (q.getD i 0)) := by
  show V.c ((q.map (C.int k)).getD i .unk) = _
  rw [map_getD _ _ h]
theorem EV.ck4 {base o : Nat} {g : Nat → Int} (hm : o % 4 = 0) (hb : base = o) :
    ((.agg ((List.range 4).map (fun p_ => .int (W.ck (p_ + base)) (g (p_ + base))))) : V) = .agg [.int .i32 (g o), .int .i64 (g (o + 1)), .int .i64 (g (o + 2)), .int .i64 (g (o + 3))] := by
  subst hb
  have e : List.range 4 = [0, 1, 2, 3] := rfl
  simp only [e, List.map, Nat.zero_add, Nat.add_comm 1, Nat.add_comm 2, Nat.add_comm 3]
  rw [W.ck_32 hm, W.ck_64 (o := base + 1) (by omega), W.ck_64 (o := base + 2) (by omega), W.ck_64 (o := base + 3) (by omega)]
end Go.Proofs.Ytohleiikedpmkaa.Vm

namespace Go.Proofs.Ytohleiikedpmkaa.Vm
open Go
variable {P : Program}
abbrev Rho := Nat → Nat → Option (Nat × Nat)
def CR (ρ : Rho) : C → C → Prop
  | .ptr b i o, .ptr b' i' o' => ρ b' i' = some (b, i) ∧ o' = o
  | .sl b i o n es, .sl b' i' o' n' es' => ρ b' i' = some (b, i) ∧ o' = o ∧ n' = n ∧ es' = es
  | .nils, .sl _ _ _ n _ => n = 0
  | .int k n, .int k' n' => k' = k ∧ n' = n
  | .bool b, .bool b' => b' = b
  | .str s, .str s' => s' = s
  | .nilp, .nilp | .nils, .nils | .nilf, .nilf | .nili, .nili => True
  | .ifi t k n, .ifi t' k' n' => t' = t ∧ k' = k ∧ n' = n
  | .fn f l, .fn f' l' => f' = f ∧ l' = l ∧ ∀ x ∈ l, ρ x.1 x.2.1 = some (x.1, x.2.1)
  | _, .unk => True
  | _, _ => False
def CRs (ρ : Rho) : List C → List C → Prop
  | [], [] => True
  | c :: r, c' :: r' => CR ρ c c' ∧ CRs ρ r r'
  | _, _ => False
def VR (ρ : Rho) : V → V → Prop
  | .c x, .c y => CR ρ x y
  | .agg l, .agg l' => CRs ρ l l'
  | .aggi k l, .aggi k' l' => k' = k ∧ l' = l
  | _, .unk => True
  | _, _ => False
def Rel (ρ : Rho) (φ φ' : Phi) : Prop := ∀ b i b0 i0, ρ b i = some (b0, i0) → φ' b i = φ b0 i0
theorem CR.rel {ρ : Rho} {φ φ' : Phi} (hρ : Rel ρ φ φ') {c c' : C} {v : Value} (h : CR ρ c c') (H : RC φ c v) : RC φ' c' v := by
  cases c' with
  | unk => exact H.one
  | ptr b' i' o' =>
    cases c <;> simp only [CR] at h
    obtain ⟨h1, rfl⟩ := h
    obtain ⟨l, h2, h3⟩ := H
    exact ⟨l, by rw [hρ _ _ _ _ h1]; exact h2, h3⟩
  | sl b' i' o' n' es' =>
    cases c <;> simp only [CR] at h
    · subst h
      have H : v = .slice none 0 0 := H
      exact ⟨none, 0, H, Nat.le_refl _, .inl rfl⟩
    · obtain ⟨h1, rfl, rfl, rfl⟩ := h
      obtain ⟨a, cap, e, hn, hc⟩ := H
      refine ⟨a, cap, e, hn, ?_⟩
      rcases hc with hc | ⟨l, hl, hx⟩
      · exact .inl hc
      · exact .inr ⟨l, by rw [hρ _ _ _ _ h1]; exact hl, hx⟩
  | int k n => cases c <;> simp only [CR] at h; obtain ⟨rfl, rfl⟩ := h; exact H
  | bool b => cases c <;> simp only [CR] at h; subst h; exact H
  | str b => cases c <;> simp only [CR] at h; subst h; exact H
  | nilp => cases c <;> simp only [CR] at h; exact H
  | nils => cases c <;> simp only [CR] at h; exact H
  | nilf => cases c <;> simp only [CR] at h; exact H
  | nili => cases c <;> simp only [CR] at h; exact H
  | ifi t k n => cases c <;> simp only [CR] at h; obtain ⟨rfl, rfl, rfl⟩ := h; exact H
  | fn f l =>
    cases c <;> simp only [CR] at h
    obtain ⟨rfl, rfl, h3⟩ := h
    obtain ⟨vs, e, hv⟩ := H
    refine ⟨vs, e, ?_⟩
    generalize vs.toList = q at hv
    clear e
    induction hv with
    | nil => exact .nil
    | @cons x v l' vs' h0 h1 ih =>
      obtain ⟨b, i, o⟩ := x
      refine .cons ?_ (ih fun y hy => h3 y (List.mem_cons_of_mem _ hy))
      obtain ⟨l, h4, h5⟩ := h0
      exact ⟨l, by rw [hρ _ _ _ _ (h3 (b, i, o) (by simp))]; exact h4, h5⟩
theorem CRs.rel {ρ : Rho} {φ φ' : Phi} (hρ : Rel ρ φ φ') : ∀ {l l' : List C} {vs : List Value}, CRs ρ l l' → All2 (RC φ) l vs → All2 (RC φ') l' vs
  | [], [], _, _, h => by cases h; exact .nil
  | c :: r, c' :: r', _, h, .cons h0 h1 => .cons (h.1.rel hρ h0) (CRs.rel hρ h.2 h1)
  | [], _ :: _, _, h, _ => h.elim
  | _ :: _, [], _, h, _ => h.elim
theorem VR.rel {ρ : Rho} {φ φ' : Phi} (hρ : Rel ρ φ φ') {x y : V} {v : Value} (h : VR ρ x y) (hy : y ≠ .unk) (H : RV φ x v) : RV φ' y v := by
  cases y with
  | unk => exact absurd rfl hy
  | c c' =>
    cases x <;> simp only [VR] at h
    exact h.rel hρ H
  | agg l' =>
    cases x <;> simp only [VR] at h
    obtain ⟨a, e, H⟩ := H
    exact ⟨a, e, h.rel hρ H⟩
  | aggi k l =>
    cases x <;> simp only [VR] at h
    obtain ⟨rfl, rfl⟩ := h
    exact H
  | tup l => cases x <;> simp only [VR] at h
def BR (ρ : Rho) (D : Nat → Nat → Bool) (me : Mem) (b i : Nat) (k' : Blk) : Prop :=
  (∃ b0 i0 k, ρ b i = some (b0, i0) ∧ look me b0 i0 = some k ∧ k'.own = k.own ∧ (k'.ex = true → k.ex = true) ∧ k'.len = k.len ∧ ∀ j, j < k.len → CR ρ (k.body.get j) (k'.body.get j)) ∨
  (ρ b i = none ∧ D b i = true ∧ k'.own = true ∧ k'.len = 0)
def AllM (Q : Nat → Nat → Blk → Prop) : Mem → Prop
  | [] => True
  | (b, .one k) :: r => Q b 0 k ∧ AllM Q r
  | (b, .many f) :: r => (∀ i k, f i = some k → Q b i k) ∧ AllM Q r
theorem AllM.look {Q : Nat → Nat → Blk → Prop} : ∀ {m : Mem}, AllM Q m → ∀ {b i : Nat} {k : Blk}, Vm.look m b i = some k → Q b i k
  | [], _, b, i, k, h => by simp [Vm.look, ent] at h
  | (c, .one k0) :: r, H, b, i, k, h => by
    unfold Vm.look at h
    simp only [ent] at h
    by_cases hc : c = b
    · subst hc
      simp only [Nat.beq_refl, cond_true, Ent.at] at h
      cases hi : Nat.beq i 0 with
      | false => rw [hi] at h; simp at h
      | true =>
        rw [hi] at h; simp only [cond_true] at h; injection h with h; subst h
        have := Nat.eq_of_beq_eq_true hi
        subst this; exact H.1
    · rw [beqF hc] at h; exact AllM.look H.2 (by unfold Vm.look; exact h)
  | (c, .many f) :: r, H, b, i, k, h => by
    unfold Vm.look at h
    simp only [ent] at h
    by_cases hc : c = b
    · subst hc
      simp only [Nat.beq_refl, cond_true, Ent.at] at h
      exact H.1 i k h
    · rw [beqF hc] at h; exact AllM.look H.2 (by unfold Vm.look; exact h)
structure Move (n0 : Nat) (s s' : S0) (ρ : Rho) (D : Nat → Nat → Bool) : Prop where
  pos : 0 < n0
  low : ∀ b i, b < n0 → ρ b i = some (b, i)
  high : ∀ b i, s'.nx ≤ b → (ρ b i = none ∧ D b i = false) ∨ ∃ p, ρ b i = some p ∧ s.nx ≤ p.1
  nx : n0 ≤ s'.nx
  inj : ∀ b i b' i' p, ρ b i = some p → ρ b' i' = some p → b = b' ∧ i = i'
  mem : AllM (BR ρ D s.me) s'.me
  tm : ∀ t, getT s'.tm t = .unk ∨ VR ρ (getT s.tm t) (getT s'.tm t)
def movePhi (ρ : Rho) (D : Nat → Nat → Bool) (φ : Phi) : Phi := fun b i =>
  match ρ b i with
  | some p => φ p.1 p.2
  | none => bif D b i then some ⟨0, 0, 0, true⟩ else none
theorem RS.move {Γ : Ctx} {φ : Phi} {n0 : Nat} {s s' : S0} {ρ : Rho} {D : Nat → Nat → Bool} {a : Act} {w : World} (m : Move n0 s s' ρ D) (hn : Γ.n0 ≤ n0) (hf0 : Fresh Γ.φ0 Γ.n0) (hf : Fresh φ s.nx) (R : RS Γ φ s.tm s.me a w) :
    RS Γ (movePhi ρ D φ) s'.tm s'.me a w ∧ (Fresh (movePhi ρ D φ) s'.nx ∧ Γ.n0 ≤ s'.nx) := by
  have hρ : Rel ρ φ (movePhi ρ D φ) := by
    intro b i b0 i0 h
    simp only [movePhi, h]
  have hlow : ∀ b i, b < n0 → movePhi ρ D φ b i = φ b i := fun b i h => hρ b i b i (m.low b i h)
  have hblk : ∀ {b i : Nat} {k' : Blk} {l : Loc}, look s'.me b i = some k' → movePhi ρ D φ b i = some l → 0 < l.sz → ∃ b0 i0 k, ρ b i = some (b0, i0) ∧ look s.me b0 i0 = some k ∧ φ b0 i0 = some l := by
    intro b i k' l hk hl hz
    rcases m.mem.look hk with ⟨b0, i0, k, h1, h2, _⟩ | ⟨h1, h2, _⟩
    · exact ⟨b0, i0, k, h1, h2, by rw [← hρ _ _ _ _ h1]; exact hl⟩
    · simp only [movePhi, h1, h2, cond_true] at hl
      injection hl with hl; subst hl; simp at hz
  refine ⟨⟨?_, ⟨?_, ?_, ?_⟩, ?_, R.keeps, ?_, R.size, R.defers, ?_⟩, ?_, Nat.le_trans hn m.nx⟩
  · intro b i l hl
    have hb : b < Γ.n0 := by
      by_cases h : b < Γ.n0
      · exact h
      · have := hf0 b (by omega) i
        rw [hl] at this; simp at this
    rw [hlow b i (by omega)]
    exact R.le _ _ _ hl
  · intro g
    rw [hlow 0 g m.pos]
    exact R.mem.glob g
  · intro b i k' hk
    rcases m.mem.look hk with ⟨b0, i0, k, h1, h2, h3, h4, h5, h6⟩ | ⟨h1, h2, h3, h4⟩
    · obtain ⟨l, hl, hB⟩ := R.mem.blk b0 i0 k h2
      refine ⟨l, by rw [hρ _ _ _ _ h1]; exact hl, hB.own.trans h3.symm, by rw [h5]; exact hB.fits, fun e => by rw [h5]; exact hB.exact (h4 e), hB.there, fun j hj => ?_, hB.free⟩
      rw [h5] at hj
      obtain ⟨v, g1, g2⟩ := hB.cell j hj
      exact ⟨v, g1, (h6 j hj).rel hρ g2⟩
    · refine ⟨⟨0, 0, 0, true⟩, by simp only [movePhi, h1, h2, cond_true], h3.symm, by show 0 + k'.len ≤ 0; omega, fun _ => ⟨rfl, by show 0 = k'.len; omega⟩, fun h => by simp at h, fun j hj => by omega, fun _ j hj => by simp at hj⟩
  · intro b i k1 l b' i' k2 l' hk hk' hl hl' ho hz hz' heq
    obtain ⟨b0, i0, q, h1, h2, h3⟩ := hblk hk hl hz
    obtain ⟨b1, i1, q', g1, g2, g3⟩ := hblk hk' hl' hz'
    obtain ⟨rfl, rfl⟩ := R.mem.inj _ _ _ _ _ _ _ _ h2 g2 h3 g3 ho hz hz' heq
    exact m.inj _ _ _ _ _ h1 g1
  · intro n
    rcases m.tm n with h | h
    · exact .inl h
    · by_cases hy : getT s'.tm n = .unk
      · exact .inl hy
      · rcases R.tmp n with h1 | ⟨x, h1, h2⟩
        · exfalso
          rw [h1] at h
          cases hz : getT s'.tm n <;> rw [hz] at h hy <;> simp [VR] at h hy
        · exact .inr ⟨x, h1, h.rel hρ hy h2⟩
  · intro b i k' l hk hl ho hz
    obtain ⟨b0, i0, q, h1, h2, h3⟩ := hblk hk hl hz
    exact R.owned _ _ _ _ h2 h3 ho hz
  · intro b i l hl
    by_cases hb : b < n0
    · rw [hlow b i hb] at hl
      exact R.new b i l hl
    · exact .inr (by omega)
  · intro b hb i
    rcases m.high b i hb with ⟨h1, h2⟩ | ⟨p, h1, h2⟩
    · simp only [movePhi, h1, h2, cond_false]
    · simp only [movePhi, h1]
      exact hf p.1 h2 p.2
theorem CodeOk.move {nt n0 : Nat} {k : K} {s0 s s' : S0} {x : Ex} {ρ : Rho} {D : Nat → Nat → Bool} (h : CodeOk P nt n0 k s0 x s) (m : Move n0 s s' ρ D) : CodeOk P nt n0 k s0 x s' := by
  intro Γ c hP hnt hn0 hf0 hc φ a w R hf
  refine wp_mono (h Γ c hP hnt hn0 hf0 hc φ a w R hf) ?_
  rintro e a' w' ⟨x', s'', φ', q1, ⟨rfl, rfl⟩, q3, q4⟩
  obtain ⟨q5, q6⟩ := q3.move m hn0 hf0 q4.1
  exact ⟨x', _, _, q1, ⟨rfl, rfl⟩, q5, q6⟩
theorem CodeOk.enter {nt n0 : Nat} {k : K} {s s' s1 : S0} {x : Ex} {ρ : Rho} {D : Nat → Nat → Bool} (m : Move n0 s s' ρ D) (h : CodeOk P nt n0 k s' x s1) : CodeOk P nt n0 k s x s1 := by
  intro Γ c hP hnt hn0 hf0 hc φ a w R hf
  obtain ⟨q5, q6⟩ := R.move m hn0 hf0 hf.1
  exact h Γ c hP hnt hn0 hf0 hc _ a w q5 q6
def idRho : Rho := fun b i => some (b, i)
theorem CR.refl : ∀ c : C, CR idRho c c
  | .ptr _ _ _ => ⟨rfl, rfl⟩
  | .sl _ _ _ _ _ => ⟨rfl, rfl, rfl, rfl⟩
  | .int _ _ => ⟨rfl, rfl⟩
  | .bool _ => rfl
  | .str _ => rfl
  | .nilp | .nils | .nilf | .nili => trivial
  | .ifi _ _ _ => ⟨rfl, rfl, rfl⟩
  | .fn _ _ => ⟨rfl, rfl, fun _ _ => rfl⟩
  | .unk => trivial
theorem CRs.refl : ∀ l : List C, CRs idRho l l
  | [] => trivial
  | c :: r => ⟨CR.refl c, CRs.refl r⟩
def SameB (me : Mem) (b i : Nat) (k' : Blk) : Prop := ∃ k, look me b i = some k ∧ k'.own = k.own ∧ (k'.ex = true → k.ex = true) ∧ k'.len = k.len ∧ ∀ j, j < k.len → k'.body.get j = k.body.get j
theorem SameB.refl {me : Mem} {b i : Nat} {k : Blk} (h : look me b i = some k) : SameB me b i k := ⟨k, h, rfl, fun h => h, rfl, fun _ _ => rfl⟩
theorem SameB.ig {me : Mem} {b i n : Nat} {o e e0 : Bool} {kf kf' : Nat → IntKind} {g g' : Nat → Int} (h : look me b i = some ⟨o, e0, .ig n kf g⟩) (he : e = true → e0 = true) (hk : ∀ p, p < n → kf p = kf' p) (hg : ∀ p, p < n → g p = g' p) : SameB me b i ⟨o, e, .ig n kf' g'⟩ :=
  ⟨_, h, rfl, he, rfl, fun j hj => by
    have hj : j < n := hj
    show C.int (kf' j) (g' j) = C.int (kf j) (g j)
    rw [hk j hj, hg j hj]⟩
def flatV1 : V → Bool
  | .tup _ => false
  | _ => true
theorem VR.refl {x : V} (h : flatV1 x = true) : VR idRho x x := by
  cases x with
  | c y => exact CR.refl y
  | agg l => exact CRs.refl l
  | aggi k l => exact ⟨rfl, rfl⟩
  | unk => trivial
  | tup l => simp [flatV1] at h
def tmFlat : Tm → Bool
  | [] => true
  | (_, v) :: r => flatV1 v && tmFlat r
theorem tmFlat_get : ∀ {tm : Tm} (t : Nat), tmFlat tm = true → flatV1 (getT tm t) = true
  | [], _, _ => rfl
  | (k, v) :: r, t, h => by
    simp only [tmFlat, Bool.and_eq_true] at h
    simp only [getT]
    cases hk : Nat.beq k t with
    | true => exact h.1
    | false => exact tmFlat_get t h.2
theorem AllM.imp {Q Q' : Nat → Nat → Blk → Prop} (h : ∀ b i k, Q b i k → Q' b i k) : ∀ {m : Mem}, AllM Q m → AllM Q' m
  | [], _ => trivial
  | (_, .one _) :: _, H => ⟨h _ _ _ H.1, AllM.imp h H.2⟩
  | (_, .many _) :: _, H => ⟨fun i k hk => h _ _ _ (H.1 i k hk), AllM.imp h H.2⟩
theorem Move.same {n0 nx nx' : Nat} {tm : Tm} {me me' : Mem} (hp : 0 < n0) (h1 : nx ≤ nx') (h2 : n0 ≤ nx') (ht : tmFlat tm = true) (hm : AllM (SameB me) me') : Move n0 ⟨tm, me, nx⟩ ⟨tm, me', nx'⟩ idRho (fun _ _ => false) :=
  ⟨hp, fun _ _ _ => rfl, fun b i hb => .inr ⟨(b, i), rfl, Nat.le_trans h1 hb⟩, h2, fun b i b' i' p h h' => by
    simp only [idRho, Option.some.injEq] at h h'
    subst h; injection h' with h3 h4; exact ⟨h3.symm, h4.symm⟩,
   AllM.imp (fun b i k' ⟨k, g1, g2, g3, g4, g5⟩ => .inl ⟨b, i, k, rfl, g1, g2, g3, g4, fun j hj => by rw [g5 j hj]; exact CR.refl _⟩) hm,
   fun t => .inr (VR.refl (tmFlat_get t ht))⟩
theorem Contract0.same_up {f : Nat} {args : List V} {m : Mem} {n0 : Nat} {res : V} {kill : List Nat} {up up' : Mem} (hC : Contract0 P f args m n0 res kill up) (hk : up'.map Prod.fst = up.map Prod.fst) (hs : AllM (SameB up) up') : Contract0 P f args m n0 res kill up' := by
  intro φ w vals hm hf hall
  refine (hC φ w vals hm hf hall).mono ?_
  rintro e w' ⟨v, φ', he, hr, S⟩
  refine ⟨v, φ', he, hr, S.le, S.new, ?_, ?_, ?_, ?_⟩
  · rw [hk]; exact S.keeps
  · intro b i k' h
    obtain ⟨k, h1, h2, h3, h4, h5⟩ := hs.look h
    obtain ⟨l, hl, hB⟩ := S.blk b i k h1
    exact ⟨l, hl, hB.own.trans h2.symm, by rw [h4]; exact hB.fits, fun he => by rw [h4]; exact hB.exact (h3 he), hB.there, fun j hj => by
      rw [h4] at hj
      rw [h5 j hj]; exact hB.cell j hj, hB.free⟩
  · intro b i k' l h hl hz
    obtain ⟨k, h1, _⟩ := hs.look h
    rw [hk]
    exact S.src b i k l h1 hl hz
  · intro b i k l b' i' k' l' h h'
    obtain ⟨k1, h1, _⟩ := hs.look h
    obtain ⟨k2, h2, _⟩ := hs.look h'
    exact S.inj b i k1 l b' i' k2 l' h1 h2
end Go.Proofs.Ytohleiikedpmkaa.Vm

namespace Go.Proofs.Ytohleiikedpmkaa.Vm
open Go Go.Proofs.Ytohleiikedpmkaa
section
variable {ρ : Rho} {D : Nat → Nat → Bool} {me : Mem} {b i b0 i0 : Nat} {o e e0 : Bool}
theorem CRs.len : ∀ {l l' : List C}, CRs ρ l l' → l'.length = l.length
  | [], [], _ => rfl
  | _ :: r, _ :: r', h => by simp [CRs.len h.2]
  | [], _ :: _, h => h.elim
  | _ :: _, [], h => h.elim
theorem CRs.get : ∀ {l l' : List C}, CRs ρ l l' → ∀ j, j < l.length → CR ρ (l.getD j .unk) (l'.getD j .unk)
  | [], [], _, j, hj => by simp at hj
  | c :: r, c' :: r', h, j, hj => by
    cases j with
    | zero => exact h.1
    | succ j => simpa using CRs.get h.2 j (by simpa using hj)
  | [], _ :: _, h, _, _ => h.elim
  | _ :: _, [], h, _, _ => h.elim
theorem BR.cells {L L' : List C} (hρ : ρ b i = some (b0, i0)) (hl : look me b0 i0 = some ⟨o, e0, .cells L⟩) (he : e = true → e0 = true) (h : CRs ρ L L') : BR ρ D me b i ⟨o, e, .cells L'⟩ :=
  .inl ⟨b0, i0, _, hρ, hl, rfl, he, h.len, fun j hj => h.get j hj⟩
theorem BR.ig {n n' : Nat} {kf kf' : Nat → IntKind} {g g' : Nat → Int} (hρ : ρ b i = some (b0, i0)) (hl : look me b0 i0 = some ⟨o, e0, .ig n kf g⟩) (he : e = true → e0 = true) (hn : n' = n) (hk : ∀ p, p < n → kf' p = kf p) (hg : ∀ p, p < n → g' p = g p) : BR ρ D me b i ⟨o, e, .ig n' kf' g'⟩ :=
  .inl ⟨b0, i0, _, hρ, hl, rfl, he, hn, fun j hj => ⟨hk j hj, hg j hj⟩⟩
theorem BR.gen {n n' : Nat} {f f' : Nat → C} (hρ : ρ b i = some (b0, i0)) (hl : look me b0 i0 = some ⟨o, e0, .gen n f⟩) (he : e = true → e0 = true) (hn : n' = n) (h : ∀ p, p < n → CR ρ (f p) (f' p)) : BR ρ D me b i ⟨o, e, .gen n' f'⟩ :=
  .inl ⟨b0, i0, _, hρ, hl, rfl, he, hn, h⟩
theorem BR.none {k : Blk} (hρ : ρ b i = .none) (hD : D b i = true) (ho : k.own = true) (hl : k.len = 0) : BR ρ D me b i k := .inr ⟨hρ, hD, ho, hl⟩
end
def TmR (ρ : Rho) : Tm → Tm → Prop
  | [], [] => True
  | (t, v) :: r, (t', v') :: r' => t' = t ∧ VR ρ v v' ∧ TmR ρ r r'
  | _, _ => False
theorem TmR.get {ρ : Rho} : ∀ {tm tm' : Tm}, TmR ρ tm tm' → ∀ t, getT tm' t = .unk ∨ VR ρ (getT tm t) (getT tm' t)
  | [], [], _, _ => .inl rfl
  | (t0, v) :: r, (t1, v') :: r', h, t => by
    obtain ⟨rfl, h1, h2⟩ := h
    simp only [getT]
    cases hk : Nat.beq t1 t with
    | true => exact .inr h1
    | false => exact TmR.get h2 t
  | [], _ :: _, h, _ => h.elim
  | _ :: _, [], h, _ => h.elim
def growRho (n0 H h' F N i : Nat) : Rho := fun b k =>
  if b < n0 then some (b, k) else if b = H then (if k = 0 then some (h', 0) else none) else if b = F then (if k = i then some (N, 0) else some (F, k)) else none
section
variable {n0 H h' F N i : Nat}
theorem growRho_low {b k : Nat} (h : b < n0) : growRho n0 H h' F N i b k = some (b, k) := if_pos h
theorem growRho_H (h : n0 ≤ H) : growRho n0 H h' F N i H 0 = some (h', 0) := by
  unfold growRho; rw [if_neg (by omega), if_pos rfl, if_pos rfl]
theorem growRho_i (h : n0 ≤ F) (h1 : F ≠ H) : growRho n0 H h' F N i F i = some (N, 0) := by
  unfold growRho; rw [if_neg (by omega), if_neg h1, if_pos rfl, if_pos rfl]
theorem growRho_F {k : Nat} (h : n0 ≤ F) (h1 : F ≠ H) (hk : k ≠ i) : growRho n0 H h' F N i F k = some (F, k) := by
  unfold growRho; rw [if_neg (by omega), if_neg h1, if_pos rfl, if_neg hk]
theorem Move.grow {s s' : S0} (hp : 0 < n0) (hx : n0 ≤ s'.nx ∧ H < s'.nx ∧ F < s'.nx) (hn : n0 ≤ h' ∧ n0 ≤ N) (hd : h' ≠ N ∧ h' ≠ F ∧ N ≠ F) (hm : AllM (BR (growRho n0 H h' F N i) (fun _ _ => false) s.me) s'.me) (ht : TmR (growRho n0 H h' F N i) s.tm s'.tm) :
    Move n0 s s' (growRho n0 H h' F N i) (fun _ _ => false) := by
  refine ⟨hp, fun b k h => growRho_low h, fun b k h => .inl ⟨?_, rfl⟩, hx.1, ?_, hm, ht.get⟩
  · unfold growRho
    rw [if_neg (by omega), if_neg (by omega), if_neg (by omega)]
  · intro b k b1 k1 p h1 h2
    unfold growRho at h1 h2
    repeat' split at h1
    all_goals (repeat' split at h2)
    all_goals first
      | (simp only [Option.some.injEq] at h1 h2; subst h1; simp only [Prod.mk.injEq] at h2; omega)
      | (simp at h1; done)
      | (simp at h2; done)
end
def newRho (n0 : Nat) : Rho := fun b k => if b < n0 then some (b, k) else none
theorem newRho_low {n0 b k : Nat} (h : b < n0) : newRho n0 b k = some (b, k) := if_pos h
theorem newRho_high {n0 b k : Nat} (h : n0 ≤ b) : newRho n0 b k = none := if_neg (by omega)
theorem Move.begin {n0 : Nat} {s s' : S0} (D : Nat → Nat → Bool) (hp : 0 < n0) (hx : n0 ≤ s'.nx) (hD : ∀ b k, s'.nx ≤ b → D b k = false) (hm : AllM (BR (newRho n0) D s.me) s'.me) (ht : TmR (newRho n0) s.tm s'.tm) : Move n0 s s' (newRho n0) D :=
  ⟨hp, fun b k h => newRho_low h, fun b k h => .inl ⟨newRho_high (Nat.le_trans hx h), hD b k h⟩, hx, fun b k b1 k1 p h1 h2 => by
    unfold newRho at h1 h2
    split at h1
    · split at h2
      · simp only [Option.some.injEq] at h1 h2; subst h1; simp only [Prod.mk.injEq] at h2; omega
      · simp at h2
    · simp at h1, hm, ht.get⟩
theorem rl_lt {i n j : Nat} (h : j < i) : W.rl i n j = n := by unfold W.rl; rw [bltT h]; rfl
theorem rl_ge {i n j : Nat} (h : i ≤ j) : W.rl i n j = 0 := by unfold W.rl; rw [bltF (by omega)]; rfl
theorem rl_succ {i n j : Nat} (h : j ≠ i) : W.rl (i + 1) n j = W.rl i n j := by
  by_cases h1 : j < i
  · rw [rl_lt h1, rl_lt (by omega)]
  · rw [rl_ge (by omega), rl_ge (by omega)]
theorem hdr_cell {n0 H h' F N N' i w j : Nat} {t : Th} (hj : j < i + 1) (hF : n0 ≤ F) (h1 : F ≠ H) (e1 : ren t n0 F = some F) (e2 : ren t n0 N = some N') :
    CR (growRho n0 H h' F N' i) (renC t n0 (bif Nat.blt j (mulE i 1) then C.sl F (0 + j) 0 w 4 else List.getD (List.take 1 (List.drop 0 [C.sl N 0 0 w 4])) (j - mulE i 1) C.unk)) (.sl F j 0 w 4) := by
  have e : mulE i 1 = i := rfl
  rw [e]
  by_cases h : j < i
  · rw [bltT h]
    simp only [cond_true, renC, e1]
    exact ⟨by rw [growRho_F hF h1 (by omega), Nat.zero_add], rfl, rfl, rfl⟩
  · have : j = i := by omega
    subst this
    rw [bltF h]
    simp only [cond_false, Nat.sub_self]
    show CR _ (renC t n0 (C.sl N 0 0 w 4)) _
    simp only [renC, e2]
    exact ⟨growRho_i hF h1, rfl, rfl, rfl⟩
theorem row_grow {n0 H h' F N i w : Nat} {me : Mem} {X : Nat → Nat → Int} {x : Nat → Int} {o e e0 : Bool} (hF : n0 ≤ F) (h1 : F ≠ H) (hl : ∀ j, look me F j = some ⟨o, e, .ig (W.rl i w j) W.ck (X j)⟩) (hN : look me N 0 = some ⟨o, e0, .ig w W.ck x⟩) (he : e = true → e0 = true) (hX : ∀ p, p < w → X i p = x p) :
    ∀ j k, (fun j_ => some (⟨o, e, .ig (W.rl (i + 1) w j_) W.ck (X j_)⟩ : Blk)) j = some k → BR (growRho n0 H h' F N i) (fun _ _ => false) me F j k := by
  intro j k hk
  injection hk with hk
  subst hk
  by_cases hj : j = i
  · subst hj
    exact BR.ig (growRho_i hF h1) hN he (rl_lt (by omega)) (fun _ _ => rfl) (fun p hp => hX p hp)
  · exact BR.ig (growRho_F hF h1 hj) (hl j) (fun h => h) (rl_succ hj) (fun _ _ => rfl) (fun _ _ => rfl)
def renRho (n0 H h' F f' : Nat) : Rho := fun b k => if b < n0 then some (b, k) else if b = H then some (h', k) else if b = F then some (f', k) else none
section
variable {n0 H h' F f' : Nat}
theorem renRho_low {b k : Nat} (h : b < n0) : renRho n0 H h' F f' b k = some (b, k) := if_pos h
theorem renRho_H {k : Nat} (h : n0 ≤ H) : renRho n0 H h' F f' H k = some (h', k) := by
  unfold renRho; rw [if_neg (by omega), if_pos rfl]
theorem Move.ren {s s' : S0} (hp : 0 < n0) (hx : n0 ≤ s'.nx ∧ H < s'.nx ∧ F < s'.nx) (hn : n0 ≤ h' ∧ n0 ≤ f') (hd : h' ≠ f') (hm : AllM (BR (renRho n0 H h' F f') (fun _ _ => false) s.me) s'.me) (ht : TmR (renRho n0 H h' F f') s.tm s'.tm) :
    Move n0 s s' (renRho n0 H h' F f') (fun _ _ => false) := by
  refine ⟨hp, fun b k h => renRho_low h, fun b k h => .inl ⟨?_, rfl⟩, hx.1, ?_, hm, ht.get⟩
  · unfold renRho
    rw [if_neg (by omega), if_neg (by omega), if_neg (by omega)]
  · intro b k b1 k1 p h1 h2
    unfold renRho at h1 h2
    repeat' split at h1
    all_goals (repeat' split at h2)
    all_goals first
      | (simp only [Option.some.injEq] at h1 h2; subst h1; simp only [Prod.mk.injEq] at h2; omega)
      | (simp at h1; done)
      | (simp at h2; done)
end
end Go.Proofs.Ytohleiikedpmkaa.Vm

namespace Go.Proofs.Ytohleiikedpmkaa.Vm
open Go
theorem CodeOk.post {P : Program} {nt n0 : Nat} {k : K} {s s0 s1 : S0} {x : Ex} (v : SView) (hok : v.ok n0 = true) (hv : v.app n0 s = s1) (h : CodeOk P nt n0 k s0 x s) : CodeOk P nt n0 k s0 x s1 := by
  subst hv
  intro Γ c hP hnt hn0 hf0 hc φ a w R hf
  refine wp_mono (h Γ c hP hnt hn0 hf0 hc φ a w R hf) ?_
  rintro e a' w' ⟨x', s'', φ', q1, ⟨rfl, rfl⟩, q3, q4⟩
  obtain ⟨q5, q6⟩ := q3.view (nx := s''.nx) v hok hn0 hf0
  exact ⟨x', _, _, q1, ⟨rfl, rfl⟩, q5, q6⟩
end Go.Proofs.Ytohleiikedpmkaa.Vm

namespace Go.Proofs.Ytohleiikedpmkaa.Vm
open Go Go.Proofs.Ytohleiikedpmkaa
variable {P : Program}
theorem viewMN.of {t : Th3} {ds : List Nat} {m m0 : Mem} (h : AllM (srcOk t m) m0) : viewMN t ds m m0 := fun _ _ _ hk => .inl (AllM.look h hk)
theorem Contract0.alias {f : Nat} {args args0 : List V} {m m0 : Mem} {n0 n1 : Nat} {res0 res : V} {kill0 : List Nat} {up0 up : Mem} (hC : Contract0 P f args0 m0 n0 res0 kill0 up0) (L : List It) (nu : Th) (kill : List Nat)
    (hok : renOk L nu n0 n1 args res0 (kill0 ++ keysOf up0) (kill ++ keysOf up) = true) (hv : AllM (srcOk (itT L) m) m0) (ha : mapVs (zeroP (itT L)) args args0)
    (hres : renV (pairsOut (itT L) ++ nu) 0 res0 = res) (hup : outM (pairsOut (itT L) ++ nu) up0 (pairsOut (itT L) ++ nu) = up) : Contract0 P f args m n1 res kill up := by
  simp only [renOk, Bool.and_eq_true, List.all_eq_true] at hok
  obtain ⟨⟨⟨⟨⟨⟨ht, hnu⟩, hn1⟩, hnt⟩, hn0⟩, hf⟩, hk⟩ := hok
  subst hres; subst hup
  rw [keysOf_map, keysOf_map] at hk
  intro φ w vals hm hfr hall
  refine (hC.core (itT L) (itD L) nu ht hnu (viewMN.of hv) ha (Nat.le_of_ble_eq_true hn0) (mapV_in (renIn_self _) res0 hf) (viewOut_gen _ fun _ h => h) hk φ w vals hm ?_ hall).mono ?_
  · intro d hd i
    exact hfr d (Nat.le_of_ble_eq_true (hn1 d hd)) i
  · rintro e w' ⟨v, φ', he, hr, S⟩
    refine ⟨v, φ', he, hr, S.le, fun b i l h => ?_, S.keeps, S.blk, S.src, S.inj⟩
    rcases S.new b i l h with h1 | h1
    · exact .inl h1
    · exact .inr (Nat.le_of_ble_eq_true (hn1 b h1))
end Go.Proofs.Ytohleiikedpmkaa.Vm

namespace Go.Proofs.Ytohleiikedpmkaa.Vm
open Go Go.Proofs.Ytohleiikedpmkaa
def TmL (tm : Tm) : Tm → Prop
  | [] => True
  | (t, v) :: r => getT tm t = v ∧ TmL tm r
theorem TmL.get {tm : Tm} : ∀ {tm' : Tm}, TmL tm tm' → ∀ t, getT tm' t = .unk ∨ getT tm' t = getT tm t
  | [], _, _ => .inl rfl
  | (t0, v) :: r, h, t => by
    simp only [getT]
    cases hk : Nat.beq t0 t with
    | true =>
      have := Nat.eq_of_beq_eq_true hk
      subst this
      exact .inr h.1.symm
    | false => exact TmL.get h.2 t
theorem Move.less {n0 nx nx' : Nat} {tm tm' : Tm} {me me' : Mem} (hp : 0 < n0) (h1 : nx ≤ nx') (h2 : n0 ≤ nx') (ht : tmFlat tm = true) (hl : TmL tm tm') (hm : AllM (SameB me) me') : Move n0 ⟨tm, me, nx⟩ ⟨tm', me', nx'⟩ idRho (fun _ _ => false) := by
  have m := Move.same (n0 := n0) (nx := nx) (nx' := nx') (tm := tm) (me := me) (me' := me') hp h1 h2 ht hm
  refine ⟨m.pos, m.low, m.high, m.nx, m.inj, m.mem, fun t => ?_⟩
  rcases hl.get t with h | h
  · exact .inl h
  · right
    show VR idRho (getT tm t) (getT tm' t)
    rw [h]
    exact VR.refl (tmFlat_get t ht)
end Go.Proofs.Ytohleiikedpmkaa.Vm

namespace Go.Proofs.Ytohleiikedpmkaa.Vm
open Go Go.Proofs.Ytohleiikedpmkaa
def tabRho (n0 : Nat) (t : List (Nat × Nat)) : Rho := fun b k =>
  if b < n0 then some (b, k) else match t.find? (fun x => Nat.beq x.1 b) with | some x => some (x.2, k) | none => none
section
variable {n0 : Nat} {t : List (Nat × Nat)}
theorem tabRho_low {b k : Nat} (h : b < n0) : tabRho n0 t b k = some (b, k) := if_pos h
theorem tabRho_hi {b b' k : Nat} {x : Nat × Nat} (h : ¬ b < n0) (e : t.find? (fun x => Nat.beq x.1 b) = some x) (e' : x.2 = b') : tabRho n0 t b k = some (b', k) := by
  unfold tabRho; rw [if_neg h, e]; subst e'; rfl
theorem tabRho_src {b k : Nat} {p : Nat × Nat} (h : ¬ b < n0) (e : tabRho n0 t b k = some p) : ∃ x ∈ t, x.1 = b ∧ p = (x.2, k) := by
  unfold tabRho at e
  rw [if_neg h] at e
  split at e
  · rename_i x hx
    injection e with e
    have h1 := List.find?_some hx
    exact ⟨x, List.mem_of_find?_eq_some hx, Nat.eq_of_beq_eq_true h1, e.symm⟩
  · cases e
theorem Move.tab {s s' : S0} (t : List (Nat × Nat)) (hp : 0 < n0) (hx : n0 ≤ s'.nx) (hk : ∀ x ∈ t, n0 ≤ x.1 ∧ x.1 < s'.nx ∧ n0 ≤ x.2) (hd : ∀ x ∈ t, ∀ y ∈ t, x.2 = y.2 → x.1 = y.1) (hm : AllM (BR (tabRho n0 t) (fun _ _ => false) s.me) s'.me) (ht : TmR (tabRho n0 t) s.tm s'.tm) :
    Move n0 s s' (tabRho n0 t) (fun _ _ => false) := by
  refine ⟨hp, fun b k h => tabRho_low h, fun b k h => .inl ⟨?_, rfl⟩, hx, ?_, hm, ht.get⟩
  · cases e : tabRho n0 t b k with
    | none => rfl
    | some p =>
      obtain ⟨x, hx', h1, _⟩ := tabRho_src (by omega) e
      have := hk x hx'
      omega
  · intro b k b1 k1 p h1 h2
    by_cases hb : b < n0
    · rw [tabRho_low hb] at h1
      injection h1 with h1
      by_cases hb1 : b1 < n0
      · rw [tabRho_low hb1] at h2
        injection h2 with h2
        rw [← h1] at h2
        simp only [Prod.mk.injEq] at h2
        omega
      · obtain ⟨x, hx', g1, g2⟩ := tabRho_src hb1 h2
        have := hk x hx'
        rw [← h1] at g2
        simp only [Prod.mk.injEq] at g2
        omega
    · obtain ⟨x, hx', g1, g2⟩ := tabRho_src hb h1
      have q1 := hk x hx'
      by_cases hb1 : b1 < n0
      · rw [tabRho_low hb1] at h2
        injection h2 with h2
        rw [← h2] at g2
        simp only [Prod.mk.injEq] at g2
        omega
      · obtain ⟨y, hy', g3, g4⟩ := tabRho_src hb1 h2
        rw [g2] at g4
        simp only [Prod.mk.injEq] at g4
        have := hd x hx' y hy' g4.1
        omega
end
end Go.Proofs.Ytohleiikedpmkaa.Vm

namespace Go.Proofs.Ytohleiikedpmkaa.Vm
open Go
def Src (W : World) (k : IntKind) (zs : List Int) (len cap : Nat) (a : Option Addr) : Prop :=
  (a = none ∧ zs = [] ∧ len = 0 ∧ cap = 0) ∨ ∃ x, a = some x ∧ len ≤ cap ∧ zs.length = cap ∧ ∀ i, i < zs.length → W.cell? (x.add i) = some (.int k (zs.getD i 0))
theorem Src.le {W : World} {k : IntKind} {zs : List Int} {len cap : Nat} {a : Option Addr} (h : Src W k zs len cap a) : 0 + len ≤ zs.length := by
  rcases h with ⟨_, rfl, rfl, _⟩ | ⟨_, _, h1, h2, _⟩
  · exact Nat.le_refl _
  · omega
def At (W : World) (l : Loc) (k : IntKind) (zs : List Int) : Prop := l.own = false ∧ ∀ φ, RB φ l ⟨false, false, .ints k zs⟩ W
theorem Src.locI {W : World} {k : IntKind} {zs : List Int} {len cap : Nat} {a : Option Addr} (h : Src W k zs len cap a) :
    ∃ l : Loc, At W l k zs ∧ ∀ (φ : Phi) (d i : Nat), φ d i = some l → RV φ (.c (.sl d i 0 len 1)) (.slice a len cap) := by
  have nil : ∀ (zs : List Int), zs = [] → At W ⟨0, 0, 0, false⟩ k zs := by
    rintro _ rfl
    refine ⟨rfl, fun φ => ⟨rfl, Nat.le_refl _, fun h => by simp at h, fun h => by simp at h, fun j hj => ?_, fun h => by simp at h⟩⟩
    have : j < 0 := hj
    omega
  rcases h with ⟨rfl, hz, rfl, rfl⟩ | ⟨x, rfl, hl, hz, hcell⟩
  · exact ⟨_, nil zs hz, fun φ d i hd => ⟨none, 0, rfl, Nat.le_refl _, .inl rfl⟩⟩
  · by_cases hc : cap = 0
    · have : zs = [] := List.length_eq_zero_iff.1 (by omega)
      exact ⟨_, nil zs this, fun φ d i hd => ⟨some x, cap, rfl, hl, .inl hc⟩⟩
    · have h0 := hcell 0 (by omega)
      have hlast := hcell (zs.length - 1) (by omega)
      have h0 : W.cell? x = some (.int k (zs.getD 0 0)) := h0
      have key : ∃ c T fr, W.heap[x.block]? = some (.cells c T fr) ∧ x.spot = none := by
        unfold World.cell? at h0
        split at h0
        · rename_i c T fr hh
          refine ⟨c, T, fr, hh, ?_⟩
          cases hs : x.spot with
          | none => rfl
          | some s => rw [hs] at h0; simp at h0
        · simp at h0
      obtain ⟨c, T, fr, hh, hs⟩ := key
      obtain ⟨xb, xo, xs⟩ := x
      dsimp only at hs hh
      subst hs
      have hsz : xo + (zs.length - 1) < c.size := by
        rw [addr_add0] at hlast
        unfold World.cell? at hlast
        simp only [hh] at hlast
        simp at hlast
        exact (Array.getElem?_eq_some_iff.mp hlast).1
      refine ⟨⟨xb, xo, c.size, false⟩, ⟨rfl, fun φ => ⟨rfl, ?_, fun h => by simp at h, fun _ => ⟨T, by simp [World.shape?, hh]⟩, fun j hj => ?_, fun h => by simp at h⟩⟩, fun φ d i hφ => ⟨_, cap, rfl, hl, .inr ⟨_, hφ, rfl, fun h => by simp at h⟩⟩⟩
      · show xo + zs.length ≤ c.size
        omega
      · have hj' : j < zs.length := hj
        have h1 := hcell j hj'
        rw [addr_add0] at h1
        exact ⟨_, h1, rfl⟩
theorem Src.loc {W : World} {k : IntKind} {zs : List Int} {len cap : Nat} {a : Option Addr} (h : Src W k zs len cap a) :
    ∃ l : Loc, At W l k zs ∧ ∀ (φ : Phi) (d : Nat), φ d 0 = some l → RV φ (.c (.sl d 0 0 len 1)) (.slice a len cap) := by
  obtain ⟨l, h1, h2⟩ := h.locI
  exact ⟨l, h1, fun φ d hd => h2 φ d 0 hd⟩
section
open Go.ChangeShapes Go.WideShapes Go.ChangeAt Go.RowKit
variable {H : Type} {enc : TypeId × Value → H} {P : Program} {t e : TypeId} {k : IntKind} {W : World} {base : Nat} {held : Bool}
theorem open_src {fuel : Nat} {a : Option Addr} {len cap : Nat} {x : DataW H × List MemPlace} (ht : P.underlying t = some (.slice e)) (he : P.underlying e = some (.int k)) (hc : P.cellsOf e = 1)
    (h : DataW.trod enc P W base (fun _ => true) held fuel t (Value.slice a len cap).cells.toList = some x) :
    ∃ zs : List Int, Src W k zs len cap a ∧ (∀ n ∈ zs, (Lit.int k n).wf = true) ∧ (zs = [] ∨ x.1 = .slice (lits k (zs.take len)) (lits k (zs.drop len))) := by
  rcases open_ints ht he hc h with ⟨hcs, _⟩ | ⟨x0, l, c, zs, hcs, _, hl, hm, hz, hx, hcell, hwz⟩
  · simp [Value.cells] at hcs
    obtain ⟨rfl, rfl, rfl⟩ := hcs
    exact ⟨[], .inl ⟨rfl, rfl, rfl, rfl⟩, by simp, .inl rfl⟩
  · simp [Value.cells] at hcs
    obtain ⟨rfl, rfl, rfl⟩ := hcs
    exact ⟨zs, .inr ⟨x0, rfl, hl, by simpa using hz, hcell⟩, hwz, .inr (by rw [hx])⟩
theorem lits_len {k : IntKind} {l : List Int} : (lits (H := H) k l).length = l.length := by simp [lits]
end
def SrcR (W : World) (k : IntKind) (N : Nat) (ln : Nat → Nat) (T : Nat → List Int) (len cap : Nat) (a : Option Addr) : Prop :=
  (∀ r, N ≤ r → T r = [] ∧ ln r = 0) ∧ ((a = none ∧ N = 0 ∧ len = 0 ∧ cap = 0) ∨ ∃ (x : Addr) (A : Nat → Option Addr) (C : Nat → Nat), a = some x ∧ len ≤ cap ∧ N = cap ∧ ∀ r, r < cap → W.cell? (x.add r) = some (.slice (A r) (ln r) (C r)) ∧ Src W k (T r) (ln r) (C r) (A r))
theorem SrcR.le {W : World} {k : IntKind} {N : Nat} {ln : Nat → Nat} {T : Nat → List Int} {len cap : Nat} {a : Option Addr} (h : SrcR W k N ln T len cap a) : 0 + len ≤ N := by
  rcases h.2 with ⟨_, rfl, rfl, _⟩ | ⟨_, _, _, _, h1, rfl, _⟩
  · exact Nat.le_refl _
  · omega
structure LocR where
  head : Loc
  row : Nat → Loc
def AtR (W : World) (l : LocR) (k : IntKind) (N : Nat) (ln : Nat → Nat) (T : Nat → List Int) (d : Nat) : Prop :=
  l.head.own = false ∧ (∀ r, At W (l.row r) k (T r)) ∧ ∀ φ : Phi, (∀ r, φ (d + 1) r = some (l.row r)) → RB φ l.head ⟨false, false, .gen N fun j => C.sl (d + 1) j 0 (ln j) 1⟩ W
theorem SrcR.loc {W : World} {k : IntKind} {N : Nat} {ln : Nat → Nat} {T : Nat → List Int} {len cap : Nat} {a : Option Addr} (h : SrcR W k N ln T len cap a) (d : Nat) :
    ∃ l : LocR, AtR W l k N ln T d ∧ ∀ (φ : Phi), φ d 0 = some l.head → RV φ (.c (.sl d 0 0 len 1)) (.slice a len cap) := by
  obtain ⟨hout, h⟩ := h
  have dummy : ∀ zs : List Int, zs = [] → At W ⟨0, 0, 0, false⟩ k zs := by
    rintro _ rfl
    refine ⟨rfl, fun φ => ⟨rfl, Nat.le_refl _, fun h => by simp at h, fun h => by simp at h, fun j hj => ?_, fun h => by simp at h⟩⟩
    have : j < 0 := hj
    omega
  have none' : N = 0 → AtR W ⟨⟨0, 0, 0, false⟩, fun _ => ⟨0, 0, 0, false⟩⟩ k N ln T d := by
    rintro rfl
    refine ⟨rfl, fun r => dummy _ (hout r (Nat.zero_le _)).1, fun φ _ => ⟨rfl, Nat.le_refl _, fun h => by simp at h, fun h => by simp at h, fun j hj => ?_, fun h => by simp at h⟩⟩
    have : j < 0 := hj
    omega
  rcases h with ⟨rfl, hN, rfl, rfl⟩ | ⟨x, A, C, rfl, hl, hNc, hx⟩
  · exact ⟨_, none' hN, fun φ hd => ⟨none, 0, rfl, Nat.le_refl _, .inl rfl⟩⟩
  · subst hNc
    by_cases hc : N = 0
    · exact ⟨_, none' hc, fun φ hd => ⟨some x, N, rfl, hl, .inl hc⟩⟩
    · have hrow : ∀ r, ∃ l : Loc, At W l k (T r) ∧ (r < N → ∀ (φ : Phi) (d i : Nat), φ d i = some l → RV φ (.c (.sl d i 0 (ln r) 1)) (.slice (A r) (ln r) (C r))) := by
        intro r
        by_cases hr : r < N
        · obtain ⟨l, h1, h2⟩ := ((hx r hr).2).locI
          exact ⟨l, h1, fun _ => h2⟩
        · exact ⟨_, dummy _ (hout r (by omega)).1, fun h => absurd h hr⟩
      let row := fun r => Classical.choose (hrow r)
      have hrow' : ∀ r, At W (row r) k (T r) ∧ (r < N → ∀ (φ : Phi) (d i : Nat), φ d i = some (row r) → RV φ (.c (.sl d i 0 (ln r) 1)) (.slice (A r) (ln r) (C r))) := fun r => Classical.choose_spec (hrow r)
      have h0 := (hx 0 (by omega)).1
      have hlast := (hx (N - 1) (by omega)).1
      have h0 : W.cell? x = some (.slice (A 0) (ln 0) (C 0)) := h0
      have key : ∃ c T fr, W.heap[x.block]? = some (.cells c T fr) ∧ x.spot = none := by
        unfold World.cell? at h0
        split at h0
        · rename_i c T fr hh
          refine ⟨c, T, fr, hh, ?_⟩
          cases hs : x.spot with
          | none => rfl
          | some s => rw [hs] at h0; simp at h0
        · simp at h0
      obtain ⟨c, TT, fr, hh, hs⟩ := key
      obtain ⟨xb, xo, xs⟩ := x
      dsimp only at hs hh
      subst hs
      have hsz : xo + (N - 1) < c.size := by
        rw [addr_add0] at hlast
        unfold World.cell? at hlast
        simp only [hh] at hlast
        simp at hlast
        exact (Array.getElem?_eq_some_iff.mp hlast).1
      refine ⟨⟨⟨xb, xo, c.size, false⟩, row⟩, ⟨rfl, fun r => (hrow' r).1, fun φ hφ => ⟨rfl, ?_, fun h => by simp at h, fun _ => ⟨TT, by simp [World.shape?, hh]⟩, fun j hj => ?_, fun h => by simp at h⟩⟩, fun φ hφ => ⟨_, N, rfl, hl, .inr ⟨_, hφ, rfl, fun h => by simp at h⟩⟩⟩
      · show xo + N ≤ c.size
        omega
      · have hj' : j < N := hj
        have h1 := (hx j hj').1
        rw [addr_add0] at h1
        exact ⟨_, h1, (hrow' j).2 hj' φ (d + 1) j (hφ j)⟩
section
open Go.ChangeShapes Go.WideShapes Go.ChangeAt Go.RowKit Go.Deep
variable {H : Type} {enc : TypeId × Value → H} {P : Program} {t e q : TypeId} {k : IntKind} {W : World} {base : Nat} {held : Bool}
end
end Go.Proofs.Ytohleiikedpmkaa.Vm

namespace Go.Proofs.Ytohleiikedpmkaa.Vm
open Go
inductive Sr
  | one (k : Blk)
  | fam (k : Blk) (rows : Nat → Blk)
inductive Lc
  | one (l : Loc)
  | fam (l : LocR)
def memS : List Sr → Nat → Mem
  | [], _ => []
  | .one k :: r, n => (n, .one k) :: memS r (n + 1)
  | .fam k rows :: r, n => (n, .one k) :: (n + 1, .many fun j => some (rows j)) :: memS r (n + 2)
def topS : List Sr → Nat → Nat
  | [], n => n
  | .one _ :: r, n => topS r (n + 1)
  | .fam _ _ :: r, n => topS r (n + 2)
def phiS : List Lc → Nat → Phi
  | [], _, _, _ => none
  | .one l :: r, n, b, i => if b = n then (if i = 0 then some l else none) else phiS r (n + 1) b i
  | .fam l :: r, n, b, i => if b = n then (if i = 0 then some l.head else none) else if b = n + 1 then some (l.row i) else phiS r (n + 2) b i
def phi0 (ls : List Lc) : Phi := fun b i => if b = 0 then some ⟨i, 0, 0, false⟩ else phiS ls 1 b i
def AllS (W : World) : List Sr → List Lc → Nat → Prop
  | [], [], _ => True
  | .one k :: r, .one l :: r', n => (l.own = false ∧ ∀ φ, RB φ l k W) ∧ AllS W r r' (n + 1)
  | .fam k rows :: r, .fam l :: r', n => (l.head.own = false ∧ (∀ j, (l.row j).own = false ∧ ∀ φ, RB φ (l.row j) (rows j) W) ∧ ∀ φ : Phi, (∀ j, φ (n + 1) j = some (l.row j)) → RB φ l.head k W) ∧ AllS W r r' (n + 2)
  | _, _, _ => False
theorem AllS.look {W : World} : ∀ {ls : List Sr} {ls' : List Lc} {n : Nat} {φ : Phi}, AllS W ls ls' n → (∀ b i, n ≤ b → φ b i = phiS ls' n b i) →
    ∀ {b i : Nat} {k : Blk}, look (memS ls n) b i = some k → ∃ l, φ b i = some l ∧ l.own = false ∧ RB φ l k W
  | [], [], n, φ, _, _, b, i, k, hk => by simp [memS, Vm.look, ent] at hk
  | .one k0 :: r, .one l :: r', n, φ, h, hφ, b, i, k, hk => by
    unfold Vm.look at hk
    simp only [memS, ent] at hk
    by_cases hb : n = b
    · subst hb
      simp only [Nat.beq_refl, cond_true, Ent.at] at hk
      cases hi : Nat.beq i 0 with
      | false => rw [hi] at hk; simp at hk
      | true =>
        rw [hi] at hk; simp only [cond_true] at hk; injection hk with hk
        have : i = 0 := Nat.eq_of_beq_eq_true hi
        subst this; subst hk
        refine ⟨l, ?_, h.1.1, h.1.2 φ⟩
        rw [hφ _ _ (Nat.le_refl _)]; simp [phiS]
    · rw [beqF hb] at hk
      simp only [cond_false] at hk
      refine AllS.look (n := n + 1) h.2 (fun b i hbi => ?_) (by unfold Vm.look; exact hk)
      rw [hφ b i (by omega)]
      have : ¬ b = n := by omega
      simp [phiS, this]
  | .fam k0 rows :: r, .fam l :: r', n, φ, h, hφ, b, i, k, hk => by
    unfold Vm.look at hk
    simp only [memS, ent] at hk
    have hrow : ∀ j, φ (n + 1) j = some (l.row j) := by
      intro j
      rw [hφ _ _ (by omega)]; simp [phiS]
    by_cases hb : n = b
    · subst hb
      simp only [Nat.beq_refl, cond_true, Ent.at] at hk
      cases hi : Nat.beq i 0 with
      | false => rw [hi] at hk; simp at hk
      | true =>
        rw [hi] at hk; simp only [cond_true] at hk; injection hk with hk
        have : i = 0 := Nat.eq_of_beq_eq_true hi
        subst this; subst hk
        refine ⟨l.head, ?_, h.1.1, h.1.2.2 φ hrow⟩
        rw [hφ _ _ (Nat.le_refl _)]; simp [phiS]
    · rw [beqF hb] at hk
      simp only [cond_false] at hk
      by_cases hb2 : n + 1 = b
      · subst hb2
        simp only [Nat.beq_refl, cond_true, Ent.at] at hk
        injection hk with hk; subst hk
        exact ⟨l.row i, hrow i, (h.1.2.1 i).1, (h.1.2.1 i).2 φ⟩
      · rw [beqF hb2] at hk
        simp only [cond_false] at hk
        refine AllS.look (n := n + 2) h.2 (fun b i hbi => ?_) (by unfold Vm.look; exact hk)
        rw [hφ b i (by omega)]
        have e1 : ¬ b = n := by omega
        have e2 : ¬ b = n + 1 := by omega
        simp [phiS, e1, e2]
  | [], .one _ :: _, _, _, h, _, _, _, _, _ => h.elim
  | [], .fam _ :: _, _, _, h, _, _, _, _, _ => h.elim
  | .one _ :: _, [], _, _, h, _, _, _, _, _ => h.elim
  | .one _ :: _, .fam _ :: _, _, _, h, _, _, _, _, _ => h.elim
  | .fam _ _ :: _, [], _, _, h, _, _, _, _, _ => h.elim
  | .fam _ _ :: _, .one _ :: _, _, _, h, _, _, _, _, _ => h.elim
theorem AllS.fresh {W : World} : ∀ {ls : List Sr} {ls' : List Lc} {n : Nat}, AllS W ls ls' n → ∀ b, topS ls n ≤ b → ∀ i, phiS ls' n b i = none
  | [], [], _, _, _, _, _ => rfl
  | .one k :: r, .one l :: r', n, h, b, hb, i => by
    have h1 : ∀ (ls : List Sr) m, m ≤ topS ls m := by
      intro ls; induction ls with
      | nil => exact fun m => Nat.le_refl _
      | cons x r ih => intro m; cases x with
        | one => exact Nat.le_trans (by omega) (ih (m + 1))
        | fam => exact Nat.le_trans (by omega) (ih (m + 2))
    have hb : topS r (n + 1) ≤ b := hb
    have := h1 r (n + 1)
    have e : ¬ b = n := by omega
    simp only [phiS, if_neg e]
    exact AllS.fresh h.2 b hb i
  | .fam k rows :: r, .fam l :: r', n, h, b, hb, i => by
    have h1 : ∀ (ls : List Sr) m, m ≤ topS ls m := by
      intro ls; induction ls with
      | nil => exact fun m => Nat.le_refl _
      | cons x r ih => intro m; cases x with
        | one => exact Nat.le_trans (by omega) (ih (m + 1))
        | fam => exact Nat.le_trans (by omega) (ih (m + 2))
    have hb : topS r (n + 2) ≤ b := hb
    have := h1 r (n + 2)
    have e : ¬ b = n := by omega
    have e1 : ¬ b = n + 1 := by omega
    simp only [phiS, if_neg e, if_neg e1]
    exact AllS.fresh h.2 b hb i
  | [], .one _ :: _, _, h, _, _, _ => h.elim
  | [], .fam _ :: _, _, h, _, _, _ => h.elim
  | .one _ :: _, [], _, h, _, _, _ => h.elim
  | .one _ :: _, .fam _ :: _, _, h, _, _, _ => h.elim
  | .fam _ _ :: _, [], _, h, _, _, _ => h.elim
  | .fam _ _ :: _, .one _ :: _, _, h, _, _, _ => h.elim
theorem topS_le : ∀ (ls : List Sr) m, m ≤ topS ls m := by
  intro ls; induction ls with
  | nil => exact fun m => Nat.le_refl _
  | cons x r ih => intro m; cases x with
    | one => exact Nat.le_trans (by omega) (ih (m + 1))
    | fam => exact Nat.le_trans (by omega) (ih (m + 2))
theorem Contract0.law_src {P : Program} {f : Nat} {args : List V} {b : Bool} {vals : List Value} {kill : List Nat} (ls : List Sr)
    (h : Contract0 P f args (memS ls 1) (topS ls 1) (.c (.bool b)) kill []) (W : World) (ls' : List Lc) (hat : AllS W ls ls' 1) (hv : All2 (RV (phi0 ls')) args vals) :
    Calls P f vals.toArray W fun e W' => e = .returned (.bool b) ∧ RowKit.Below W.heap.size W W' := by
  have hz : ∀ {b i : Nat} {k : Blk}, look (memS ls 1) b i = some k → ∃ l, phi0 ls' b i = some l ∧ l.own = false ∧ RB (phi0 ls') l k W := by
    intro b i k hk
    exact hat.look (fun b i hb => by have : ¬ b = 0 := by omega
                                     simp [phi0, this]) hk
  have hm : RM (phi0 ls') (memS ls 1) W := by
    refine ⟨fun g => ⟨⟨g, 0, 0, false⟩, by simp [phi0], rfl, rfl⟩, fun b i k hk => ?_, fun b i k1 x b' i' k2 x' hk hk' hx _ ho => ?_⟩
    · obtain ⟨l, h1, _, h3⟩ := hz hk
      exact ⟨l, h1, h3⟩
    · obtain ⟨l, h1, h2, _⟩ := hz hk
      rw [h1] at hx; injection hx with hx; subst hx
      rw [h2] at ho; cases ho
  have hf : Fresh (phi0 ls') (topS ls 1) := by
    intro b hb i
    have := topS_le ls 1
    have e0 : ¬ b = 0 := by omega
    simp only [phi0, if_neg e0]
    exact hat.fresh b hb i
  refine (h (phi0 ls') W vals hm hf hv).mono ?_
  rintro e W' ⟨v, φ', he, hr, S⟩
  have : v = .bool b := hr
  subst this
  refine ⟨he, ⟨S.keeps.os, S.keeps.tape, S.keeps.output, S.keeps.size, fun q hq => S.keeps.block q hq ?_⟩⟩
  rintro ⟨b, i, k1, x, _, hk, hx, ho, _⟩
  obtain ⟨l, h1, h2, _⟩ := hz hk
  rw [h1] at hx; injection hx with hx; subst hx
  rw [h2] at ho; cases ho
end Go.Proofs.Ytohleiikedpmkaa.Vm

namespace Go.Proofs.Ytohleiikedpmkaa.Vm
open Go
inductive FK where
  | int (k : IntKind)
  | bool
  | str
def okFK : FK → C → Prop
  | .int k, .int k' n => k' = k ∧ (Lit.int k n).wf = true
  | .bool, .bool _ => True
  | .str, .str _ => True
  | _, _ => False
def cval : C → Value
  | .int k n => .int k n
  | .bool b => .bool b
  | .str s => .string s
  | _ => .pointer none
theorem okFK.rc {φ : Phi} : ∀ {k : FK} {c : C}, okFK k c → RC φ c (cval c)
  | .int _, .int _ _, _ => rfl
  | .bool, .bool _, _ => rfl
  | .str, .str _, _ => rfl
  | .int _, .bool _, h | .int _, .str _, h | .int _, .nilp, h | .int _, .ptr _ _ _, h | .int _, .nils, h | .int _, .sl _ _ _ _ _, h | .int _, .fn _ _, h | .int _, .nilf, h | .int _, .nili, h | .int _, .ifi _ _ _, h | .int _, .unk, h => h.elim
  | .bool, .int _ _, h | .bool, .str _, h | .bool, .nilp, h | .bool, .ptr _ _ _, h | .bool, .nils, h | .bool, .sl _ _ _ _ _, h | .bool, .fn _ _, h | .bool, .nilf, h | .bool, .nili, h | .bool, .ifi _ _ _, h | .bool, .unk, h => h.elim
  | .str, .int _ _, h | .str, .bool _, h | .str, .nilp, h | .str, .ptr _ _ _, h | .str, .nils, h | .str, .sl _ _ _ _ _, h | .str, .fn _ _, h | .str, .nilf, h | .str, .nili, h | .str, .ifi _ _ _, h | .str, .unk, h => h.elim
def fksF (P : Program) (g : Nat → Option (List FK)) : List Field → Nat → Option (List FK)
  | [], _ => some []
  | f :: r, off => bif Nat.beq f.offset off then (match g f.type with
    | some ks => bif Nat.beq (P.cellsOf f.type) ks.length then (match fksF P g r (off + ks.length) with | some l => some (ks ++ l) | none => none) else none
    | none => none) else none
def replF (ks : List FK) : Nat → List FK
  | 0 => []
  | n + 1 => ks ++ replF ks n
def fks (P : Program) : Nat → Nat → Option (List FK)
  | 0, _ => none
  | d + 1, t => match P.underlying t with
    | some (.int k) => some [.int k]
    | some .bool => some [.bool]
    | some .string => some [.str]
    | some (.struct fs) => fksF P (fks P d) fs.toList 0
    | some (.array n e) => match fks P d e with
      | some ks => bif Nat.beq (P.cellsOf e) ks.length then some (replF ks n) else none
      | none => none
    | _ => none
theorem take_drop_app {α : Type} (l : List α) (o a b : Nat) : (l.drop o).take (a + b) = (l.drop o).take a ++ (l.drop (o + a)).take b := by
  rw [List.take_add, List.drop_drop]
theorem replF_len (ks : List FK) : ∀ n, (replF ks n).length = n * ks.length
  | 0 => by simp [replF]
  | n + 1 => by simp [replF, replF_len ks n, Nat.succ_mul]; omega
section
open Go.ChangeShapes Go.WideShapes Go.ChangeAt Go.RowKit Go.Deep
variable {H : Type} {enc : TypeId × Value → H} {P : Program} {W : World} {base : Nat} {sp : Nat → Bool} {held : Bool}
def FlatOk (enc : TypeId × Value → H) (P : Program) (W : World) (base : Nat) (sp : Nat → Bool) (held : Bool) (g : Nat → Option (List FK)) : Prop :=
  ∀ t ks, g t = some ks → ∀ n cs x, DataW.trod enc P W base sp held n t cs = some x → cs.length = ks.length → ∃ l : List C, All2 okFK ks l ∧ cs = l.map cval
theorem fksF_trod {g : Nat → Option (List FK)} (hg : FlatOk enc P W base sp held g) {n : Nat} {cs : List Value} : ∀ (r : List Field) (off : Nat) (ks : List FK), fksF P g r off = some ks →
    (∀ f ∈ r, ∃ y, DataW.trod enc P W base sp held n f.type ((cs.drop f.offset).take (P.cellsOf f.type)) = some y) → off + ks.length ≤ cs.length → ∃ l : List C, All2 okFK ks l ∧ (cs.drop off).take ks.length = l.map cval
  | [], off, ks, h, _, _ => by
    simp [fksF] at h; subst h
    exact ⟨[], .nil, by simp⟩
  | f :: r, off, ks, h, ht, hl => by
    simp only [fksF] at h
    cases ho : Nat.beq f.offset off with
    | false => rw [ho] at h; simp at h
    | true =>
      have ho' := Nat.eq_of_beq_eq_true ho
      rw [ho] at h
      simp only [cond_true] at h
      cases hk : g f.type with
      | none => rw [hk] at h; simp at h
      | some k1 =>
        rw [hk] at h
        simp only at h
        cases hc : Nat.beq (P.cellsOf f.type) k1.length with
        | false => rw [hc] at h; simp at h
        | true =>
          have hc' := Nat.eq_of_beq_eq_true hc
          rw [hc] at h
          simp only [cond_true] at h
          cases hr : fksF P g r (off + k1.length) with
          | none => rw [hr] at h; simp at h
          | some k2 =>
            rw [hr] at h
            simp only [Option.some.injEq] at h
            subst h
            rw [List.length_append] at hl
            obtain ⟨y, hy⟩ := ht f (by simp)
            rw [ho', hc'] at hy
            obtain ⟨l1, a1, e1⟩ := hg _ _ hk _ _ _ hy (by rw [List.length_take, List.length_drop]; omega)
            obtain ⟨l2, a2, e2⟩ := fksF_trod hg r _ _ hr (fun f' hf' => ht f' (by simp [hf'])) (by omega)
            exact ⟨l1 ++ l2, a1.append a2, by rw [List.length_append, take_drop_app, e1, e2, List.map_append]⟩
theorem fks_trod : ∀ d, FlatOk enc P W base sp held (fks P d)
  | 0 => fun t ks h => by simp [fks] at h
  | d + 1 => by
    intro t ks h n cs x hx hlen
    simp only [fks] at h
    cases ht : P.underlying t with
    | none => rw [ht] at h; simp at h
    | some u =>
      rw [ht] at h
      cases u with
      | int k =>
        simp only [Option.some.injEq] at h; subst h
        obtain ⟨a, rfl, _, hw⟩ := DataW.trod_int ht hx
        exact ⟨[.int k a], .cons ⟨rfl, hw⟩ .nil, rfl⟩
      | bool =>
        simp only [Option.some.injEq] at h; subst h
        obtain ⟨b, rfl, _⟩ := DataW.trod_bool ht hx
        exact ⟨[.bool b], .cons trivial .nil, rfl⟩
      | string =>
        simp only [Option.some.injEq] at h; subst h
        obtain ⟨s, rfl, _⟩ := DataW.trod_string ht hx
        exact ⟨[.str s], .cons trivial .nil, rfl⟩
      | struct fs =>
        simp only at h
        obtain ⟨xs, m, _, _, _, hxl, hf⟩ := DataW.trod_struct ht hx
        obtain ⟨l, a, e⟩ := fksF_trod (fks_trod d) (n := m) (cs := cs) fs.toList 0 ks h (fun f hf' => by
          obtain ⟨i, hi, e⟩ := List.mem_iff_getElem.1 hf'
          have e1 : fs[i]? = some f := by
            rw [Array.getElem?_eq_some_iff]
            exact ⟨by simpa using hi, by simpa using e⟩
          have := hf i f e1
          have hi' : i < xs.length := by rw [hxl]; simpa using hi
          exact ⟨xs[i], by rw [this, List.getElem?_eq_getElem hi']⟩) (by omega)
        refine ⟨l, a, ?_⟩
        rw [← e, List.drop_zero, List.take_of_length_le (by omega)]
      | array m e =>
        simp only at h
        cases hk : fks P d e with
        | none => rw [hk] at h; simp at h
        | some k1 =>
          rw [hk] at h
          simp only at h
          cases hc : Nat.beq (P.cellsOf e) k1.length with
          | false => rw [hc] at h; simp at h
          | true =>
            have hc' := Nat.eq_of_beq_eq_true hc
            rw [hc] at h
            simp only [cond_true, Option.some.injEq] at h
            subst h
            rw [replF_len] at hlen
            obtain ⟨q, hq⟩ : ∃ q, ∀ i, i < m → ∃ y, DataW.trod enc P W base sp held q e ((cs.drop (i * k1.length)).take k1.length) = some y := by
              obtain ⟨xs, q, _, _, _, hxl, hf⟩ := DataW.trod_array ht hx
              refine ⟨q, fun i hi => ?_⟩
              have := hf i hi
              rw [hc'] at this
              exact ⟨xs[i]'(by omega), by rw [this, List.getElem?_eq_getElem (by omega)]⟩
            have key : ∀ j i, i + j = m → ∃ l : List C, All2 okFK (replF k1 j) l ∧ (cs.drop (i * k1.length)).take (j * k1.length) = l.map cval := by
              intro j
              induction j with
              | zero => exact fun i _ => ⟨[], .nil, by simp⟩
              | succ j ih =>
                intro i hij
                obtain ⟨y, hy⟩ := hq i (by omega)
                have hb : i * k1.length + k1.length ≤ m * k1.length := by
                  have := Nat.mul_le_mul_right k1.length (show i + 1 ≤ m by omega)
                  rw [Nat.succ_mul] at this; exact this
                obtain ⟨l1, a1, e1⟩ := fks_trod d _ _ hk _ _ _ hy (by rw [List.length_take, List.length_drop]; omega)
                obtain ⟨l2, a2, e2⟩ := ih (i + 1) (by omega)
                refine ⟨l1 ++ l2, a1.append a2, ?_⟩
                rw [Nat.succ_mul, Nat.add_comm (j * k1.length), take_drop_app, e1, List.map_append, ← e2, Nat.succ_mul i]
            obtain ⟨l, a, e⟩ := key m 0 (by omega)
            refine ⟨l, a, ?_⟩
            rw [← e, Nat.zero_mul, List.drop_zero, List.take_of_length_le (by omega)]
      | _ => simp at h
end
inductive Col where
  | fl (k : FK)
  | sl (t : Nat) (ks : List FK)
def colOf (P : Program) (d t : Nat) : Option (List Col) :=
  match P.underlying t with
  | some (.slice q) => match fks P d q with
    | some ks => bif Nat.beq (P.cellsOf q) ks.length && Nat.beq (P.cellsOf t) 1 && Nat.blt 0 ks.length then some [.sl t ks] else none
    | none => none
  | _ => match fks P d t with
    | some ks => bif Nat.beq (P.cellsOf t) ks.length then some (ks.map .fl) else none
    | none => none
def ecolsF (P : Program) (d : Nat) : List Field → Nat → Option (List Col)
  | [], _ => some []
  | f :: r, off => bif Nat.beq f.offset off then (match colOf P d f.type with
    | some cs => (match ecolsF P d r (off + cs.length) with | some l => some (cs ++ l) | none => none)
    | none => none) else none
def ecols (P : Program) (d t : Nat) : Option (List Col) :=
  match P.underlying t with
  | some (.struct fs) => ecolsF P d fs.toList 0
  | _ => none
section
open Go.ChangeShapes Go.WideShapes Go.ChangeAt Go.RowKit Go.Deep
variable {H : Type} {enc : TypeId × Value → H} {P : Program} {W : World} {base : Nat} {held : Bool}
def okCol (enc : TypeId × Value → H) (P : Program) (W : World) (base : Nat) (held : Bool) (L : List (DataW H)) : Col → Value → Prop
  | .fl k, v => ∃ c, okFK k c ∧ v = cval c
  | .sl t _, v => ∃ m z, DataW.trod enc P W base (fun _ => true) held m t [v] = some z ∧ z.1 ∈ L
theorem All2.flmap {L : List (DataW H)} : ∀ {ks : List FK} {l : List C}, All2 okFK ks l → All2 (okCol enc P W base held L) (ks.map .fl) (l.map cval)
  | _, _, .nil => .nil
  | _, _, .cons h t => .cons ⟨_, h, rfl⟩ t.flmap
theorem colOf_trod {d n t : Nat} {cs : List Value} {L : List (DataW H)} {cl : List Col} {y : DataW H × List MemPlace} (hc : colOf P d t = some cl) (hy : DataW.trod enc P W base (fun _ => true) held n t cs = some y) (hL : y.1 ∈ L) (hlen : cs.length = P.cellsOf t) :
    P.cellsOf t = cl.length ∧ All2 (okCol enc P W base held L) cl cs := by
  unfold colOf at hc
  split at hc
  · rename_i q hq
    split at hc
    · rename_i ks hk
      cases hb : (Nat.beq (P.cellsOf q) ks.length && Nat.beq (P.cellsOf t) 1 && Nat.blt 0 ks.length) with
      | false => rw [hb] at hc; simp at hc
      | true =>
        rw [hb] at hc
        simp only [cond_true, Option.some.injEq] at hc
        subst hc
        simp only [Bool.and_eq_true] at hb
        have h1 := Nat.eq_of_beq_eq_true hb.1.2
        rw [h1] at hlen
        match cs, hlen with
        | [v], _ => exact ⟨h1, .cons ⟨n, y, hy, hL⟩ .nil⟩
    · simp at hc
  · split at hc
    · rename_i ks hk
      cases hb : Nat.beq (P.cellsOf t) ks.length with
      | false => rw [hb] at hc; simp at hc
      | true =>
        have h1 := Nat.eq_of_beq_eq_true hb
        rw [hb] at hc
        simp only [cond_true, Option.some.injEq] at hc
        subst hc
        obtain ⟨l, a, e⟩ := fks_trod d t ks hk _ _ _ hy (by rw [hlen, h1])
        exact ⟨by rw [List.length_map]; exact h1, by rw [e]; exact a.flmap⟩
    · simp at hc
theorem ecolsF_trod {d n : Nat} {cs : List Value} {L : List (DataW H)} : ∀ (r : List Field) (off : Nat) (cl : List Col), ecolsF P d r off = some cl →
    (∀ f ∈ r, ∃ y, DataW.trod enc P W base (fun _ => true) held n f.type ((cs.drop f.offset).take (P.cellsOf f.type)) = some y ∧ y.1 ∈ L) → off + cl.length ≤ cs.length →
    (∀ f ∈ r, f.offset + P.cellsOf f.type ≤ cs.length) → All2 (okCol enc P W base held L) cl ((cs.drop off).take cl.length)
  | [], off, cl, h, _, _, _ => by
    simp [ecolsF] at h; subst h
    simp; exact .nil
  | f :: r, off, cl, h, ht, hl, hfit => by
    simp only [ecolsF] at h
    cases ho : Nat.beq f.offset off with
    | false => rw [ho] at h; simp at h
    | true =>
      have ho' := Nat.eq_of_beq_eq_true ho
      rw [ho] at h
      simp only [cond_true] at h
      cases hk : colOf P d f.type with
      | none => rw [hk] at h; simp at h
      | some c1 =>
        rw [hk] at h
        simp only at h
        cases hr : ecolsF P d r (off + c1.length) with
        | none => rw [hr] at h; simp at h
        | some c2 =>
          rw [hr] at h
          simp only [Option.some.injEq] at h
          subst h
          rw [List.length_append] at hl
          obtain ⟨y, hy, hyL⟩ := ht f (by simp)
          have hfit0 := hfit f (by simp)
          rw [ho'] at hy hfit0
          obtain ⟨e1, a1⟩ := colOf_trod hk hy hyL (by rw [List.length_take, List.length_drop]; omega)
          rw [e1] at a1
          have a2 := ecolsF_trod r _ _ hr (fun f' hf' => ht f' (by simp [hf'])) (by omega) (fun f' hf' => hfit f' (by simp [hf']))
          rw [List.length_append, take_drop_app]
          exact a1.append a2
theorem ecolsF_fit {d : Nat} : ∀ (r : List Field) (off : Nat) (cl : List Col), ecolsF P d r off = some cl → (∀ t cs, colOf P d t = some cs → P.cellsOf t = cs.length) → ∀ f ∈ r, f.offset + P.cellsOf f.type ≤ off + cl.length
  | [], _, _, _, _ => fun f hf => by simp at hf
  | f :: r, off, cl, h, hc => by
    simp only [ecolsF] at h
    cases ho : Nat.beq f.offset off with
    | false => rw [ho] at h; simp at h
    | true =>
      have ho' := Nat.eq_of_beq_eq_true ho
      rw [ho] at h
      simp only [cond_true] at h
      cases hk : colOf P d f.type with
      | none => rw [hk] at h; simp at h
      | some c1 =>
        rw [hk] at h
        simp only at h
        cases hr : ecolsF P d r (off + c1.length) with
        | none => rw [hr] at h; simp at h
        | some c2 =>
          rw [hr] at h
          simp only [Option.some.injEq] at h
          subst h
          intro f' hf'
          rw [List.length_append]
          rcases List.mem_cons.1 hf' with e | e
          · subst e; have := hc _ _ hk; omega
          · have := ecolsF_fit r _ _ hr hc f' e; omega
theorem colOf_len {d t : Nat} {cl : List Col} (hc : colOf P d t = some cl) : P.cellsOf t = cl.length := by
  unfold colOf at hc
  split at hc
  · split at hc
    · rename_i ks hk
      cases hb : (Nat.beq (P.cellsOf _) ks.length && Nat.beq (P.cellsOf t) 1 && Nat.blt 0 ks.length) with
      | false => rw [hb] at hc; simp at hc
      | true =>
        rw [hb] at hc
        simp only [cond_true, Option.some.injEq] at hc
        subst hc
        simp only [Bool.and_eq_true] at hb
        exact Nat.eq_of_beq_eq_true hb.1.2
    · simp at hc
  · split at hc
    · rename_i ks hk
      cases hb : Nat.beq (P.cellsOf t) ks.length with
      | false => rw [hb] at hc; simp at hc
      | true =>
        rw [hb] at hc
        simp only [cond_true, Option.some.injEq] at hc
        subst hc
        rw [List.length_map]; exact Nat.eq_of_beq_eq_true hb
    · simp at hc
theorem ecols_trod {d n e : Nat} {cs : List Value} {cl : List Col} {y : DataW H × List MemPlace} (hc : ecols P d e = some cl) (hw : P.cellsOf e = cl.length) (hy : DataW.trod enc P W base (fun _ => true) held n e cs = some y) :
    ∃ L, y.1 = .agg L ∧ All2 (okCol enc P W base held L) cl cs := by
  unfold ecols at hc
  split at hc
  · rename_i fs hfs
    obtain ⟨xs, m, _, rfl, hlen, hxl, hf⟩ := DataW.trod_struct hfs hy
    refine ⟨xs.map (·.1), rfl, ?_⟩
    have hfit := ecolsF_fit _ _ _ hc (fun t cs h => colOf_len h)
    have := ecolsF_trod (enc := enc) (W := W) (base := base) (held := held) (n := m) (cs := cs) (L := xs.map (·.1)) fs.toList 0 cl hc (fun f hf' => by
      obtain ⟨i, hi, e⟩ := List.mem_iff_getElem.1 hf'
      have e1 : fs[i]? = some f := by
        rw [Array.getElem?_eq_some_iff]
        exact ⟨by simpa using hi, by simpa using e⟩
      have := hf i f e1
      have hi' : i < xs.length := by rw [hxl]; simpa using hi
      exact ⟨xs[i], by rw [this, List.getElem?_eq_getElem hi'], List.mem_map.2 ⟨xs[i], List.getElem_mem hi', rfl⟩⟩) (by omega) (fun f hf' => by have := hfit f hf'; omega)
    rw [List.drop_zero, List.take_of_length_le (by omega)] at this
    exact this
  · simp at hc
def SrcF (W : World) (ks : List FK) (T : List C) (len cap : Nat) (a : Option Addr) : Prop :=
  All2 okFK (replF ks cap) T ∧ len ≤ cap ∧ ((a = none ∧ len = 0 ∧ cap = 0) ∨ ∃ x, a = some x ∧ ∀ p, p < T.length → W.cell? (x.add p) = some (cval (T.getD p .unk)))
theorem All2.replF_app {ks : List FK} {l1 l2 : List C} {n : Nat} (h : All2 okFK ks l1) (h' : All2 okFK (replF ks n) l2) : All2 okFK (replF ks (n + 1)) (l1 ++ l2) := h.append h'
theorem SrcF.open {d t q m : Nat} {ks : List FK} {v : Value} {z : DataW H × List MemPlace} (ht : P.underlying t = some (.slice q)) (hk : fks P d q = some ks) (hq : P.cellsOf q = ks.length) (hz : DataW.trod enc P W base (fun _ => true) held m t [v] = some z) :
    ∃ a len cap T, v = .slice a len cap ∧ SrcF W ks T len cap a ∧ (cap = 0 ∨ ∃ E S, z.1 = .slice E S ∧ E.length + S.length = cap ∧ E.length = len) := by
  rcases open_slice ht hz with ⟨hcs, _⟩ | ⟨x, len, cap, mm, n, D, Pl, hcs, _, hl, _, hmm, rfl, hx⟩
  · injection hcs with hv
    exact ⟨none, 0, 0, [], hv, ⟨.nil, Nat.le_refl _, .inl ⟨rfl, rfl, rfl⟩⟩, .inl rfl⟩
  · injection hcs with hv
    simp only [if_true] at hmm
    subst hmm
    have key : ∀ j, j ≤ mm → ∃ T : List C, All2 okFK (replF ks j) T ∧ ∀ p, p < T.length → W.cell? (x.add ((mm - j) * ks.length + p)) = some (cval (T.getD p .unk)) := by
      intro j
      induction j with
      | zero => exact fun _ => ⟨[], .nil, fun p hp => by simp at hp⟩
      | succ j ih =>
        intro hj
        obtain ⟨T, hT, hc⟩ := ih (by omega)
        obtain ⟨cs', h1, h2⟩ := hx (mm - (j + 1)) (by omega)
        rw [hq] at h1
        obtain ⟨_, hlen, hcell⟩ := World.cells?_some h1
        obtain ⟨l, a, e⟩ := fks_trod d q ks hk _ _ _ h2 hlen
        have hll : l.length = ks.length := a.length.symm
        refine ⟨l ++ T, a.replF_app hT, fun p hp => ?_⟩
        by_cases hpl : p < ks.length
        · have := hcell p hpl
          rw [add_add] at this
          rw [this, e]
          rw [List.getElem?_map, List.getElem?_eq_getElem (by omega), Option.map_some]
          rw [List.getD_eq_getElem?_getD, List.getElem?_append_left (by omega), List.getElem?_eq_getElem (by omega), Option.getD_some]
        · have := hc (p - ks.length) (by rw [List.length_append] at hp; omega)
          rw [List.getD_eq_getElem?_getD, List.getElem?_append_right (by omega), hll, ← List.getD_eq_getElem?_getD, ← this]
          congr 2
          have e1 : mm - j = mm - (j + 1) + 1 := by omega
          rw [e1, Nat.succ_mul]; omega
    obtain ⟨T, hT, hc⟩ := key mm (Nat.le_refl _)
    refine ⟨some x, len, mm, T, hv, ⟨hT, hl, .inr ⟨x, rfl, fun p hp => ?_⟩⟩, .inr ⟨_, _, rfl, by simp; omega, by simp⟩⟩
    have := hc p hp
    rwa [Nat.sub_self, Nat.zero_mul, Nat.zero_add] at this
end
section
open Go.ChangeShapes Go.WideShapes Go.ChangeAt Go.RowKit Go.Deep
variable {W : World}
theorem loc_cells {x : Addr} {n : Nat} {v : Nat → Value} (h : ∀ p, p < n → W.cell? (x.add p) = some (v p)) :
    ∃ l : Loc, l.own = false ∧ (∀ (φ : Phi) (f : Nat → C), (∀ p, p < n → RC φ (f p) (v p)) → RB φ l ⟨false, false, .gen n f⟩ W) ∧
      (∀ (φ : Phi) (d i ln cap es : Nat), φ d i = some l → ln ≤ cap → (n = 0 → cap = 0) → RC φ (.sl d i 0 ln es) (.slice (some x) ln cap)) := by
  by_cases hn : n = 0
  · refine ⟨⟨0, 0, 0, false⟩, rfl, fun φ f _ => ⟨rfl, by show 0 + n ≤ 0; omega, fun h => by simp at h, fun h => by simp at h, fun j hj => ?_, fun h => by simp at h⟩, fun φ d i ln cap es _ hle h0 => ⟨_, cap, rfl, hle, .inl (h0 hn)⟩⟩
    have : j < n := hj
    omega
  · have h0 := h 0 (by omega)
    have hlast := h (n - 1) (by omega)
    have h0 : W.cell? x = some (v 0) := h0
    have key : ∃ c T fr, W.heap[x.block]? = some (.cells c T fr) ∧ x.spot = none := by
      unfold World.cell? at h0
      split at h0
      · rename_i c T fr hh
        refine ⟨c, T, fr, hh, ?_⟩
        cases hs : x.spot with
        | none => rfl
        | some s => rw [hs] at h0; simp at h0
      · simp at h0
    obtain ⟨c, T, fr, hh, hs⟩ := key
    obtain ⟨xb, xo, xs⟩ := x
    dsimp only at hs hh
    subst hs
    have hsz : xo + (n - 1) < c.size := by
      rw [addr_add0] at hlast
      unfold World.cell? at hlast
      simp only [hh] at hlast
      simp at hlast
      exact (Array.getElem?_eq_some_iff.mp hlast).1
    refine ⟨⟨xb, xo, c.size, false⟩, rfl, fun φ f hf => ⟨rfl, ?_, fun h => by simp at h, fun _ => ⟨T, by simp [World.shape?, hh]⟩, fun j hj => ?_, fun h => by simp at h⟩, fun φ d i ln cap es hφ hle _ => ⟨_, cap, rfl, hle, .inr ⟨_, hφ, rfl, fun h => by simp at h⟩⟩⟩
    · show xo + n ≤ c.size
      omega
    · have hj' : j < n := hj
      have h1 := h j hj'
      rw [addr_add0] at h1
      exact ⟨_, h1, hf j hj'⟩
theorem All2.rc {φ : Phi} : ∀ {ks : List FK} {T : List C}, All2 okFK ks T → ∀ p, p < T.length → RC φ (T.getD p .unk) (cval (T.getD p .unk))
  | _, _, .nil, p, hp => by simp at hp
  | _, _, .cons h t, p, hp => by
    cases p with
    | zero => exact h.rc
    | succ p => simpa using t.rc p (by simpa using hp)
theorem SrcF.loc {ks : List FK} {T : List C} {len cap : Nat} {a : Option Addr} (h : SrcF W ks T len cap a) (hk : 0 < ks.length) :
    ∃ l : Loc, l.own = false ∧ (∀ φ, RB φ l ⟨false, false, .cells T⟩ W) ∧ ∀ (φ : Phi) (d i : Nat), φ d i = some l → RC φ (.sl d i 0 len ks.length) (.slice a len cap) := by
  obtain ⟨hT, hl, h⟩ := h
  have hlen := hT.length
  rw [replF_len] at hlen
  rcases h with ⟨rfl, rfl, rfl⟩ | ⟨x, rfl, hc⟩
  · have : T = [] := List.length_eq_zero_iff.1 (by omega)
    subst this
    exact ⟨⟨0, 0, 0, false⟩, rfl, fun φ => ⟨rfl, Nat.le_refl _, fun h => by simp at h, fun h => by simp at h, fun j hj => by have : j < 0 := hj; omega, fun h => by simp at h⟩, fun φ d i _ => ⟨_, 0, rfl, Nat.le_refl _, .inl rfl⟩⟩
  · obtain ⟨l, h1, h2, h3⟩ := loc_cells (W := W) (v := fun p => cval (T.getD p .unk)) hc
    refine ⟨l, h1, fun φ => ?_, fun φ d i hd => h3 φ d i _ _ _ hd hl (fun h0 => ?_)⟩
    · have H := h2 φ (fun p => T.getD p .unk) (fun p hp => hT.rc p hp)
      exact ⟨H.own, H.fits, H.exact, H.there, H.cell, H.free⟩
    · rw [h0] at hlen
      rcases Nat.mul_eq_zero.1 hlen with e | e
      · exact e
      · omega
def FK.dflt : FK → C
  | .int k => .int k 0
  | .bool => .bool false
  | .str => .str .empty
theorem FK.dflt_ok : ∀ k : FK, okFK k k.dflt
  | .int k => ⟨rfl, by cases k <;> decide⟩
  | .bool => trivial
  | .str => trivial
structure Fd where
  c : C
  ln : Nat
  cp : Nat
  T : List C
  l : Loc
def okFd (W : World) (F : Nat → Nat) (x : Addr) (w N i j : Nat) (B : Nat) : Option Col → Fd → Prop
  | none, _ => True
  | some (.fl k), s => okFK k s.c ∧ (i < N → W.cell? (x.add (i * w + j)) = some (cval s.c))
  | some (.sl _ ks), s => s.c = .sl (F j) i 0 s.ln ks.length ∧ All2 okFK (replF ks s.cp) s.T ∧ s.ln ≤ s.cp ∧ s.cp ≤ B ∧ s.l.own = false ∧ (∀ φ, RB φ s.l ⟨false, false, .cells s.T⟩ W) ∧
      (i < N → ∃ v, W.cell? (x.add (i * w + j)) = some v ∧ ∀ φ : Phi, φ (F j) i = some s.l → RC φ s.c v)
theorem All2.getO {α β : Type} {R : α → β → Prop} {l : List α} {m : List β} (h : All2 R l m) {j : Nat} {a : α} (e : l[j]? = some a) : ∃ b, m[j]? = some b ∧ R a b := h.get j a e
theorem open_recs {H : Type} {enc : TypeId × Value → H} {P : Program} {base : Nat} {held : Bool} {d t e n : Nat} {cl : List Col} {a : Option Addr} {len cap : Nat} {x : DataW H × List MemPlace} (F : Nat → Nat) (D : Nat)
    (ht : P.underlying t = some (.slice e)) (hc : ecols P d e = some cl) (hw : P.cellsOf e = cl.length) (h0 : 0 < cl.length) (hsl : ∀ (j t : Nat) (ks : List FK), cl[j]? = some (Col.sl t ks) → ∃ q, P.underlying t = some (.slice q) ∧ fks P d q = some ks ∧ P.cellsOf q = ks.length ∧ 0 < ks.length)
    (hx : DataW.trod enc P W base (fun _ => true) held n t (Value.slice a len cap).cells.toList = some x)
    (β : DataW H → Nat) (b1 : ∀ E S, E.length + S.length ≤ β (.slice E S)) (b2 : ∀ L z, z ∈ L → β z ≤ β (.agg L)) (b3 : ∀ E S y, (y ∈ E ∨ y ∈ S) → β y ≤ β (.slice E S)) :
    ∃ (N : Nat) (f : Nat → Nat → Fd) (x0 : Addr) (lh : Loc), len ≤ N ∧ N ≤ β x.1 ∧ (∀ i j, okFd W F x0 cl.length N i j (β x.1) cl[j]? (f i j)) ∧ lh.own = false ∧
      (∀ φ : Phi, (∀ (i j t : Nat) (ks : List FK), cl[j]? = some (Col.sl t ks) → φ (F j) i = some (f i j).l) → RB φ lh ⟨false, false, .gen (N * cl.length) fun p => (f (p / cl.length) (p % cl.length)).c⟩ W) ∧
      ∀ φ : Phi, φ D 0 = some lh → RC φ (.sl D 0 0 len cl.length) (.slice a len cap) := by
  have dfl : ∀ x0 i j, ∃ s, okFd W F x0 cl.length 0 i j (β x.1) cl[j]? s := by
    intro x0 i j
    cases h : cl[j]? with
    | none => exact ⟨⟨.unk, 0, 0, [], ⟨0, 0, 0, false⟩⟩, trivial⟩
    | some c =>
      cases c with
      | fl k => exact ⟨⟨k.dflt, 0, 0, [], ⟨0, 0, 0, false⟩⟩, k.dflt_ok, fun h => by omega⟩
      | sl t ks => exact ⟨⟨.sl (F j) i 0 0 ks.length, 0, 0, [], ⟨0, 0, 0, false⟩⟩, rfl, .nil, Nat.le_refl _, Nat.zero_le _, rfl, fun φ => ⟨rfl, Nat.le_refl _, fun h => by simp at h, fun h => by simp at h, fun j hj => by have : j < 0 := hj; omega, fun h => by simp at h⟩, fun h => by omega⟩
  rcases open_slice ht hx with ⟨hcs, _⟩ | ⟨x0, len', cap', mm, nn, Dd, Pl, hcs, _, hl, _, hmm, hxe, hel⟩
  · simp [Value.cells] at hcs
    obtain ⟨rfl, rfl, rfl⟩ := hcs
    refine ⟨0, fun i j => Classical.choose (dfl ⟨0, 0, none⟩ i j), ⟨0, 0, none⟩, ⟨0, 0, 0, false⟩, Nat.le_refl _, Nat.zero_le _, fun i j => Classical.choose_spec (dfl ⟨0, 0, none⟩ i j), rfl, fun φ _ => ⟨rfl, by show 0 + 0 * cl.length ≤ 0; omega, fun h => by simp at h, fun h => by simp at h, fun j hj => ?_, fun h => by simp at h⟩, fun φ _ => ⟨none, 0, rfl, Nat.le_refl _, .inl rfl⟩⟩
    have : j < 0 * cl.length := hj
    omega
  · simp [Value.cells] at hcs
    obtain ⟨rfl, rfl, rfl⟩ := hcs
    simp only [if_true] at hmm
    subst hmm
    have hx1 : x.1 = .slice ((List.range len).map Dd) ((List.range (mm - len)).map fun j => Dd (len + j)) := by rw [hxe]
    have hin : ∀ i, i < mm → β (Dd i) ≤ β x.1 := by
      intro i hi
      rw [hx1]
      refine b3 _ _ _ ?_
      by_cases h : i < len
      · exact .inl (List.mem_map.2 ⟨i, List.mem_range.2 h, rfl⟩)
      · exact .inr (List.mem_map.2 ⟨i - len, List.mem_range.2 (by omega), by rw [show len + (i - len) = i by omega]⟩)
    have hN : mm ≤ β x.1 := by
      have := b1 ((List.range len).map Dd) ((List.range (mm - len)).map fun j => Dd (len + j))
      rw [hx1]
      simp only [List.length_map, List.length_range] at this
      omega
    have each : ∀ i j, ∃ s, okFd W F x0 cl.length mm i j (β x.1) cl[j]? s := by
      intro i j
      by_cases hi : i < mm
      · obtain ⟨cs', h1, h2⟩ := hel i hi
        rw [hw] at h1
        obtain ⟨_, hlen, hcell⟩ := World.cells?_some h1
        obtain ⟨L, hL, hall⟩ := ecols_trod hc hw h2
        have hL : Dd i = .agg L := hL
        cases h : cl[j]? with
        | none => exact ⟨⟨.unk, 0, 0, [], ⟨0, 0, 0, false⟩⟩, trivial⟩
        | some c =>
          obtain ⟨v, hv, hok⟩ := hall.getO h
          have hj : j < cl.length := (List.getElem?_eq_some_iff.1 h).1
          have hcl := hcell j hj
          rw [add_add, hv] at hcl
          cases c with
          | fl k =>
            obtain ⟨c, h3, h4⟩ := hok
            exact ⟨⟨c, 0, 0, [], ⟨0, 0, 0, false⟩⟩, h3, fun _ => by rw [hcl, h4]⟩
          | sl ty ks =>
            obtain ⟨m, z, h3, h4⟩ := hok
            obtain ⟨q, g1, g2, g3, g4⟩ := hsl j ty ks h
            obtain ⟨a', ln', cp', T, hv', hs, hb⟩ := SrcF.open g1 g2 g3 h3
            obtain ⟨l, k1, k2, k3⟩ := hs.loc g4
            refine ⟨⟨.sl (F j) i 0 ln' ks.length, ln', cp', T, l⟩, rfl, hs.1, hs.2.1, ?_, k1, k2, fun _ => ⟨v, hcl, fun φ hφ => by rw [hv']; exact k3 φ _ _ hφ⟩⟩
            rcases hb with hb | ⟨E, S, e1, e2, _⟩
            · show cp' ≤ _; rw [hb]; exact Nat.zero_le _
            · have q1 := b1 E S
              have q2 := b2 L _ h4
              have q3 := hin i hi
              rw [e1] at q2
              rw [hL] at q3
              show cp' ≤ _
              omega
      · obtain ⟨s, hs⟩ := dfl x0 i j
        refine ⟨s, ?_⟩
        cases h : cl[j]? with
        | none => trivial
        | some c =>
          rw [h] at hs
          cases c with
          | fl k => exact ⟨hs.1, fun h => absurd h hi⟩
          | sl t ks => exact ⟨hs.1, hs.2.1, hs.2.2.1, hs.2.2.2.1, hs.2.2.2.2.1, hs.2.2.2.2.2.1, fun h => absurd h hi⟩
    let f := fun i j => Classical.choose (each i j)
    have hf : ∀ i j, okFd W F x0 cl.length mm i j (β x.1) cl[j]? (f i j) := fun i j => Classical.choose_spec (each i j)
    have hcell : ∀ p, p < mm * cl.length → ∃ v, W.cell? (x0.add p) = some v ∧ ∀ φ : Phi, (∀ (i j t : Nat) (ks : List FK), cl[j]? = some (Col.sl t ks) → φ (F j) i = some (f i j).l) → RC φ (f (p / cl.length) (p % cl.length)).c v := by
      intro p hp
      have hi : p / cl.length < mm := Nat.div_lt_of_lt_mul (by rw [Nat.mul_comm]; exact hp)
      have hj : p % cl.length < cl.length := Nat.mod_lt _ (by omega)
      have hpe : p / cl.length * cl.length + p % cl.length = p := by rw [Nat.mul_comm]; exact Nat.div_add_mod p cl.length
      have := hf (p / cl.length) (p % cl.length)
      rw [List.getElem?_eq_getElem hj] at this
      cases hc' : cl[p % cl.length] with
      | fl k =>
        rw [hc'] at this
        obtain ⟨g1, g2⟩ := this
        have g2 := g2 hi
        rw [hpe] at g2
        exact ⟨_, g2, fun φ _ => g1.rc⟩
      | sl ty ks =>
        rw [hc'] at this
        obtain ⟨_, _, _, _, _, _, g⟩ := this
        obtain ⟨v, g1, g2⟩ := g hi
        rw [hpe] at g1
        exact ⟨v, g1, fun φ hφ => g2 φ (hφ _ _ ty ks (by rw [List.getElem?_eq_getElem hj, hc']))⟩
    let v := fun p => if h : p < mm * cl.length then Classical.choose (hcell p h) else Value.pointer none
    have hv : ∀ p, p < mm * cl.length → W.cell? (x0.add p) = some (v p) ∧ ∀ φ : Phi, (∀ (i j t : Nat) (ks : List FK), cl[j]? = some (Col.sl t ks) → φ (F j) i = some (f i j).l) → RC φ (f (p / cl.length) (p % cl.length)).c (v p) := by
      intro p hp
      simp only [v, dif_pos hp]
      exact Classical.choose_spec (hcell p hp)
    obtain ⟨l, h1, h2, h3⟩ := loc_cells (W := W) (x := x0) (n := mm * cl.length) (v := v) (fun p hp => (hv p hp).1)
    refine ⟨mm, f, x0, l, hl, hN, hf, h1, fun φ hφ => h2 φ _ (fun p hp => (hv p hp).2 φ hφ), fun φ hφ => h3 φ _ _ _ _ _ hφ hl (fun h0 => ?_)⟩
    rcases Nat.mul_eq_zero.1 h0 with e | e
    · exact e
    · omega
end
end Go.Proofs.Ytohleiikedpmkaa.Vm

namespace Go.Proofs.Ytohleiikedpmkaa.Vm
open Go
theorem RB.congr {φ : Phi} {l : Loc} {k k' : Blk} {W : World} (h : RB φ l k W) (ho : k'.own = k.own) (he : k'.ex = true → k.ex = true) (hl : k'.len = k.len) (hg : ∀ j, j < k.len → k'.body.get j = k.body.get j) : RB φ l k' W :=
  ⟨h.own.trans ho.symm, by rw [hl]; exact h.fits, fun e => by rw [hl]; exact h.exact (he e), h.there, fun j hj => by rw [hl] at hj; rw [hg j hj]; exact h.cell j hj, h.free⟩
def ival : C → Int
  | .int _ n => n
  | _ => 0
theorem okFK.int {k : IntKind} : ∀ {c : C}, okFK (.int k) c → c = .int k (ival c) ∧ (Lit.int k (ival c)).wf = true
  | .int _ _, h => ⟨by rw [h.1]; rfl, by have := h.1; subst this; exact h.2⟩
  | .bool _, h | .str _, h | .nilp, h | .ptr _ _ _, h | .nils, h | .sl _ _ _ _ _, h | .fn _ _, h | .nilf, h | .nili, h | .ifi _ _ _, h | .unk, h => h.elim
theorem wf_i64 {n : Int} (h : (Lit.int .i64 n).wf = true) : -9223372036854775808 ≤ n ∧ n < 9223372036854775808 := by
  simp [Lit.wf, IntKind.min, IntKind.max, IntKind.signed, IntKind.bits] at h; omega
theorem wf_i32 {n : Int} (h : (Lit.int .i32 n).wf = true) : -2147483648 ≤ n ∧ n < 2147483648 := by
  simp [Lit.wf, IntKind.min, IntKind.max, IntKind.signed, IntKind.bits] at h; omega
def inCk (p : Nat) (n : Int) : Prop := if p % 4 = 0 then -2147483648 ≤ n ∧ n < 2147483648 else -9223372036854775808 ≤ n ∧ n < 9223372036854775808
theorem ck_cells : ∀ {cp : Nat} {T : List C}, All2 okFK (replF [.int .i32, .int .i64, .int .i64, .int .i64] cp) T →
    T.length = cp * 4 ∧ ∀ p, p < cp * 4 → T.getD p .unk = .int (W.ck p) (ival (T.getD p .unk)) ∧ inCk p (ival (T.getD p .unk))
  | 0, T, h => by
    cases h
    exact ⟨rfl, fun p hp => by omega⟩
  | cp + 1, T, h => by
    match T, h with
    | _ :: _ :: _ :: _ :: T, .cons h0 (.cons h1 (.cons h2 (.cons h3 t))) =>
      obtain ⟨hl, hg⟩ := ck_cells (cp := cp) (T := T) t
      refine ⟨by simp [hl]; omega, fun p hp => ?_⟩
      obtain ⟨e0, w0⟩ := h0.int
      obtain ⟨e1, w1⟩ := h1.int
      obtain ⟨e2, w2⟩ := h2.int
      obtain ⟨e3, w3⟩ := h3.int
      match p, hp with
      | 0, _ => exact ⟨e0, wf_i32 w0⟩
      | 1, _ => exact ⟨e1, wf_i64 w1⟩
      | 2, _ => exact ⟨e2, wf_i64 w2⟩
      | 3, _ => exact ⟨e3, wf_i64 w3⟩
      | p + 4, hp =>
        obtain ⟨g1, g2⟩ := hg p (by omega)
        have ec : W.ck (p + 4) = W.ck p := by unfold W.ck; rw [show (p + 4) % 4 = p % 4 by omega]
        have ei : inCk (p + 4) = inCk p := by unfold inCk; rw [show (p + 4) % 4 = p % 4 by omega]
        rw [ec, ei]
        exact ⟨g1, g2⟩
end Go.Proofs.Ytohleiikedpmkaa.Vm
