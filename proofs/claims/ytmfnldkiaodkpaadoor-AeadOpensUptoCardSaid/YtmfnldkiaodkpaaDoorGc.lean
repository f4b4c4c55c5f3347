/- What functions of the program come to: parts of the walk (Gc). -/
import Derived.Test.YtmfnldkiaodkpaaDoorGb
import Derived.KernelRfl
import Derived.Test.YtmfnldkiaodkpaaDoorProg
import Derived.Test.YtmfnldkiaodkpaaDoorOd
import Derived.Test.YtmfnldkiaodkpaaDoorDg
set_option linter.unusedSimpArgs false
set_option linter.unusedVariables false
namespace Go.Proofs.YtmfnldkiaodkpaaDoor.Vm
open Go Go.Proofs Go.Proofs.YtmfnldkiaodkpaaDoor
set_option maxRecDepth 100000
noncomputable def LKaI (k l : List Int) (o n i : Nat) (v : List Int) : S0 :=
  ⟨[(1, (.c (.sl 1 0 o n 1))), (2, (.c (.ptr 2 0 0))), (4, (.c (.ptr 18 0 0))), (5, (.c (.sl 50 0 0 16 1))), (6, (.c (.int .i64 ((↑i : Int)))))], [(1, (.one ⟨false, false, (.ints .u8 l)⟩)), (2, (.one ⟨true, true, (.ints .u8 k)⟩)), (18, (.one ⟨true, true, (.ints .u8 [0, 0, 0, 0, 0, 0, 0, 0, 0, 0, 0, 0, 0, 0, 0, 0])⟩)), (50, (.one ⟨true, false, (.ints .u32 v)⟩))], 98⟩
theorem LKa_by {α : Type} (I : α → S0) (Inv : α → Prop) (μ : α → Nat) {ex : Ex} {s' : S0} (hex : ex ≠ .normal)
    (step : ∀ x, Inv x → (∃ y, Inv y ∧ μ y < μ x ∧ CodeOk Tryd.prog 81 98 (kAt (kOf Tryd.prog Tryd.f106) [true, true, false, true, false, false]) (I x) .normal (I y)) ∨ CodeOk Tryd.prog 81 98 (kAt (kOf Tryd.prog Tryd.f106) [true, true, false, true, false, false]) (I x) ex s') (x : α) (hx : Inv x) :
    CodeOk Tryd.prog 81 98 (kAt (kOf Tryd.prog Tryd.f106) [true, true, false, true, false]) (I x) ex s' := by
  have hk : (kAt (kOf Tryd.prog Tryd.f106) [true, true, false, true, false]) = .loop (kAt (kOf Tryd.prog Tryd.f106) [true, true, false, true, false, false]) := by kernel_rfl
  rw [hk]
  exact CodeOk.loop I Inv μ hex step x hx
noncomputable def LKa0 (k l : List Int) (o n : Nat) : S0 :=
  ⟨[(1, (.c (.sl 1 0 o n 1))), (2, (.c (.ptr 2 0 0))), (4, (.c (.ptr 18 0 0))), (5, (.c (.sl 50 0 0 16 1))), (6, (.c (.int .i64 3)))], [(1, (.one ⟨false, false, (.ints .u8 l)⟩)), (2, (.one ⟨true, true, (.ints .u8 k)⟩)), (18, (.one ⟨true, true, (.ints .u8 [0, 0, 0, 0, 0, 0, 0, 0, 0, 0, 0, 0, 0, 0, 0, 0])⟩)), (50, (.one ⟨true, false, (.ints .u32 (List.take 16 k))⟩))], 98⟩
theorem LKa_rt (k l : List Int) (o n i : Nat) (v : List Int)
    (hk : k.length = 32)
    (hl : o + n ≤ l.length)
    (hkb : W.b8 k)
    (hlb : W.b8 l)
    (hn : n ≤ 2097152)
    (hi : i ≤ 19)
    (hv : v.length = 16)
    (hx : 0 ≤ (List.getD v i 0) ∧ (List.getD v i 0) < 256)
    (h1 : ((↑i : Int) < (16 : Int))) :
    CodeOk Tryd.prog 81 98 (kAt (kOf Tryd.prog Tryd.f106) [true, true, false, true, false, false]) (LKaI k l o n i v) .normal (LKaI k l o n (i + 4) (splice v i [Int.tmod (List.getD v i 0) 16])) :=
  CodeOk.of_runs (fuel := 300) (v := ⟨[1, 2, 4, 5, 6], [1, 2, 18, 50], [], 98⟩) (hs := [(1, ⟨.auto, some (.c (.bool (true)))⟩), (7, ⟨.ask, none⟩), (8, ⟨.ask, none⟩), (10, ⟨.ask, none⟩), (11, ⟨.ask, none⟩), (13, ⟨.auto, some (.c (.int .i64 (↑(i + 4))))⟩)])
    (cs := [EI .i64 (IntKind.wrap IntKind.i64 ((↑i : Int) + 4)) ((↑(i + 4) : Int)),
      (i + (1 : Nat) ≤ List.length v ∧ (1 : Nat) = (1 : Nat)),
      ((0 : Int) ≤ (↑i : Int) ∧ (↑i : Int) < (16 : Int)),
      (i + (1 : Nat) ≤ List.length v),
      ((0 : Int) ≤ (↑i : Int) ∧ (↑i : Int) < (16 : Int)),
      EB (decide ((↑i : Int) < 16)) true])
    mixed (by kernel_rfl) ⟨.mk (by simp only [addO_eq, mulE_eq, mulE_one, Int.toNat_natCast, IntKind.wrap_i64, mmin, mmax]; omega), (by omega), (by omega), (by omega), (by omega), .mk (decide_eq_true h1), trivial⟩
theorem LKa_xf (k l : List Int) (o n i : Nat) (v : List Int)
    (hk : k.length = 32)
    (hl : o + n ≤ l.length)
    (hkb : W.b8 k)
    (hlb : W.b8 l)
    (hn : n ≤ 2097152)
    (hi : i ≤ 19)
    (hv : v.length = 16)
    (hx : 0 ≤ (List.getD v i 0) ∧ (List.getD v i 0) < 256)
    (h1 : (¬(↑i : Int) < (16 : Int))) :
    CodeOk Tryd.prog 81 98 (kAt (kOf Tryd.prog Tryd.f106) [true, true, false, true, false, false]) (LKaI k l o n i v) (.exit 0) (LKaI k l o n i v) :=
  CodeOk.of_runs (fuel := 300) (v := ⟨[1, 2, 4, 5, 6], [1, 2, 18, 50], [], 98⟩) (hs := [(1, ⟨.auto, some (.c (.bool (false)))⟩)])
    (cs := [EB (decide ((↑i : Int) < 16)) false])
    mixed (by kernel_rfl) ⟨.mk (decide_eq_false h1), trivial⟩

end Go.Proofs.YtmfnldkiaodkpaaDoor.Vm

namespace Go.Proofs.YtmfnldkiaodkpaaDoor.W
open Go Go.Proofs.YtmfnldkiaodkpaaDoor.Vm
def cka (v : List Int) : Nat → List Int
  | 0 => v
  | j + 1 => (cka v j).set (3 + 4 * j) ((cka v j).getD (3 + 4 * j) 0 % 16)
def ckb (v : List Int) : Nat → List Int
  | 0 => v
  | j + 1 => (ckb v j).set (4 + 4 * j) ((ckb v j).getD (4 + 4 * j) 0 / 4 * 4)
theorem cka_len {v : List Int} : ∀ {j : Nat}, (cka v j).length = v.length
  | 0 => rfl
  | j + 1 => by rw [cka, List.length_set, cka_len]
theorem ckb_len {v : List Int} : ∀ {j : Nat}, (ckb v j).length = v.length
  | 0 => rfl
  | j + 1 => by rw [ckb, List.length_set, ckb_len]
theorem cka_b8 {v : List Int} (h : b8 v) : ∀ j, b8 (cka v j)
  | 0 => h
  | j + 1 => fun i => by
    have := cka_b8 h j (3 + 4 * j)
    rw [cka, d_set]
    split
    · omega
    · exact cka_b8 h j i
theorem ckb_b8 {v : List Int} (h : b8 v) : ∀ j, b8 (ckb v j)
  | 0 => h
  | j + 1 => fun i => by
    have := ckb_b8 h j (4 + 4 * j)
    rw [ckb, d_set]
    split
    · omega
    · exact ckb_b8 h j i
/-- The key's r, clamped. -/
noncomputable def rck (k : List Int) : List Int := sl8 (ckb (sl8 (cka (k.take 16) 4)) 3)
theorem rck_eq (k : List Int) : rck k = ckb (cka (k.take 16) 4) 3 := by unfold rck; rw [sl8_eq, sl8_eq]
theorem rck_len {k : List Int} (h : k.length = 32) : (rck k).length = 16 := by rw [rck_eq, ckb_len, cka_len, List.length_take]; omega
theorem rck_b8 {k : List Int} (h : b8 k) : b8 (rck k) := by rw [rck_eq]; exact ckb_b8 (cka_b8 (b8_take h 16) 4) 3
theorem and8 {x c : Int} (hx : 0 ≤ x ∧ x < 256) : bAnd IntKind.u8 x 255 = x ∧ bAnd IntKind.u8 x 15 = x % 16 ∧ bAnd IntKind.u8 x 252 = x / 4 * 4 := by
  have key : ∀ n : Nat, n < 256 → bAnd IntKind.u8 (n : Int) 255 = n ∧ bAnd IntKind.u8 (n : Int) 15 = (n : Int) % 16 ∧ bAnd IntKind.u8 (n : Int) 252 = (n : Int) / 4 * 4 := by decide +kernel
  have := key x.toNat (by omega)
  rwa [Int.toNat_of_nonneg hx.1] at this
theorem rck_num {k : List Int} (hk : k.length = 32) (hb : b8 k) : n8 (rck k) = tagR k := by
  rw [rck_eq]
  have h : ∀ i, _ := fun i => and8 (c := 0) (hb i)
  unfold tagR n17
  simp only [List.getD_cons_zero, List.getD_cons_succ, List.getD_nil]
  rw [(h 0).1, (h 1).1, (h 2).1, (h 3).2.1, (h 4).2.2, (h 5).1, (h 6).1, (h 7).2.1, (h 8).2.2, (h 9).1, (h 10).1, (h 11).2.1, (h 12).2.2, (h 13).1, (h 14).1, (h 15).2.1]
  have e : ckb (cka (k.take 16) 4) 3 = [k.getD 0 0, k.getD 1 0, k.getD 2 0, k.getD 3 0 % 16, k.getD 4 0 / 4 * 4, k.getD 5 0, k.getD 6 0, k.getD 7 0 % 16, k.getD 8 0 / 4 * 4, k.getD 9 0, k.getD 10 0, k.getD 11 0 % 16, k.getD 12 0 / 4 * 4, k.getD 13 0, k.getD 14 0, k.getD 15 0 % 16] := by
    match k, hk with
    | [k0, k1, k2, k3, k4, k5, k6, k7, k8, k9, k10, k11, k12, k13, k14, k15, _, _, _, _, _, _, _, _, _, _, _, _, _, _, _, _], _ => rfl
  rw [e]
  have q0 := hb 0
  have q1 := hb 1
  have q2 := hb 2
  have q3 := hb 3
  have q4 := hb 4
  have q5 := hb 5
  have q6 := hb 6
  have q7 := hb 7
  have q8 := hb 8
  have q9 := hb 9
  have q10 := hb 10
  have q11 := hb 11
  have q12 := hb 12
  have q13 := hb 13
  have q14 := hb 14
  have q15 := hb 15
  simp only [n8]
  omega
end Go.Proofs.YtmfnldkiaodkpaaDoor.W
namespace Go.Proofs.YtmfnldkiaodkpaaDoor.Vm
open Go Go.Proofs Go.Proofs.YtmfnldkiaodkpaaDoor
theorem lka (k l : List Int) (o n : Nat) (hk : k.length = 32) (hl : o + n ≤ l.length) (hkb : W.b8 k) (hlb : W.b8 l) (hn : n ≤ 2097152) :
    CodeOk Tryd.prog 81 98 (kAt (kOf Tryd.prog Tryd.f106) [true, true, false, true, false]) (LKa0 k l o n) (.exit 0) (LKaI k l o n 19 (W.sl8 (W.cka (k.take 16) 4))) := by
  rw [W.sl8_eq]
  have hv : ∀ j, (W.cka (k.take 16) j).length = 16 := fun j => by rw [W.cka_len, List.length_take]; omega
  refine LKa_by (fun j : Nat => LKaI k l o n (3 + 4 * j) (W.cka (k.take 16) j)) (fun j => j ≤ 4) (fun j => 4 - j) (by simp) ?_ 0 (by decide)
  intro j hj
  have hx := W.cka_b8 (W.b8_take hkb 16) j (3 + 4 * j)
  by_cases h : j < 4
  · refine .inl ⟨j + 1, h, by omega, ?_⟩
    have r := LKa_rt k l o n (3 + 4 * j) _ hk hl hkb hlb hn (by omega) (hv j) hx (by omega)
    rw [W.tm hx.1] at r
    exact r
  · have e : j = 4 := by omega
    subst e
    exact .inr (LKa_xf k l o n 19 _ hk hl hkb hlb hn (by omega) (hv 4) hx (by omega))
end Go.Proofs.YtmfnldkiaodkpaaDoor.Vm

/- The document's tag, by numbers: it is the program's. -/
namespace Go.Proofs.YtmfnldkiaodkpaaDoor.W
open Go Go.Proofs.YtmfnldkiaodkpaaDoor.Vm
def tgk (rl l : List Int) : Nat → Nat → Nat → List Int → List Int
  | 0, _, _, a => a
  | f + 1, p, c, a => if c = 0 then a else tgk rl l f (p + min 16 c) (c - min 16 c) (redL (tmm (pls a (List.take (min 16 c) (List.drop p l) ++ [1])) rl))
theorem n8_num (l : List Int) : n8 l = num l := by
  induction l with
  | nil => rfl
  | cons x t ih => show x + 256 * n8 t = _; rw [ih]; rfl
theorem n17_n8 {L : List Int} (h : L.length = 17) : n17 (fun i => L.getD i 0) = n8 L := by
  have e : n8 L = n8 (L.take 17) := by rw [take_all (by omega)]
  rw [e, n8_take L 16, n8_take L 15, n8_take L 14, n8_take L 13, n8_take L 12, n8_take L 11, n8_take L 10, n8_take L 9, n8_take L 8, n8_take L 7, n8_take L 6, n8_take L 5, n8_take L 4, n8_take L 3, n8_take L 2, n8_take L 1, n8_take L 0, List.take_zero]
  simp only [n17, n8, Int.reducePow]
  omega
theorem pow_mono (m : Nat) : ∀ d : Nat, (256 : Int) ^ m ≤ 256 ^ (m + d)
  | 0 => Int.le_refl _
  | d + 1 => by
    have := pow_mono m d
    have hp : (0 : Int) < 256 ^ (m + d) := Int.pow_pos (by decide)
    rw [← Nat.add_assoc, Int.pow_succ]
    omega
theorem seg_l {l : List Int} {p t : Nat} (h : p + t ≤ l.length) : (List.take t (List.drop p l)).length = t := by
  rw [List.length_take, List.length_drop]; omega
theorem blk_eq {l : List Int} {p t : Nat} (h : p + t ≤ l.length) (ht : t ≤ 16) : blk l p t = List.take t (List.drop p l) ++ [1] ++ List.replicate (16 - t) 0 := by
  have e1 : (((t : Nat) : Int) - 0).toNat = t := by omega
  have hs := seg_l h
  unfold blk blkB blkA
  have m17 : min t 17 = t := by omega
  simp only [e1, addO_eq, mulE1, Nat.add_zero, Nat.zero_add, Int.toNat_natCast, List.drop_zero, m17, List.take_take, Nat.min_self]
  rw [splice_eq _ 0 _ (by rw [hs]; simp only [List.length_cons, List.length_nil]; omega), hs, List.take_zero, List.nil_append]
  generalize List.take t (List.drop p l) = s at *
  show List.take 17 ((s ++ List.drop (0 + t) [0, 0, 0, 0, 0, 0, 0, 0, 0, 0, 0, 0, 0, 0, 0, 0, 0]).set t 1) = _
  rw [Nat.zero_add]
  have key : ∀ t, t ≤ 16 → (List.drop t [0, 0, 0, 0, 0, 0, 0, 0, 0, 0, 0, 0, 0, 0, 0, 0, (0 : Int)]) = 0 :: List.replicate (16 - t) 0 := by decide
  rw [key t ht, List.set_append_right t 1 (by omega), hs, Nat.sub_self, List.set_cons_zero, List.append_assoc, List.singleton_append]
  refine List.take_of_length_le ?_
  simp only [List.length_append, List.length_cons, List.length_replicate, hs]
  omega
theorem blk_num {l : List Int} {p t : Nat} (hl : b8 l) (h : p + t ≤ l.length) (ht : t ≤ 16) : n17 (fun i => (blk l p t).getD i 0) % 1361129467683753853853498429727072845824 = n8 (List.take t (List.drop p l) ++ [1]) := by
  have hs := seg_l h
  rw [n17_n8 (by rw [blk_eq h ht]; simp only [List.length_append, List.length_cons, List.length_nil, List.length_replicate, hs]; omega), blk_eq h ht, n8_app, rep_num, Int.zero_mul, Int.add_zero]
  have b := seg_b8 (p := p) (c := t) hl
  have h1 := n8_nn b
  have b2 := b8_take (b8_drop hl p) t
  have h2 := n8_lt b2
  rw [hs] at h2
  have e : n8 (List.take t (List.drop p l) ++ [1]) = n8 (List.take t (List.drop p l)) + 256 ^ t := by
    rw [n8_app, hs]
    show _ + (1 + 256 * 0) * 256 ^ t = _
    omega
  have key : ∀ t, t ≤ 16 → (256 : Int) ^ t ≤ 340282366920938463463374607431768211456 := by decide
  have := key t ht
  exact Int.emod_eq_of_lt h1 (by omega)
theorem tgk_num {rl l : List Int} (hl : b8 l) (hr : b8 rl) : ∀ (f p c : Nat) (a : List Int), c ≤ f → p + c ≤ l.length → b8 a →
    n8 (tgk rl l f p c a) = evalP l (n8 rl) (p + c) c (n8 a)
  | 0, p, c, a, hc, _, _ => by
    have : c = 0 := by omega
    subst this
    rw [evalP, dif_pos rfl]; rfl
  | f + 1, p, c, a, hc, hp, ha => by
    rw [tgk, evalP]
    by_cases h : c = 0
    · rw [if_pos h, dif_pos h]
    · rw [if_neg h, dif_neg h]
      have hs := seg_b8 (p := p) (c := min 16 c) hl
      have hpl : b8 (pls a (List.take (min 16 c) (List.drop p l) ++ [1])) := plr_b8 _
      have ht := tmm_b8 hpl hr
      have r := red_ok ht
      rw [tgk_num hl hr f (p + min 16 c) (c - min 16 c) _ (by omega) (by omega) r.1, r.2.1, tmm_num hpl hr, pls_num ha hs]
      have e1 : p + min 16 c + (c - min 16 c) = p + c := by omega
      have e2 : p + c - c = p := by omega
      have e3 : min c 16 = min 16 c := by omega
      rw [e1, e2, e3, blk_num hl (by omega) (by omega)]
      rfl
theorem tgk_ok {rl l : List Int} (hr : b8 rl) : ∀ (f p c : Nat) (a : List Int), b8 a → n8 a < q130 → b8 (tgk rl l f p c a) ∧ n8 (tgk rl l f p c a) < q130
  | 0, _, _, _, ha, h => ⟨ha, h⟩
  | f + 1, p, c, a, ha, h => by
    rw [tgk]
    split
    · exact ⟨ha, h⟩
    · have hpl : b8 (pls a (List.take (min 16 c) (List.drop p l) ++ [1])) := plr_b8 _
      have r := red_ok (tmm_b8 hpl hr)
      refine tgk_ok hr f _ _ _ r.1 ?_
      rw [r.2.1]
      exact Int.emod_lt_of_pos _ (by decide)
theorem tgk_step {rl l : List Int} {a : List Int} {p c : Nat} (hr : b8 rl) (hrl : rl.length = 16) :
    (redL (tmm (pls a (List.take (min 16 c) (List.drop p l) ++ [1])) rl)).length ≤ max a.length 17 + 18 := by
  have hpl : b8 (pls a (List.take (min 16 c) (List.drop p l) ++ [1])) := plr_b8 _
  have r := (red_ok (tmm_b8 hpl hr)).2.2
  rw [tmm_len hpl hr, pls_len, hrl] at r
  have g := (pln_ge (a := a) (b := List.take (min 16 c) (List.drop p l) ++ [1])).2.2
  have : (List.take (min 16 c) (List.drop p l) ++ [1]).length ≤ 17 := by
    rw [List.length_append, List.length_take]; simp only [List.length_cons, List.length_nil]; omega
  omega
theorem tgk_len {rl l : List Int} (hr : b8 rl) (hrl : rl.length = 16) : ∀ (f p c : Nat) (a : List Int), c ≤ f → (tgk rl l f p c a).length ≤ max a.length 17 + 18 * c
  | 0, _, _, a, _ => by show a.length ≤ _; omega
  | f + 1, p, c, a, h => by
    rw [tgk]
    split
    · omega
    · have s := tgk_step (a := a) (p := p) (c := c) (l := l) hr hrl
      have ih := tgk_len (l := l) hr hrl f (p + min 16 c) (c - min 16 c) (redL (tmm (pls a (List.take (min 16 c) (List.drop p l) ++ [1])) rl)) (by omega)
      have : min 16 c ≥ 1 := by omega
      omega
/-- What is reckoned over a text; sealed. -/
noncomputable def tgF (k l : List Int) (o n : Nat) : List Int := sl8 (tgk (rck k) l n o n [])
theorem tgF_ok {k l : List Int} {o n : Nat} (hk : k.length = 32) (hkb : b8 k) (hlb : b8 l) (hl : o + n ≤ l.length) :
    b8 (tgF k l o n) ∧ n8 (tgF k l o n) = evalP (List.take n (List.drop o l)) (tagR k) n n 0 % p130 ∧ (tgF k l o n).length ≤ 17 + 18 * n := by
  have hb : b8 [] := fun j => by rw [d_none (Nat.zero_le _)]; decide
  have r := tgk_ok (l := l) (rck_b8 hkb) n o n [] hb (by decide)
  have hn := tgk_num hlb (rck_b8 hkb) n o n [] (Nat.le_refl _) hl hb
  have hlen := tgk_len (l := l) (rck_b8 hkb) (rck_len hk) n o n [] (Nat.le_refl _)
  unfold tgF
  rw [sl8_eq]
  refine ⟨r.1, ?_, by simpa using hlen⟩
  rw [rck_num hk hkb, evalP_seg (tagR k) n _ (Nat.le_refl _)] at hn
  have h0 : n8 ([] : List Int) = 0 := rfl
  rw [h0] at hn
  rw [← hn]
  exact (Int.emod_eq_of_lt (n8_nn r.1) r.2).symm
/-- The last of it: s added. -/
noncomputable def tgS (k l : List Int) (o n : Nat) : List Int := sl8 (pls (tgF k l o n) (List.take 16 (List.drop 16 k)))
def ous (a : List Int) : Nat → List Int
  | 0 => [0, 0, 0, 0, 0, 0, 0, 0, 0, 0, 0, 0, 0, 0, 0, 0]
  | i + 1 => (ous a i).set i (a.getD i 0)
theorem ous_len {a : List Int} : ∀ {i : Nat}, (ous a i).length = 16
  | 0 => rfl
  | i + 1 => by rw [ous, List.length_set, ous_len]
theorem ous_get {a : List Int} : ∀ {i : Nat}, i ≤ 16 → ∀ j, (ous a i).getD j 0 = if j < i then a.getD j 0 else 0
  | 0, _, j => by
    rw [if_neg (by omega)]
    by_cases h : j < 16
    · have : ∀ j, j < 16 → ([0, 0, 0, 0, 0, 0, 0, 0, 0, 0, 0, 0, 0, 0, 0, 0] : List Int).getD j 0 = 0 := by decide
      exact this j h
    · exact d_none (by show 16 ≤ j; omega)
  | i + 1, h, j => by
    rw [ous, d_set, ous_len, ous_get (by omega) j]
    by_cases q : i = j
    · subst q; rw [if_pos ⟨rfl, by omega⟩, if_pos (by omega)]
    · rw [if_neg (fun z => q z.1)]
      by_cases r : j < i
      · rw [if_pos r, if_pos (by omega)]
      · rw [if_neg r, if_neg (by omega)]
theorem ous_le {a : List Int} (h : b8 a) : ous a (min 16 a.length) = le 16 (n8 a) := by
  refine getD_ext (by rw [ous_len, le_len]) fun i hi => ?_
  rw [ous_len] at hi
  rw [ous_get (by omega), le_getD hi]
  by_cases q : i < a.length
  · rw [if_pos (by omega), n8_num]
    exact num_byte (b8_row h) q
  · rw [if_neg (by omega)]
    have h1 := n8_lt h
    have h2 := n8_nn h
    have h3 : (256 : Int) ^ a.length ≤ 256 ^ i := (by have := pow_mono a.length (i - a.length); rwa [show a.length + (i - a.length) = i by omega] at this)
    rw [Int.ediv_eq_zero_of_lt h2 (by omega)]
    rfl
theorem tgS_ok {k l : List Int} {o n : Nat} (hk : k.length = 32) (hkb : b8 k) (hlb : b8 l) (hl : o + n ≤ l.length) :
    b8 (tgS k l o n) ∧ ous (tgS k l o n) (min 16 (tgS k l o n).length) = tag k (List.take n (List.drop o l)) := by
  obtain ⟨h1, h2, _⟩ := tgF_ok hk hkb hlb hl
  have hk2 : b8 (List.take 16 (List.drop 16 k)) := b8_take (b8_drop hkb 16) 16
  have hb : b8 (tgS k l o n) := by unfold tgS; rw [sl8_eq]; exact plr_b8 _
  refine ⟨hb, ?_⟩
  rw [ous_le hb, tag, tagN_eq, seg_l hl]
  congr 1
  unfold tgS
  rw [sl8_eq, pls_num h1 hk2, h2, show List.take 16 (List.drop 16 k) = List.drop 16 k from take_all (by rw [List.length_drop]; omega), n8_num]
end Go.Proofs.YtmfnldkiaodkpaaDoor.W

namespace Go.Proofs.YtmfnldkiaodkpaaDoor.Vm
open Go Go.Proofs Go.Proofs.YtmfnldkiaodkpaaDoor
set_option maxRecDepth 100000
noncomputable def LKbI (k l : List Int) (o n i : Nat) (v : List Int) : S0 :=
  ⟨[(1, (.c (.sl 1 0 o n 1))), (2, (.c (.ptr 2 0 0))), (4, (.c (.ptr 18 0 0))), (5, (.c (.sl 50 0 0 16 1))), (7, (.c (.int .i64 ((↑i : Int)))))], [(1, (.one ⟨false, false, (.ints .u8 l)⟩)), (2, (.one ⟨true, true, (.ints .u8 k)⟩)), (18, (.one ⟨true, true, (.ints .u8 [0, 0, 0, 0, 0, 0, 0, 0, 0, 0, 0, 0, 0, 0, 0, 0])⟩)), (50, (.one ⟨true, false, (.ints .u32 v)⟩))], 114⟩
theorem LKb_by {α : Type} (I : α → S0) (Inv : α → Prop) (μ : α → Nat) {ex : Ex} {s' : S0} (hex : ex ≠ .normal)
    (step : ∀ x, Inv x → (∃ y, Inv y ∧ μ y < μ x ∧ CodeOk Tryd.prog 81 114 (kAt (kOf Tryd.prog Tryd.f106) [true, true, true, false, true, false, false]) (I x) .normal (I y)) ∨ CodeOk Tryd.prog 81 114 (kAt (kOf Tryd.prog Tryd.f106) [true, true, true, false, true, false, false]) (I x) ex s') (x : α) (hx : Inv x) :
    CodeOk Tryd.prog 81 114 (kAt (kOf Tryd.prog Tryd.f106) [true, true, true, false, true, false]) (I x) ex s' := by
  have hk : (kAt (kOf Tryd.prog Tryd.f106) [true, true, true, false, true, false]) = .loop (kAt (kOf Tryd.prog Tryd.f106) [true, true, true, false, true, false, false]) := by kernel_rfl
  rw [hk]
  exact CodeOk.loop I Inv μ hex step x hx
noncomputable def LKb0 (k l : List Int) (o n : Nat) : S0 :=
  ⟨[(1, (.c (.sl 1 0 o n 1))), (2, (.c (.ptr 2 0 0))), (4, (.c (.ptr 18 0 0))), (5, (.c (.sl 50 0 0 16 1))), (7, (.c (.int .i64 4)))], [(1, (.one ⟨false, false, (.ints .u8 l)⟩)), (2, (.one ⟨true, true, (.ints .u8 k)⟩)), (18, (.one ⟨true, true, (.ints .u8 [0, 0, 0, 0, 0, 0, 0, 0, 0, 0, 0, 0, 0, 0, 0, 0])⟩)), (50, (.one ⟨true, false, (.ints .u32 (W.sl8 (W.cka (List.take 16 k) 4)))⟩))], 114⟩
theorem LKb_rt (k l : List Int) (o n i : Nat) (v : List Int)
    (hk : k.length = 32)
    (hl : o + n ≤ l.length)
    (hkb : W.b8 k)
    (hlb : W.b8 l)
    (hn : n ≤ 2097152)
    (hv1 : (W.sl8 (W.cka (k.take 16) 4)).length = 16)
    (hi : i ≤ 19)
    (hv : v.length = 16)
    (hx : 0 ≤ (List.getD v i 0) ∧ (List.getD v i 0) < 256)
    (h1 : ((↑i : Int) < (16 : Int))) :
    CodeOk Tryd.prog 81 114 (kAt (kOf Tryd.prog Tryd.f106) [true, true, true, false, true, false, false]) (LKbI k l o n i v) .normal (LKbI k l o n (i + 4) (splice v i [Int.tdiv (List.getD v i 0) 4 % 4294967296 * 4 % 4294967296])) :=
  CodeOk.of_runs (fuel := 300) (v := ⟨[1, 2, 4, 5, 7], [1, 2, 18, 50], [], 114⟩) (hs := [(1, ⟨.auto, some (.c (.bool (true)))⟩), (7, ⟨.ask, none⟩), (8, ⟨.ask, none⟩), (11, ⟨.ask, none⟩), (12, ⟨.ask, none⟩), (14, ⟨.auto, some (.c (.int .i64 (↑(i + 4))))⟩)])
    (cs := [EI .i64 (IntKind.wrap IntKind.i64 ((↑i : Int) + 4)) ((↑(i + 4) : Int)),
      (i + (1 : Nat) ≤ List.length v ∧ (1 : Nat) = (1 : Nat)),
      ((0 : Int) ≤ (↑i : Int) ∧ (↑i : Int) < (16 : Int)),
      (i + (1 : Nat) ≤ List.length v),
      ((0 : Int) ≤ (↑i : Int) ∧ (↑i : Int) < (16 : Int)),
      EB (decide ((↑i : Int) < 16)) true])
    mixed (by kernel_rfl) ⟨.mk (by simp only [addO_eq, mulE_eq, mulE_one, Int.toNat_natCast, IntKind.wrap_i64, mmin, mmax]; omega), (by omega), (by omega), (by omega), (by omega), .mk (decide_eq_true h1), trivial⟩
theorem LKb_xf (k l : List Int) (o n i : Nat) (v : List Int)
    (hk : k.length = 32)
    (hl : o + n ≤ l.length)
    (hkb : W.b8 k)
    (hlb : W.b8 l)
    (hn : n ≤ 2097152)
    (hv1 : (W.sl8 (W.cka (k.take 16) 4)).length = 16)
    (hi : i ≤ 19)
    (hv : v.length = 16)
    (hx : 0 ≤ (List.getD v i 0) ∧ (List.getD v i 0) < 256)
    (h1 : (¬(↑i : Int) < (16 : Int))) :
    CodeOk Tryd.prog 81 114 (kAt (kOf Tryd.prog Tryd.f106) [true, true, true, false, true, false, false]) (LKbI k l o n i v) (.exit 2) (LKbI k l o n i v) :=
  CodeOk.of_runs (fuel := 300) (v := ⟨[1, 2, 4, 5, 7], [1, 2, 18, 50], [], 114⟩) (hs := [(1, ⟨.auto, some (.c (.bool (false)))⟩)])
    (cs := [EB (decide ((↑i : Int) < 16)) false])
    mixed (by kernel_rfl) ⟨.mk (decide_eq_false h1), trivial⟩

end Go.Proofs.YtmfnldkiaodkpaaDoor.Vm

namespace Go.Proofs.YtmfnldkiaodkpaaDoor.Vm
open Go Go.Proofs Go.Proofs.YtmfnldkiaodkpaaDoor
theorem lkb (k l : List Int) (o n : Nat) (hk : k.length = 32) (hl : o + n ≤ l.length) (hkb : W.b8 k) (hlb : W.b8 l) (hn : n ≤ 2097152) :
    CodeOk Tryd.prog 81 114 (kAt (kOf Tryd.prog Tryd.f106) [true, true, true, false, true, false]) (LKb0 k l o n) (.exit 2) (LKbI k l o n 16 (W.rck k)) := by
  have h1 : (W.sl8 (W.cka (k.take 16) 4)).length = 16 := by rw [W.sl8_eq, W.cka_len, List.length_take]; omega
  have hb1 : W.b8 (W.sl8 (W.cka (k.take 16) 4)) := by rw [W.sl8_eq]; exact W.cka_b8 (W.b8_take hkb 16) 4
  unfold W.rck
  rw [W.sl8_eq (W.ckb _ _)]
  unfold LKb0
  have key := fun i v => LKb_rt k l o n i v hk hl hkb hlb hn h1
  have key2 := fun i v => LKb_xf k l o n i v hk hl hkb hlb hn h1
  generalize W.sl8 (W.cka (k.take 16) 4) = V at *
  have hv : ∀ j, (W.ckb V j).length = 16 := fun j => by rw [W.ckb_len, h1]
  refine LKb_by (fun j : Nat => LKbI k l o n (4 + 4 * j) (W.ckb V j)) (fun j => j ≤ 3) (fun j => 3 - j) (by simp) ?_ 0 (by decide)
  intro j hj
  have hx := W.ckb_b8 hb1 j (4 + 4 * j)
  by_cases h : j < 3
  · refine .inl ⟨j + 1, h, by omega, ?_⟩
    have r := key (4 + 4 * j) _ (by omega) (hv j) hx (by omega)
    have e : Int.tdiv (List.getD (W.ckb V j) (4 + 4 * j) 0) 4 % 4294967296 * 4 % 4294967296 = (W.ckb V j).getD (4 + 4 * j) 0 / 4 * 4 := by
      rw [W.td ⟨hx.1, by omega⟩ 4 (by decide)]; omega
    rw [e] at r
    exact r
  · have e : j = 3 := by omega
    subst e
    exact .inr (key2 16 _ (by omega) (hv 3) hx (by omega))
end Go.Proofs.YtmfnldkiaodkpaaDoor.Vm

namespace Go.Proofs.YtmfnldkiaodkpaaDoor.Vm
open Go Go.Proofs Go.Proofs.YtmfnldkiaodkpaaDoor
set_option maxRecDepth 100000
noncomputable def LSaI (k l : List Int) (n0 n1 n2 : Nat) (l3 : List Int) : S0 :=
  ⟨[(2, (.c (.ptr 2 0 0))), (4, (.c (.ptr 18 0 0))), (5, (.c (.sl 50 0 0 16 1))), (1, (.c (.sl 1 0 n0 n1 1))), (8, (.c (.sl 130 0 0 n2 1)))], [(1, (.one ⟨false, false, (.ints .u8 l)⟩)), (2, (.one ⟨true, true, (.ints .u8 k)⟩)), (18, (.one ⟨true, true, (.ints .u8 [0, 0, 0, 0, 0, 0, 0, 0, 0, 0, 0, 0, 0, 0, 0, 0])⟩)), (50, (.one ⟨true, false, (.ints .u32 (W.rck k))⟩)), (130, (.one ⟨true, false, (.ints .u32 l3)⟩))], 146⟩
theorem LSa_by {α : Type} (I : α → S0) (Inv : α → Prop) (μ : α → Nat) {ex : Ex} {s' : S0} (hex : ex ≠ .normal)
    (step : ∀ x, Inv x → (∃ y, Inv y ∧ μ y < μ x ∧ CodeOk Tryd.prog 81 130 (kAt (kOf Tryd.prog Tryd.f106) [true, true, true, true, true, false, false, false]) (I x) .normal (I y)) ∨ CodeOk Tryd.prog 81 130 (kAt (kOf Tryd.prog Tryd.f106) [true, true, true, true, true, false, false, false]) (I x) ex s') (x : α) (hx : Inv x) :
    CodeOk Tryd.prog 81 130 (kAt (kOf Tryd.prog Tryd.f106) [true, true, true, true, true, false, false]) (I x) ex s' := by
  have hk : (kAt (kOf Tryd.prog Tryd.f106) [true, true, true, true, true, false, false]) = .loop (kAt (kOf Tryd.prog Tryd.f106) [true, true, true, true, true, false, false, false]) := by kernel_rfl
  rw [hk]
  exact CodeOk.loop I Inv μ hex step x hx
noncomputable def LSa0 (k l : List Int) (o n : Nat) : S0 :=
  ⟨[(2, (.c (.ptr 2 0 0))), (4, (.c (.ptr 18 0 0))), (5, (.c (.sl 50 0 0 16 1))), (1, (.c (.sl 1 0 o n 1))), (8, (.c .nils))], [(1, (.one ⟨false, false, (.ints .u8 l)⟩)), (2, (.one ⟨true, true, (.ints .u8 k)⟩)), (18, (.one ⟨true, true, (.ints .u8 [0, 0, 0, 0, 0, 0, 0, 0, 0, 0, 0, 0, 0, 0, 0, 0])⟩)), (50, (.one ⟨true, false, (.ints .u32 (W.rck k))⟩))], 130⟩
theorem LSa_enter (k l : List Int) (o n : Nat) {ex : Ex} {s' : S0} (h : CodeOk Tryd.prog 81 130 (kAt (kOf Tryd.prog Tryd.f106) [true, true, true, true, true, false, false]) (LSaI k l o n 0 []) ex s') :
    CodeOk Tryd.prog 81 130 (kAt (kOf Tryd.prog Tryd.f106) [true, true, true, true, true, false, false]) (LSa0 k l o n) ex s' :=
  CodeOk.wnil (nx := 130) (nx' := 146) [(8, 1)] 130 (.ints .u32 []) rfl (by decide) (by decide) (CodeOk.pre (v := ⟨[2, 4, 5, 1, 8], [1, 2, 18, 50, 130], [(130, 130)], 146⟩) (by kernel_rfl) (by kernel_rfl) h)
theorem LSa_rt (k l : List Int) (o n n0 n1 n2 : Nat) (l3 : List Int)
    (hk : k.length = 32)
    (hl : o + n ≤ l.length)
    (hkb : W.b8 k)
    (hlb : W.b8 l)
    (hn : n ≤ 2097152)
    (hv1 : (W.sl8 (W.cka (k.take 16) 4)).length = 16)
    (hv2 : (W.rck k).length = 16)
    (hb2 : W.b8 (W.rck k))
    (h2 : ((↑n1 : Int) > (0 : Int)))
    (c3 : (n0 + min (16 : Nat) n1 ≤ List.length l))
    (c4 : (n2 = List.length l3))
    (c5 : (n2 ≤ (67108864 : Nat) ∧ min (16 : Nat) n1 + (1 : Nat) ≤ (67108864 : Nat)))
    (c6 : (W.b8 l3))
    (c7 : (W.b8 (List.take (min (16 : Nat) n1) (List.take (min (16 : Nat) n1) (List.drop n0 l)) ++ [(1 : Int)])))
    (c8 : (W.pln l3 (List.take (min (16 : Nat) n1) (List.take (min (16 : Nat) n1) (List.drop n0 l)) ++ [(1 : Int)]) ≤ (67108864 : Nat) ∧ (16 : Nat) ≤ (67108864 : Nat)))
    (c9 : (W.pln l3 (List.take (min (16 : Nat) n1) (List.take (min (16 : Nat) n1) (List.drop n0 l)) ++ [(1 : Int)]) + (16 : Nat) + (1 : Nat) = List.length (W.tmm (W.pls l3 (List.take (min (16 : Nat) n1) (List.take (min (16 : Nat) n1) (List.drop n0 l)) ++ [(1 : Int)])) (W.rck k))))
    (c10 : (W.pln l3 (List.take (min (16 : Nat) n1) (List.take (min (16 : Nat) n1) (List.drop n0 l)) ++ [(1 : Int)]) + (16 : Nat) + (1 : Nat) ≤ (67108000 : Nat))) :
    CodeOk Tryd.prog 81 130 (kAt (kOf Tryd.prog Tryd.f106) [true, true, true, true, true, false, false, false]) (LSaI k l n0 n1 n2 l3) .normal (LSaI k l (n0 + min 16 n1) (n1 - min 16 n1) (List.length (W.redL (W.tmm (W.pls l3 (List.take (min 16 n1) (List.take (min 16 n1) (List.drop n0 l)) ++ [1])) (W.rck k)))) (W.redL (W.tmm (W.pls l3 (List.take (min 16 n1) (List.take (min 16 n1) (List.drop n0 l)) ++ [1])) (W.rck k)))) :=
  CodeOk.of_runs (fuel := 300) (v := ⟨[2, 4, 5, 1, 8], [1, 2, 18, 50, 418], [(418, 130)], 146⟩) (hs := [(2, ⟨.auto, some (.c (.bool (true)))⟩), (6, ⟨.auto, some (.c (.int .i64 (↑(min 16 n1))))⟩), (11, ⟨.ask, some (.c (.sl 1 0 n0 (min 16 n1) 1))⟩), (12, ⟨.call [1] (.c (.sl 322 0 0 (min 16 n1) 1)) [] [(322, (.one ⟨true, false, (.ints .u32 (List.take (min 16 n1) (List.drop n0 l)))⟩))], none⟩), (14, ⟨.ask, some (.c (.sl 354 0 0 (min 16 n1 + 1) 1))⟩), (15, ⟨.call [130, 354] (.c (.sl 370 0 0 (W.pln l3 (List.take (min 16 n1) (List.take (min 16 n1) (List.drop n0 l)) ++ [1])) 1)) [] [(370, (.one ⟨true, false, (.ints .u32 (W.pls l3 (List.take (min 16 n1) (List.take (min 16 n1) (List.drop n0 l)) ++ [1])))⟩))], none⟩), (17, ⟨.call [370, 50] (.c (.sl 402 0 0 (W.pln l3 (List.take (min 16 n1) (List.take (min 16 n1) (List.drop n0 l)) ++ [1]) + 16 + 1) 1)) [] [(402, (.one ⟨true, true, (.ints .u32 (W.tmm (W.pls l3 (List.take (min 16 n1) (List.take (min 16 n1) (List.drop n0 l)) ++ [1])) (W.rck k)))⟩))], none⟩), (18, ⟨.call [402] (.c (.sl 418 0 0 (List.length (W.redL (W.tmm (W.pls l3 (List.take (min 16 n1) (List.take (min 16 n1) (List.drop n0 l)) ++ [1])) (W.rck k)))) 1)) [402] [(418, (.one ⟨true, false, (.ints .u32 (W.redL (W.tmm (W.pls l3 (List.take (min 16 n1) (List.take (min 16 n1) (List.drop n0 l)) ++ [1])) (W.rck k))))⟩))], none⟩), (22, ⟨.ask, some (.c (.sl 1 0 (n0 + min 16 n1) (n1 - min 16 n1) 1))⟩)])
    (cs := [((.c (.sl 1 0 (addO n0 (min 16 n1)) (Int.toNat (↑n1 - ↑(min 16 n1))) 1)) : V) = (.c (.sl 1 0 (n0 + min 16 n1) (n1 - min 16 n1) 1)),
      ((0 : Int) ≤ (↑(min (16 : Nat) n1) : Int) ∧ (↑(min (16 : Nat) n1) : Int) ≤ (↑n1 : Int) ∧ (↑n1 : Int) ≤ (↑n1 : Int)),
      Contract Tryd.prog 122 [(.c (.sl 402 0 0 (W.pln l3 (List.take (min 16 n1) (List.take (min 16 n1) (List.drop n0 l)) ++ [1]) + 16 + 1) 1))] [(402, (.one ⟨true, true, (.ints .u32 (W.tmm (W.pls l3 (List.take (min 16 n1) (List.take (min 16 n1) (List.drop n0 l)) ++ [1])) (W.rck k)))⟩))] 418 (.c (.sl 418 0 0 (List.length (W.redL (W.tmm (W.pls l3 (List.take (min 16 n1) (List.take (min 16 n1) (List.drop n0 l)) ++ [1])) (W.rck k)))) 1)) [402] [(418, (.one ⟨true, false, (.ints .u32 (W.redL (W.tmm (W.pls l3 (List.take (min 16 n1) (List.take (min 16 n1) (List.drop n0 l)) ++ [1])) (W.rck k))))⟩))],
      Contract Tryd.prog 123 [(.c (.sl 370 0 0 (W.pln l3 (List.take (min 16 n1) (List.take (min 16 n1) (List.drop n0 l)) ++ [1])) 1)), (.c (.sl 50 0 0 16 1))] [(370, (.one ⟨true, false, (.ints .u32 (W.pls l3 (List.take (min 16 n1) (List.take (min 16 n1) (List.drop n0 l)) ++ [1])))⟩)), (50, (.one ⟨true, false, (.ints .u32 (W.rck k))⟩))] 402 (.c (.sl 402 0 0 (W.pln l3 (List.take (min 16 n1) (List.take (min 16 n1) (List.drop n0 l)) ++ [1]) + 16 + 1) 1)) [] [(402, (.one ⟨true, true, (.ints .u32 (W.tmm (W.pls l3 (List.take (min 16 n1) (List.take (min 16 n1) (List.drop n0 l)) ++ [1])) (W.rck k)))⟩))],
      Contract Tryd.prog 124 [(.c (.sl 130 0 0 n2 1)), (.c (.sl 354 0 0 (min 16 n1 + 1) 1))] [(130, (.one ⟨true, false, (.ints .u32 l3)⟩)), (354, (.one ⟨true, false, (.ints .u32 (List.take (min 16 n1) (List.take (min 16 n1) (List.drop n0 l)) ++ [1]))⟩))] 370 (.c (.sl 370 0 0 (W.pln l3 (List.take (min 16 n1) (List.take (min 16 n1) (List.drop n0 l)) ++ [1])) 1)) [] [(370, (.one ⟨true, false, (.ints .u32 (W.pls l3 (List.take (min 16 n1) (List.take (min 16 n1) (List.drop n0 l)) ++ [1])))⟩))],
      ((.c (.sl 354 0 0 (addO (min 16 n1) 1) 1)) : V) = (.c (.sl 354 0 0 (min 16 n1 + 1) 1)),
      ((1 : Nat) ≤ (1 : Nat) ∧ (5 : Nat) * (min (16 : Nat) n1 + (1 : Nat)) ≤ (4398046511104 : Nat) ∧ (0 : Nat) + min (16 : Nat) n1 * (1 : Nat) ≤ List.length (List.take (min (16 : Nat) n1) (List.drop n0 l))),
      Contract Tryd.prog 121 [(.c (.sl 1 0 n0 (min 16 n1) 1))] [(1, (.one ⟨false, false, (.ints .u8 l)⟩))] 322 (.c (.sl 322 0 0 (min 16 n1) 1)) [] [(322, (.one ⟨true, false, (.ints .u32 (List.take (min 16 n1) (List.drop n0 l)))⟩))],
      ((.c (.sl 1 0 (addO n0 0) (Int.toNat (↑(min 16 n1) - 0)) 1)) : V) = (.c (.sl 1 0 n0 (min 16 n1) 1)),
      ((0 : Int) ≤ (0 : Int) ∧ (0 : Int) ≤ (↑(min (16 : Nat) n1) : Int) ∧ (↑(min (16 : Nat) n1) : Int) ≤ (↑n1 : Int)),
      EI .i64 (bif decide ((↑n1 : Int) < 16) then (↑n1 : Int) else 16) ((↑(min 16 n1) : Int)),
      EB (decide ((↑n1 : Int) > 0)) true])
    mixed (by kernel_rfl) ⟨EV.sl (by simp only [addO_eq, mulE_eq, mulE_one, Int.toNat_natCast, IntKind.wrap_i64, mmin, mmax]) (by omega), (by omega), Contract0.inst (rd_x (W.tmm (W.pls l3 (List.take (min 16 n1) (List.take (min 16 n1) (List.drop n0 l)) ++ [1])) (W.rck k)) (W.pln l3 (List.take (min 16 n1) (List.take (min 16 n1) (List.drop n0 l)) ++ [1]) + 16 + 1) c9 c10 (by exact W.tmm_b8 (W.plr_b8 _) hb2)) [.b 402 1 false []] [none] [(2, 418)] [402] (by kernel_rfl) (by kernel_rfl) (by kernel_rfl) (by kernel_rfl) (by kernel_rfl), Contract0.inst (tm_r (W.pls l3 (List.take (min 16 n1) (List.take (min 16 n1) (List.drop n0 l)) ++ [1])) (W.rck k) (W.pln l3 (List.take (min 16 n1) (List.take (min 16 n1) (List.drop n0 l)) ++ [1])) 16 (by exact W.pls_len.symm) (by omega) c8 (by exact W.plr_b8 _) (by omega)) [.b 370 1 true [], .b 50 2 true []] [none, none] [(3, 402)] [] (by kernel_rfl) (by kernel_rfl) (by kernel_rfl) (by kernel_rfl) (by kernel_rfl), Contract0.inst (pl_r l3 (List.take (min 16 n1) (List.take (min 16 n1) (List.drop n0 l)) ++ [1]) n2 (min 16 n1 + 1) c4 (by simp only [and_true, List.length_set, List.length_append, List.length_replicate, List.length_take, List.length_drop, List.length_map, List.length_cons, List.length_nil, List.length_zipWith, splice_len1, W.le_len, W.bts_len, Int.toNat_natCast, addO_eq, mulE_eq, mulE_one]; omega) c5 c6 c7) [.b 130 1 true [], .b 354 2 true []] [none, none] [(3, 370)] [] (by kernel_rfl) (by kernel_rfl) (by kernel_rfl) (by kernel_rfl) (by kernel_rfl), EV.sl (by rfl) (by simp only [addO_eq, mulE_eq, mulE_one, Int.toNat_natCast, IntKind.wrap_i64, mmin, mmax]), (by simp only [and_true, List.length_set, List.length_append, List.length_replicate, List.length_take, List.length_drop, List.length_map, List.length_cons, List.length_nil, List.length_zipWith, splice_len1, W.le_len, W.bts_len, Int.toNat_natCast, addO_eq, mulE_eq, mulE_one]; omega), Contract0.inst (dg_r l n0 (min 16 n1) c3 (by omega) (by omega)) [.b 1 1 true []] [none] [(2, 322)] [] (by kernel_rfl) (by kernel_rfl) (by kernel_rfl) (by kernel_rfl) (by kernel_rfl), EV.sl (by simp only [addO_eq, mulE_eq, mulE_one, Int.toNat_natCast, IntKind.wrap_i64, mmin, mmax]; omega) (by rfl), (by omega), .mk (by simp only [addO_eq, mulE_eq, mulE_one, Int.toNat_natCast, IntKind.wrap_i64, mmin, mmax]; omega), .mk (decide_eq_true h2), trivial⟩
theorem LSa_xf (k l : List Int) (o n n0 n1 n2 : Nat) (l3 : List Int)
    (hk : k.length = 32)
    (hl : o + n ≤ l.length)
    (hkb : W.b8 k)
    (hlb : W.b8 l)
    (hn : n ≤ 2097152)
    (hv1 : (W.sl8 (W.cka (k.take 16) 4)).length = 16)
    (hv2 : (W.rck k).length = 16)
    (hb2 : W.b8 (W.rck k))
    (h2 : (¬(↑n1 : Int) > (0 : Int))) :
    CodeOk Tryd.prog 81 130 (kAt (kOf Tryd.prog Tryd.f106) [true, true, true, true, true, false, false, false]) (LSaI k l n0 n1 n2 l3) (.exit 4) (LSaI k l n0 n1 n2 l3) :=
  CodeOk.of_runs (fuel := 300) (v := ⟨[2, 4, 5, 1, 8], [1, 2, 18, 50, 130], [(130, 130)], 146⟩) (hs := [(2, ⟨.auto, some (.c (.bool (false)))⟩)])
    (cs := [EB (decide ((↑n1 : Int) > 0)) false])
    mixed (by kernel_rfl) ⟨.mk (decide_eq_false h2), trivial⟩

end Go.Proofs.YtmfnldkiaodkpaaDoor.Vm

namespace Go.Proofs.YtmfnldkiaodkpaaDoor.Vm
open Go Go.Proofs Go.Proofs.YtmfnldkiaodkpaaDoor
theorem lsl (k l : List Int) (o n : Nat) (hk : k.length = 32) (hl : o + n ≤ l.length) (hkb : W.b8 k) (hlb : W.b8 l) (hn : n ≤ 2097152) :
    CodeOk Tryd.prog 81 130 (kAt (kOf Tryd.prog Tryd.f106) [true, true, true, true, true, false, false]) (LSa0 k l o n) (.exit 4) (LSaI k l (o + n) 0 (W.tgF k l o n).length (W.tgF k l o n)) := by
  have hv1 : (W.sl8 (W.cka (k.take 16) 4)).length = 16 := by rw [W.sl8_eq, W.cka_len, List.length_take]; omega
  have hv2 := W.rck_len hk
  have hb2 := W.rck_b8 hkb
  unfold W.tgF
  rw [W.sl8_eq]
  have hb0 : W.b8 [] := fun j => by rw [W.d_none (Nat.zero_le _)]; decide
  refine LSa_enter k l o n (LSa_by (fun x : Nat × Nat × Nat × List Int => LSaI k l x.2.1 x.2.2.1 x.2.2.2.length x.2.2.2)
    (fun x => x.2.2.1 ≤ x.1 ∧ x.2.1 + x.2.2.1 = o + n ∧ o ≤ x.2.1 ∧ W.b8 x.2.2.2 ∧ x.2.2.2.length ≤ 17 + 18 * (x.2.1 - o) ∧ W.tgk (W.rck k) l x.1 x.2.1 x.2.2.1 x.2.2.2 = W.tgk (W.rck k) l n o n [])
    (fun x => x.1) (by simp) ?_ (n, o, n, []) ⟨Nat.le_refl _, rfl, Nat.le_refl _, hb0, by simp, rfl⟩)
  rintro ⟨f, p, c, a⟩ ⟨hc, hp, ho, hb, hlen, he⟩
  dsimp only at hc hp ho hb hlen he ⊢
  by_cases h : c = 0
  · right
    subst h
    have r := LSa_xf k l o n p 0 a.length a hk hl hkb hlb hn hv1 hv2 hb2 (by omega)
    have e : W.tgk (W.rck k) l f p 0 a = a := by
      cases f with
      | zero => rfl
      | succ f => rw [W.tgk, if_pos rfl]
    rw [← he, e]
    have ep : p = o + n := by omega
    rw [ep] at r ⊢
    exact r
  · left
    cases f with
    | zero => omega
    | succ f =>
      have tt : List.take (min 16 c) (List.take (min 16 c) (List.drop p l)) = List.take (min 16 c) (List.drop p l) := by rw [List.take_take, Nat.min_self]
      have hs := W.seg_b8 (p := p) (c := min 16 c) hlb
      have hpl := (W.pln_ge (a := a) (b := List.take (min 16 c) (List.drop p l) ++ [1])).2.2
      have hsl : (List.take (min 16 c) (List.drop p l) ++ [1]).length ≤ 17 := by
        rw [List.length_append, W.seg_l (by omega)]; simp only [List.length_cons, List.length_nil]; omega
      have hpb : W.b8 (W.pls a (List.take (min 16 c) (List.drop p l) ++ [1])) := W.plr_b8 _
      have tl : (W.tmm (W.pls a (List.take (min 16 c) (List.drop p l) ++ [1])) (W.rck k)).length = W.pln a (List.take (min 16 c) (List.drop p l) ++ [1]) + 16 + 1 := by
        rw [W.tmm_len hpb hb2, W.pls_len, hv2]
      have r := LSa_rt k l o n p c a.length a hk hl hkb hlb hn hv1 hv2 hb2 (by omega) (by omega) rfl (by omega) hb
      rw [tt] at r
      have r := r hs (by omega) tl.symm (by omega)
      have st := W.tgk_step (l := l) (a := a) (p := p) (c := c) hb2 hv2
      have rb := (W.red_ok (W.tmm_b8 (a := W.pls a (List.take (min 16 c) (List.drop p l) ++ [1])) hpb hb2)).1
      have he2 : W.tgk (W.rck k) l f (p + min 16 c) (c - min 16 c) (W.redL (W.tmm (W.pls a (List.take (min 16 c) (List.drop p l) ++ [1])) (W.rck k))) = W.tgk (W.rck k) l n o n [] := by
        rw [← he, W.tgk, if_neg h]
      generalize W.redL (W.tmm (W.pls a (List.take (min 16 c) (List.drop p l) ++ [1])) (W.rck k)) = A at *
      have q1 : c - min 16 c ≤ f := by omega
      have q2 : p + min 16 c + (c - min 16 c) = o + n := by omega
      have q3 : o ≤ p + min 16 c := by omega
      have q4 : A.length ≤ 17 + 18 * (p + min 16 c - o) := by omega
      exact ⟨(f, p + min 16 c, c - min 16 c, A), ⟨q1, q2, q3, rb, q4, he2⟩, Nat.lt_succ_self f, r⟩
end Go.Proofs.YtmfnldkiaodkpaaDoor.Vm
