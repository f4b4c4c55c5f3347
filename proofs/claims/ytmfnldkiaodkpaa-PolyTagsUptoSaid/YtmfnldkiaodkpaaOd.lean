/- What functions of the program come to: parts of the walk (Od). -/
import Derived.Test.YtmfnldkiaodkpaaPi
import Derived.Test.YtmfnldkiaodkpaaOc
import Derived.KernelRfl
import Derived.Test.YtmfnldkiaodkpaaProg
set_option linter.unusedSimpArgs false
set_option linter.unusedVariables false
namespace Go.Proofs.Ytmfnldkiaodkpaa.Vm
open Go Go.Proofs Go.Proofs.Ytmfnldkiaodkpaa
theorem le_getD : ∀ {n i : Nat} {v : Int}, i < n → (W.le n v).getD i 0 = v / 256 ^ i % 256
  | n + 1, 0, v, _ => by simp [W.le]
  | n + 1, i + 1, v, h => by
    simp only [W.le, List.getD_cons_succ]
    rw [le_getD (by omega), Int.pow_succ, Int.mul_comm, Int.ediv_ediv_of_nonneg (by decide)]
/-- A sum, byte by byte, is the sum. -/
theorem cc_num {H K : Int} {h s : Nat → Int} {N : Nat} (hh : ∀ i, i < N → h i = H / 256 ^ i % 256) (hs : ∀ i, i < N → s i = K / 256 ^ i % 256) :
    ∀ i, i < N → cc h s i = (H % 256 ^ (i + 1) + K % 256 ^ (i + 1)) / 256 ^ i
  | 0, hi => by
    show h 0 + s 0 = _
    rw [hh 0 hi, hs 0 hi]
    simp
  | i + 1, hi => by
    have ih := cc_num hh hs i (by omega)
    show cc h s i / 256 + h (i + 1) + s (i + 1) = _
    rw [ih, hh _ hi, hs _ hi]
    have hp : (0 : Int) < 256 ^ (i + 1) := Int.pow_pos (by decide)
    have split : ∀ x : Int, x % 256 ^ (i + 1 + 1) = x % 256 ^ (i + 1) + 256 ^ (i + 1) * (x / 256 ^ (i + 1) % 256) := by
      intro x
      have e : (256 : Int) ^ (i + 1 + 1) = 256 ^ (i + 1) * 256 := Int.pow_succ _ _
      have h1 := Int.emod_add_mul_ediv x (256 ^ (i + 1))
      have h2 := Int.emod_add_mul_ediv (x / 256 ^ (i + 1)) 256
      have hx : x = x % 256 ^ (i + 1) + 256 ^ (i + 1) * (x / 256 ^ (i + 1) % 256) + (256 ^ (i + 1) * 256) * (x / 256 ^ (i + 1) / 256) := by
        have : 256 ^ (i + 1) * (x / 256 ^ (i + 1)) = 256 ^ (i + 1) * (x / 256 ^ (i + 1) % 256) + (256 ^ (i + 1) * 256) * (x / 256 ^ (i + 1) / 256) := by
          rw [Int.mul_assoc, ← Int.mul_add, h2]
        omega
      have b1 := Int.emod_nonneg x (Int.ne_of_gt hp)
      have b2 := Int.emod_lt_of_pos x hp
      have b3 : 0 ≤ x / 256 ^ (i + 1) % 256 ∧ x / 256 ^ (i + 1) % 256 < 256 := by omega
      have b4 : 256 ^ (i + 1) * (x / 256 ^ (i + 1) % 256) ≤ 256 ^ (i + 1) * 255 := Int.mul_le_mul_of_nonneg_left (by omega) (Int.le_of_lt hp)
      have b5 : 0 ≤ 256 ^ (i + 1) * (x / 256 ^ (i + 1) % 256) := Int.mul_nonneg (Int.le_of_lt hp) b3.1
      have h4 : x % (256 ^ (i + 1) * 256) = (x % 256 ^ (i + 1) + 256 ^ (i + 1) * (x / 256 ^ (i + 1) % 256)) % (256 ^ (i + 1) * 256) := by
        conv => lhs; rw [hx]
        rw [Int.add_mul_emod_self_left]
      rw [e, h4]
      exact Int.emod_eq_of_lt (by omega) (by omega)
    rw [split H, split K]
    generalize H % 256 ^ (i + 1) = a
    generalize K % 256 ^ (i + 1) = b
    generalize H / 256 ^ (i + 1) % 256 = c
    generalize K / 256 ^ (i + 1) % 256 = d
    have e1 : a + 256 ^ (i + 1) * c + (b + 256 ^ (i + 1) * d) = a + b + 256 ^ (i + 1) * (c + d) := by rw [Int.mul_add]; omega
    rw [e1, Int.add_mul_ediv_left _ _ (Int.ne_of_gt hp), Int.ediv_ediv_of_nonneg (Int.le_of_lt (Int.pow_pos (by decide))), ← Int.pow_succ]
    simp only [Nat.succ_eq_add_one]
    omega
theorem cc_byte {H K : Int} {h s : Nat → Int} {N : Nat} (hh : ∀ i, i < N → h i = H / 256 ^ i % 256) (hs : ∀ i, i < N → s i = K / 256 ^ i % 256) {i : Nat} (hi : i < N) : cc h s i % 256 = (H + K) / 256 ^ i % 256 := by
  rw [cc_num hh hs i hi]
  have hp : (0 : Int) < 256 ^ i := Int.pow_pos (by decide)
  have e1 := Int.emod_add_mul_ediv H (256 ^ (i + 1))
  have e2 := Int.emod_add_mul_ediv K (256 ^ (i + 1))
  have e3 : H + K = (H % 256 ^ (i + 1) + K % 256 ^ (i + 1)) + 256 ^ i * (256 * (H / 256 ^ (i + 1) + K / 256 ^ (i + 1))) := by
    have : (256 : Int) ^ (i + 1) * (H / 256 ^ (i + 1)) + 256 ^ (i + 1) * (K / 256 ^ (i + 1)) = 256 ^ i * (256 * (H / 256 ^ (i + 1) + K / 256 ^ (i + 1))) := by
      rw [← Int.mul_add, ← Int.mul_assoc, ← Int.pow_succ]
    omega
  have e4 : (H + K) / 256 ^ i = (H % 256 ^ (i + 1) + K % 256 ^ (i + 1)) / 256 ^ i + 256 * (H / 256 ^ (i + 1) + K / 256 ^ (i + 1)) := by
    conv => lhs; rw [e3]
    rw [Int.add_mul_ediv_left _ _ (Int.ne_of_gt hp)]
  rw [e4, Int.add_mul_emod_self_left]
theorem blk_seg {l : List Int} {o n p t : Nat} (h : p + t ≤ n) (ht : t ≤ 16) : blk l (o + p) t = blk (List.take n (List.drop o l)) p t := by
  have e1 : (((t : Nat) : Int) - 0).toNat = t := by omega
  unfold blk blkB blkA
  simp only [e1, addO_eq, mulE1, Nat.add_zero]
  have e : List.take t (List.drop p (List.take n (List.drop o l))) = List.take t (List.drop (o + p) l) := by
    rw [List.drop_take, List.drop_drop, List.take_take]
    have e2 : min t (n - p) = t := by omega
    rw [e2]
  rw [e]
theorem evalP_seg {l : List Int} {o n : Nat} (R : Int) : ∀ (m : Nat) (A : Int), m ≤ n → evalP l R (o + n) m A = evalP (List.take n (List.drop o l)) R n m A := by
  intro m
  induction m using Nat.strongRecOn with
  | _ m ih =>
    intro A hm
    conv => lhs; rw [evalP]
    conv => rhs; rw [evalP]
    by_cases h0 : m = 0
    · rw [dif_pos h0, dif_pos h0]
    · rw [dif_neg h0, dif_neg h0]
      have e : o + n - m = o + (n - m) := by omega
      rw [e, blk_seg (l := l) (o := o) (n := n) (p := n - m) (t := min m 16) (by omega) (by omega)]
      exact ih _ (by omega) _ (by omega)
end Go.Proofs.Ytmfnldkiaodkpaa.Vm
namespace Go.Proofs.Ytmfnldkiaodkpaa.W
open Go Go.Proofs.Ytmfnldkiaodkpaa.Vm
/-- The number r of a key. -/
def tagR (k : List Int) : Int := n17 (fun i => [bAnd IntKind.u8 (k.getD 0 0) 255, bAnd IntKind.u8 (k.getD 1 0) 255, bAnd IntKind.u8 (k.getD 2 0) 255, bAnd IntKind.u8 (k.getD 3 0) 15, bAnd IntKind.u8 (k.getD 4 0) 252, bAnd IntKind.u8 (k.getD 5 0) 255, bAnd IntKind.u8 (k.getD 6 0) 255, bAnd IntKind.u8 (k.getD 7 0) 15, bAnd IntKind.u8 (k.getD 8 0) 252, bAnd IntKind.u8 (k.getD 9 0) 255, bAnd IntKind.u8 (k.getD 10 0) 255, bAnd IntKind.u8 (k.getD 11 0) 15, bAnd IntKind.u8 (k.getD 12 0) 252, bAnd IntKind.u8 (k.getD 13 0) 255, bAnd IntKind.u8 (k.getD 14 0) 255, bAnd IntKind.u8 (k.getD 15 0) 15, 0].getD i 0) % 1361129467683753853853498429727072845824
/-- The tag's number: the text's blocks, reckoned with r, and s. -/
def tagN (k t : List Int) : Int := evalF t (tagR k) t.length (t.length / 16 + 1) t.length 0 % p130 + num (k.drop 16)
theorem tagN_eq (k t : List Int) : tagN k t = evalP t (tagR k) t.length t.length 0 % p130 + num (k.drop 16) := by
  rw [tagN, evalP_eq _ _ _ (t.length / 16 + 1) _ _ (by omega)]
def tag (k t : List Int) : List Int := le 16 (tagN k t)
end Go.Proofs.Ytmfnldkiaodkpaa.W
namespace Go.Proofs.Ytmfnldkiaodkpaa.Vm
open Go Go.Proofs Go.Proofs.Ytmfnldkiaodkpaa
theorem row32 {l : List Int} (h : l.length = 32) : l = [l.getD 0 0, l.getD 1 0, l.getD 2 0, l.getD 3 0, l.getD 4 0, l.getD 5 0, l.getD 6 0, l.getD 7 0, l.getD 8 0, l.getD 9 0, l.getD 10 0, l.getD 11 0, l.getD 12 0, l.getD 13 0, l.getD 14 0, l.getD 15 0, l.getD 16 0, l.getD 17 0, l.getD 18 0, l.getD 19 0, l.getD 20 0, l.getD 21 0, l.getD 22 0, l.getD 23 0, l.getD 24 0, l.getD 25 0, l.getD 26 0, l.getD 27 0, l.getD 28 0, l.getD 29 0, l.getD 30 0, l.getD 31 0] := by
  match l, h with
  | [_, _, _, _, _, _, _, _, _, _, _, _, _, _, _, _, _, _, _, _, _, _, _, _, _, _, _, _, _, _, _, _], _ => rfl
theorem num_byte {l : List Int} (h : W.bytes l) {i : Nat} (hi : i < l.length) : l.getD i 0 = W.num l / 256 ^ i % 256 := by
  conv => lhs; rw [← W.le_num h]
  exact le_getD hi
theorem byte_get {l : List Int} (h : W.bytes l) (i : Nat) : By (l.getD i 0) := bt_list h i
theorem tag_ok (k l : List Int) (o n : Nat) (hk : k.length = 32) (hkb : W.bytes k) (hlb : W.bytes l) (hl : o + n ≤ l.length) :
    Contract0 Try.prog 18 [(.aggi .u8 k), (.c (.sl 1 0 o n 1))] [(1, .one ⟨false, false, .ints .u8 l⟩)] 2 (.aggi .u8 (W.tag k (List.take n (List.drop o l)))) [] [] := by
  obtain ⟨h, hh, hv, hT⟩ := tag_num _ _ _ _ _ _ _ _ _ _ _ _ _ _ _ _ (byte_get hkb 0) (byte_get hkb 1) (byte_get hkb 2) (byte_get hkb 3) (byte_get hkb 4) (byte_get hkb 5) (byte_get hkb 6) (byte_get hkb 7) (byte_get hkb 8) (byte_get hkb 9) (byte_get hkb 10) (byte_get hkb 11) (byte_get hkb 12) (byte_get hkb 13) (byte_get hkb 14) (byte_get hkb 15) l hlb hl
  have run := hT (S := fun i => k.getD (16 + i) 0) fun i => byte_get hkb (16 + i)
  have hk' : k = _ := row32 hk
  have hb16 : W.bytes (k.drop 16) := fun x hx => hkb x (List.mem_of_mem_drop hx)
  have hs : ∀ i, i < 16 → (fun i => k.getD (16 + i) 0) i = W.num (k.drop 16) / 256 ^ i % 256 := fun i hi => by
    have := num_byte hb16 (i := i) (by rw [List.length_drop]; omega)
    rw [drop_getD] at this; exact this
  have e := evalP_seg (l := l) (o := o) (n := n) (W.tagR k) n 0 (Nat.le_refl _)
  have hv' : ∀ i, i < 16 → h i = (evalP (List.take n (List.drop o l)) (W.tagR k) n n 0 % p130) / 256 ^ i % 256 := fun i hi => by
    rw [← e]; exact hv i hi
  have res : W.tag k (List.take n (List.drop o l)) = (List.range 16).map fun i => cc h (fun i => k.getD (16 + i) 0) i % 256 := by
    refine getD_ext (by simp [W.tag, W.le_len]) fun i hi => ?_
    have hi : i < 16 := by simpa [W.tag, W.le_len] using hi
    rw [W.tag, le_getD hi]
    have e2 : ((List.range 16).map fun i => cc h (fun i => k.getD (16 + i) 0) i % 256).getD i 0 = cc h (fun i => k.getD (16 + i) 0) i % 256 := by
      simp [List.getD_eq_getElem?_getD, List.getElem?_map, List.getElem?_range hi]
    rw [e2, cc_byte hv' hs hi, W.tagN_eq, seg_len hl]
  rw [res]
  rw [hk']
  exact run
end Go.Proofs.Ytmfnldkiaodkpaa.Vm
namespace Go.Proofs.Ytmfnldkiaodkpaa.W
open Go Go.Proofs.Ytmfnldkiaodkpaa.Vm
def once (k nn : List Int) : List Int := List.take 32 (block k 0 nn)
def zs (n : Nat) : List Int := List.replicate ((16 - n % 16) % 16) 0
/-- What is told to the tag of a box. -/
def boxed (ad x : List Int) : List Int := ad ++ zs ad.length ++ x ++ zs x.length ++ p8 ad.length ++ p8 x.length
def boxTag (k nn ad x : List Int) : List Int := tag (once k nn) (boxed ad x)
def box (k nn ad t : List Int) : List Int := apply k 1 nn t ++ boxTag k nn ad (apply k 1 nn t)
theorem le_bytes {n : Nat} {v : Int} : bytes (le n v) := fun x hx => le_byte hx
theorem bts_bytes {v : Int} : bytes (bts v) := by rw [bts_le]; exact le_bytes
end Go.Proofs.Ytmfnldkiaodkpaa.W
namespace Go.Proofs.Ytmfnldkiaodkpaa.Vm
open Go Go.Proofs Go.Proofs.Ytmfnldkiaodkpaa
end Go.Proofs.Ytmfnldkiaodkpaa.Vm

namespace Go.Proofs.Ytmfnldkiaodkpaa.Vm
open Go Go.Proofs Go.Proofs.Ytmfnldkiaodkpaa
set_option maxRecDepth 100000
end Go.Proofs.Ytmfnldkiaodkpaa.Vm
