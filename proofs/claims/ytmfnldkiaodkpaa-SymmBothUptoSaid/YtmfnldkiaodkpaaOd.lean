/- What functions of the program come to: parts of the walk (Od). -/
import Derived.Test.YtmfnldkiaodkpaaPi
import Derived.Test.YtmfnldkiaodkpaaOc
import Derived.KernelRfl
import Derived.Test.YtmfnldkiaodkpaaProg
set_option linter.unusedSimpArgs false
set_option linter.unusedVariables false
namespace Go.Proofs.Ytmfnldkiaodkpaa.Vm
open Go Go.Proofs Go.Proofs.Ytmfnldkiaodkpaa
theorem le_getD : ∀ {n i : Nat} {v : Int}, i < n → (W.le n v).getD i 0 = v / 256 ^ i % 256
  | n + 1, 0, v, _ => by simp [W.le]
  | n + 1, i + 1, v, h => by
    simp only [W.le, List.getD_cons_succ]
    rw [le_getD (by omega), Int.pow_succ, Int.mul_comm, Int.ediv_ediv_of_nonneg (by decide)]
theorem cc_num {H K : Int} {h s : Nat → Int} {N : Nat} (hh : ∀ i, i < N → h i = H / 256 ^ i % 256) (hs : ∀ i, i < N → s i = K / 256 ^ i % 256) :
    ∀ i, i < N → cc h s i = (H % 256 ^ (i + 1) + K % 256 ^ (i + 1)) / 256 ^ i
  | 0, hi => by
    show h 0 + s 0 = _
    rw [hh 0 hi, hs 0 hi]
    simp
  | i + 1, hi => by
    have ih := cc_num hh hs i (by omega)
    show cc h s i / 256 + h (i + 1) + s (i + 1) = _
    rw [ih, hh _ hi, hs _ hi]
    have hp : (0 : Int) < 256 ^ (i + 1) := Int.pow_pos (by decide)
    have split : ∀ x : Int, x % 256 ^ (i + 1 + 1) = x % 256 ^ (i + 1) + 256 ^ (i + 1) * (x / 256 ^ (i + 1) % 256) := by
      intro x
      have e : (256 : Int) ^ (i + 1 + 1) = 256 ^ (i + 1) * 256 := Int.pow_succ _ _
      have h1 := Int.emod_add_mul_ediv x (256 ^ (i + 1))
      have h2 := Int.emod_add_mul_ediv (x / 256 ^ (i + 1)) 256
      have hx : x = x % 256 ^ (i + 1) + 256 ^ (i + 1) * (x / 256 ^ (i + 1) % 256) + (256 ^ (i + 1) * 256) * (x / 256 ^ (i + 1) / 256) := by
        have : 256 ^ (i + 1) * (x / 256 ^ (i + 1)) = 256 ^ (i + 1) * (x / 256 ^ (i + 1) % 256) + (256 ^ (i + 1) * 256) * (x / 256 ^ (i + 1) / 256) := by
          rw [Int.mul_assoc, ← Int.mul_add, h2]
        omega
      have b1 := Int.emod_nonneg x (Int.ne_of_gt hp)
      have b2 := Int.emod_lt_of_pos x hp
      have b3 : 0 ≤ x / 256 ^ (i + 1) % 256 ∧ x / 256 ^ (i + 1) % 256 < 256 := by omega
      have b4 : 256 ^ (i + 1) * (x / 256 ^ (i + 1) % 256) ≤ 256 ^ (i + 1) * 255 := Int.mul_le_mul_of_nonneg_left (by omega) (Int.le_of_lt hp)
      have b5 : 0 ≤ 256 ^ (i + 1) * (x / 256 ^ (i + 1) % 256) := Int.mul_nonneg (Int.le_of_lt hp) b3.1
      have h4 : x % (256 ^ (i + 1) * 256) = (x % 256 ^ (i + 1) + 256 ^ (i + 1) * (x / 256 ^ (i + 1) % 256)) % (256 ^ (i + 1) * 256) := by
        conv => lhs; rw [hx]
        rw [Int.add_mul_emod_self_left]
      rw [e, h4]
      exact Int.emod_eq_of_lt (by omega) (by omega)
    rw [split H, split K]
    generalize H % 256 ^ (i + 1) = a
    generalize K % 256 ^ (i + 1) = b
    generalize H / 256 ^ (i + 1) % 256 = c
    generalize K / 256 ^ (i + 1) % 256 = d
    have e1 : a + 256 ^ (i + 1) * c + (b + 256 ^ (i + 1) * d) = a + b + 256 ^ (i + 1) * (c + d) := by rw [Int.mul_add]; omega
    rw [e1, Int.add_mul_ediv_left _ _ (Int.ne_of_gt hp), Int.ediv_ediv_of_nonneg (Int.le_of_lt (Int.pow_pos (by decide))), ← Int.pow_succ]
    simp only [Nat.succ_eq_add_one]
    omega
theorem cc_byte {H K : Int} {h s : Nat → Int} {N : Nat} (hh : ∀ i, i < N → h i = H / 256 ^ i % 256) (hs : ∀ i, i < N → s i = K / 256 ^ i % 256) {i : Nat} (hi : i < N) : cc h s i % 256 = (H + K) / 256 ^ i % 256 := by
  rw [cc_num hh hs i hi]
  have hp : (0 : Int) < 256 ^ i := Int.pow_pos (by decide)
  have e1 := Int.emod_add_mul_ediv H (256 ^ (i + 1))
  have e2 := Int.emod_add_mul_ediv K (256 ^ (i + 1))
  have e3 : H + K = (H % 256 ^ (i + 1) + K % 256 ^ (i + 1)) + 256 ^ i * (256 * (H / 256 ^ (i + 1) + K / 256 ^ (i + 1))) := by
    have : (256 : Int) ^ (i + 1) * (H / 256 ^ (i + 1)) + 256 ^ (i + 1) * (K / 256 ^ (i + 1)) = 256 ^ i * (256 * (H / 256 ^ (i + 1) + K / 256 ^ (i + 1))) := by
      rw [← Int.mul_add, ← Int.mul_assoc, ← Int.pow_succ]
    omega
  have e4 : (H + K) / 256 ^ i = (H % 256 ^ (i + 1) + K % 256 ^ (i + 1)) / 256 ^ i + 256 * (H / 256 ^ (i + 1) + K / 256 ^ (i + 1)) := by
    conv => lhs; rw [e3]
    rw [Int.add_mul_ediv_left _ _ (Int.ne_of_gt hp)]
  rw [e4, Int.add_mul_emod_self_left]
theorem blk_seg {l : List Int} {o n p t : Nat} (h : p + t ≤ n) (ht : t ≤ 16) : blk l (o + p) t = blk (List.take n (List.drop o l)) p t := by
  have e1 : (((t : Nat) : Int) - 0).toNat = t := by omega
  unfold blk blkB blkA
  simp only [e1, addO_eq, mulE1, Nat.add_zero]
  have e : List.take t (List.drop p (List.take n (List.drop o l))) = List.take t (List.drop (o + p) l) := by
    rw [List.drop_take, List.drop_drop, List.take_take]
    have e2 : min t (n - p) = t := by omega
    rw [e2]
  rw [e]
theorem evalP_seg {l : List Int} {o n : Nat} (R : Int) : ∀ (m : Nat) (A : Int), m ≤ n → evalP l R (o + n) m A = evalP (List.take n (List.drop o l)) R n m A := by
  intro m
  induction m using Nat.strongRecOn with
  | _ m ih =>
    intro A hm
    conv => lhs; rw [evalP]
    conv => rhs; rw [evalP]
    by_cases h0 : m = 0
    · rw [dif_pos h0, dif_pos h0]
    · rw [dif_neg h0, dif_neg h0]
      have e : o + n - m = o + (n - m) := by omega
      rw [e, blk_seg (l := l) (o := o) (n := n) (p := n - m) (t := min m 16) (by omega) (by omega)]
      exact ih _ (by omega) _ (by omega)
end Go.Proofs.Ytmfnldkiaodkpaa.Vm
namespace Go.Proofs.Ytmfnldkiaodkpaa.W
open Go Go.Proofs.Ytmfnldkiaodkpaa.Vm
def tagR (k : List Int) : Int := n17 (fun i => [bAnd IntKind.u8 (k.getD 0 0) 255, bAnd IntKind.u8 (k.getD 1 0) 255, bAnd IntKind.u8 (k.getD 2 0) 255, bAnd IntKind.u8 (k.getD 3 0) 15, bAnd IntKind.u8 (k.getD 4 0) 252, bAnd IntKind.u8 (k.getD 5 0) 255, bAnd IntKind.u8 (k.getD 6 0) 255, bAnd IntKind.u8 (k.getD 7 0) 15, bAnd IntKind.u8 (k.getD 8 0) 252, bAnd IntKind.u8 (k.getD 9 0) 255, bAnd IntKind.u8 (k.getD 10 0) 255, bAnd IntKind.u8 (k.getD 11 0) 15, bAnd IntKind.u8 (k.getD 12 0) 252, bAnd IntKind.u8 (k.getD 13 0) 255, bAnd IntKind.u8 (k.getD 14 0) 255, bAnd IntKind.u8 (k.getD 15 0) 15, 0].getD i 0) % 1361129467683753853853498429727072845824
def tagN (k t : List Int) : Int := evalF t (tagR k) t.length (t.length / 16 + 1) t.length 0 % p130 + num (k.drop 16)
theorem tagN_eq (k t : List Int) : tagN k t = evalP t (tagR k) t.length t.length 0 % p130 + num (k.drop 16) := by
  rw [tagN, evalP_eq _ _ _ (t.length / 16 + 1) _ _ (by omega)]
def tag (k t : List Int) : List Int := le 16 (tagN k t)
end Go.Proofs.Ytmfnldkiaodkpaa.W
namespace Go.Proofs.Ytmfnldkiaodkpaa.Vm
open Go Go.Proofs Go.Proofs.Ytmfnldkiaodkpaa
theorem row32 {l : List Int} (h : l.length = 32) : l = [l.getD 0 0, l.getD 1 0, l.getD 2 0, l.getD 3 0, l.getD 4 0, l.getD 5 0, l.getD 6 0, l.getD 7 0, l.getD 8 0, l.getD 9 0, l.getD 10 0, l.getD 11 0, l.getD 12 0, l.getD 13 0, l.getD 14 0, l.getD 15 0, l.getD 16 0, l.getD 17 0, l.getD 18 0, l.getD 19 0, l.getD 20 0, l.getD 21 0, l.getD 22 0, l.getD 23 0, l.getD 24 0, l.getD 25 0, l.getD 26 0, l.getD 27 0, l.getD 28 0, l.getD 29 0, l.getD 30 0, l.getD 31 0] := by
  match l, h with
  | [_, _, _, _, _, _, _, _, _, _, _, _, _, _, _, _, _, _, _, _, _, _, _, _, _, _, _, _, _, _, _, _], _ => rfl
theorem num_byte {l : List Int} (h : W.bytes l) {i : Nat} (hi : i < l.length) : l.getD i 0 = W.num l / 256 ^ i % 256 := by
  conv => lhs; rw [← W.le_num h]
  exact le_getD hi
theorem byte_get {l : List Int} (h : W.bytes l) (i : Nat) : By (l.getD i 0) := bt_list h i
theorem tag_ok (k l : List Int) (o n : Nat) (hk : k.length = 32) (hkb : W.bytes k) (hlb : W.bytes l) (hl : o + n ≤ l.length) :
    Contract0 Try.prog 18 [(.aggi .u8 k), (.c (.sl 1 0 o n 1))] [(1, .one ⟨false, false, .ints .u8 l⟩)] 2 (.aggi .u8 (W.tag k (List.take n (List.drop o l)))) [] [] := by
  obtain ⟨h, hh, hv, hT⟩ := tag_num _ _ _ _ _ _ _ _ _ _ _ _ _ _ _ _ (byte_get hkb 0) (byte_get hkb 1) (byte_get hkb 2) (byte_get hkb 3) (byte_get hkb 4) (byte_get hkb 5) (byte_get hkb 6) (byte_get hkb 7) (byte_get hkb 8) (byte_get hkb 9) (byte_get hkb 10) (byte_get hkb 11) (byte_get hkb 12) (byte_get hkb 13) (byte_get hkb 14) (byte_get hkb 15) l hlb hl
  have run := hT (S := fun i => k.getD (16 + i) 0) fun i => byte_get hkb (16 + i)
  have hk' : k = _ := row32 hk
  have hb16 : W.bytes (k.drop 16) := fun x hx => hkb x (List.mem_of_mem_drop hx)
  have hs : ∀ i, i < 16 → (fun i => k.getD (16 + i) 0) i = W.num (k.drop 16) / 256 ^ i % 256 := fun i hi => by
    have := num_byte hb16 (i := i) (by rw [List.length_drop]; omega)
    rw [drop_getD] at this; exact this
  have e := evalP_seg (l := l) (o := o) (n := n) (W.tagR k) n 0 (Nat.le_refl _)
  have hv' : ∀ i, i < 16 → h i = (evalP (List.take n (List.drop o l)) (W.tagR k) n n 0 % p130) / 256 ^ i % 256 := fun i hi => by
    rw [← e]; exact hv i hi
  have res : W.tag k (List.take n (List.drop o l)) = (List.range 16).map fun i => cc h (fun i => k.getD (16 + i) 0) i % 256 := by
    refine getD_ext (by simp [W.tag, W.le_len]) fun i hi => ?_
    have hi : i < 16 := by simpa [W.tag, W.le_len] using hi
    rw [W.tag, le_getD hi]
    have e2 : ((List.range 16).map fun i => cc h (fun i => k.getD (16 + i) 0) i % 256).getD i 0 = cc h (fun i => k.getD (16 + i) 0) i % 256 := by
      simp [List.getD_eq_getElem?_getD, List.getElem?_map, List.getElem?_range hi]
    rw [e2, cc_byte hv' hs hi, W.tagN_eq, seg_len hl]
  rw [res]
  rw [hk']
  exact run
end Go.Proofs.Ytmfnldkiaodkpaa.Vm
namespace Go.Proofs.Ytmfnldkiaodkpaa.W
open Go Go.Proofs.Ytmfnldkiaodkpaa.Vm
def nonce (n : Int) : List Int := [0, 0, 0, 0, n % 256, n / 256 % 256, n / 65536 % 256, n / 16777216 % 256, n / 4294967296 % 256, n / 1099511627776 % 256, n / 281474976710656 % 256, n / 72057594037927936 % 256]
theorem nonce_len {n : Int} : (nonce n).length = 12 := rfl
def once (k nn : List Int) : List Int := List.take 32 (block k 0 nn)
theorem once_len {k nn : List Int} : (once k nn).length = 32 := rfl
def zs (n : Nat) : List Int := List.replicate ((16 - n % 16) % 16) 0
def boxed (ad x : List Int) : List Int := ad ++ zs ad.length ++ x ++ zs x.length ++ p8 ad.length ++ p8 x.length
def boxTag (k nn ad x : List Int) : List Int := tag (once k nn) (boxed ad x)
def box (k nn ad t : List Int) : List Int := apply k 1 nn t ++ boxTag k nn ad (apply k 1 nn t)
theorem tag_len {k t : List Int} : (tag k t).length = 16 := le_len
theorem boxTag_len {k nn ad x : List Int} : (boxTag k nn ad x).length = 16 := le_len
theorem box_len {k nn ad t : List Int} : (box k nn ad t).length = t.length + 16 := by simp [box, apply_len, boxTag_len]
theorem p8_len {v : Int} : (p8 v).length = 8 := rfl
theorem p4_bytes {v : Int} : bytes (p4 v) := by
  simp only [bytes, p4, List.forall_mem_cons]
  refine ⟨by omega, by omega, by omega, by omega, fun _ h => by cases h⟩
theorem p8_bytes {v : Int} : bytes (p8 v) := by
  simp only [bytes, p8, List.forall_mem_cons]
  refine ⟨by omega, by omega, by omega, by omega, by omega, by omega, by omega, by omega, fun _ h => by cases h⟩
theorem bytes_app {a b : List Int} (h : bytes a) (h' : bytes b) : bytes (a ++ b) := by
  intro x hx
  rcases List.mem_append.1 hx with hx | hx
  · exact h x hx
  · exact h' x hx
theorem bytes_take {a : List Int} {n : Nat} (h : bytes a) : bytes (List.take n a) := fun x hx => h x (List.mem_of_mem_take hx)
theorem bytes_drop {a : List Int} {n : Nat} (h : bytes a) : bytes (List.drop n a) := fun x hx => h x (List.mem_of_mem_drop hx)
theorem bytes_zero {n : Nat} : bytes (List.replicate n 0) := fun x hx => by rw [List.eq_of_mem_replicate hx]; decide
theorem bytes_nil : bytes [] := fun x hx => by cases hx
theorem le_bytes {n : Nat} {v : Int} : bytes (le n v) := fun x hx => le_byte hx
theorem bts_bytes {v : Int} : bytes (bts v) := by rw [bts_le]; exact le_bytes
theorem bXor8_byte (a b : Int) : 0 ≤ bXor .u8 a b ∧ bXor .u8 a b < 256 := by
  unfold bXor
  show 0 ≤ (_ : Int) % 256 ∧ (_ : Int) % 256 < 256
  omega
theorem apply_bytes {k : List Int} {c : Int} {nn t : List Int} : bytes (apply k c nn t) := by
  intro x hx
  simp only [apply, List.mem_map] at hx
  obtain ⟨i, _, rfl⟩ := hx
  exact bXor8_byte _ _
theorem flat16_bytes {f : Nat → Int} : bytes (flat16 f) := by
  unfold flat16
  repeat' first | exact p4_bytes | apply bytes_app
theorem once_bytes {k nn : List Int} : bytes (once k nn) := bytes_take flat16_bytes
theorem tag_bytes {k t : List Int} : bytes (tag k t) := le_bytes
theorem boxTag_bytes {k nn ad x : List Int} : bytes (boxTag k nn ad x) := le_bytes
theorem box_bytes {k nn ad t : List Int} : bytes (box k nn ad t) := bytes_app apply_bytes boxTag_bytes
end Go.Proofs.Ytmfnldkiaodkpaa.W
namespace Go.Proofs.Ytmfnldkiaodkpaa.Vm
open Go Go.Proofs Go.Proofs.Ytmfnldkiaodkpaa
theorem boxTag_eq {k nn la lt : List Int} {oa na ot nt : Nat} (hla : oa + na ≤ la.length) (hlt : ot + nt ≤ lt.length) :
    W.tag (W.once k nn) (List.take (na + (16 - na % 16) % 16 + nt + (16 - nt % 16) % 16 + 8 + 8) (List.take na (List.drop oa la) ++ List.take ((16 - na % 16) % 16) (List.replicate ((16 - na % 16) % 16) 0) ++ List.take nt (List.drop ot lt) ++ List.take ((16 - nt % 16) % 16) (List.replicate ((16 - nt % 16) % 16) 0) ++ List.take 8 (W.p8 ↑na) ++ List.take 8 (W.p8 ↑nt))) =
    W.boxTag k nn (List.take na (List.drop oa la)) (List.take nt (List.drop ot lt)) := by
  have e1 : List.take ((16 - na % 16) % 16) (List.replicate ((16 - na % 16) % 16) (0 : Int)) = W.zs na := by rw [List.take_replicate, Nat.min_self]; rfl
  have e2 : List.take ((16 - nt % 16) % 16) (List.replicate ((16 - nt % 16) % 16) (0 : Int)) = W.zs nt := by rw [List.take_replicate, Nat.min_self]; rfl
  have e3 : ∀ v, List.take 8 (W.p8 v) = W.p8 v := fun v => rfl
  rw [W.boxTag, W.boxed, seg_len hla, seg_len hlt, e1, e2, e3, e3]
  congr 1
  refine List.take_of_length_le ?_
  simp only [List.length_append, seg_len hla, seg_len hlt, W.zs, List.length_replicate, W.p8_len]
  omega
theorem box_eq {k nn lt A : List Int} {ot nt : Nat} (hlt : ot + nt ≤ lt.length) :
    List.take nt (W.apply k 1 nn (List.take nt (List.drop ot lt))) ++ List.take 16 (W.boxTag k nn A (List.take nt (W.apply k 1 nn (List.take nt (List.drop ot lt))))) = W.box k nn A (List.take nt (List.drop ot lt)) := by
  have e : List.take nt (W.apply k 1 nn (List.take nt (List.drop ot lt))) = W.apply k 1 nn (List.take nt (List.drop ot lt)) := List.take_of_length_le (by rw [W.apply_len, seg_len hlt]; exact Nat.le_refl _)
  rw [e, W.box]
  congr 1
theorem apply_apply {k nn t : List Int} {c : Int} (ht : W.bytes t) : W.apply k c nn (W.apply k c nn t) = t := by
  refine getD_ext (by rw [W.apply_len, W.apply_len]) fun i hi => ?_
  rw [W.apply_len, W.apply_len] at hi
  rw [W.apply_getD (by rw [W.apply_len]; exact hi), W.apply_getD hi]
  have hx : 0 ≤ t.getD i 0 ∧ t.getD i 0 < 256 := byte_get ht i
  have hy : 0 ≤ (W.block k ((c + (i / 64 : Nat)) % 4294967296) nn).getD (i % 64) 0 ∧ (W.block k ((c + (i / 64 : Nat)) % 4294967296) nn).getD (i % 64) 0 < 256 := byte_get W.flat16_bytes (i % 64)
  generalize (W.block k ((c + (i / 64 : Nat)) % 4294967296) nn).getD (i % 64) 0 = y at hy
  generalize t.getD i 0 = x at hx
  have h1 := bXor8 hx.1 hx.2 hy.1 hy.2
  have hz := W.bXor8_byte x y
  rw [bXor8 hz.1 hz.2 hy.1 hy.2, h1, Int.toNat_natCast, Nat.xor_assoc, Nat.xor_self, Nat.xor_zero]
  omega
end Go.Proofs.Ytmfnldkiaodkpaa.Vm

namespace Go.Proofs.Ytmfnldkiaodkpaa.Vm
open Go Go.Proofs Go.Proofs.Ytmfnldkiaodkpaa
set_option maxRecDepth 100000
theorem apply_ok (k nn l : List Int) (c : Int) (o n : Nat)
    (hk : k.length = 32)
    (hn : nn.length = 12)
    (hc : 0 ≤ c ∧ c < 4294967296)
    (hl : o + n ≤ l.length)
    (hb : n ≤ 4294967296) :
    Contract0 Try.prog 91 [(.aggi .u8 k), (.c (.int .u32 c)), (.aggi .u8 nn), (.c (.sl 1 0 o n 1))] [(1, (.one ⟨false, false, (.ints .u8 l)⟩))] 2 (.c (.sl 2 0 0 n 1)) [] [(2, (.one ⟨true, false, (.ints .u8 (W.apply k c nn (List.take n (List.drop o l))))⟩))] :=
  Contract0.renum (Contract0.of_frun (res := (.c (.sl 82 0 0 n 1))) (up := [(82, (.one ⟨true, false, (.ints .u8 (W.apply k c nn (List.take n (List.drop o l))))⟩))]) (kill := []) (n0 := 2) (m := [(1, (.one ⟨false, false, (.ints .u8 l)⟩))]) (args := [(.aggi .u8 k), (.c (.int .u32 c)), (.aggi .u8 nn), (.c (.sl 1 0 o n 1))]) (fn := Try.f91) (c := bodyOf Try.f91) (fuel := 300) (k := kOf Try.prog Try.f91) (outs := [82]) (hs := [(5, ⟨.sum ⟨[4, 6, 8, 1, 3, 9], [1, 2, 18, 50], [], 82⟩ (.exit 0) (LAI k nn l n ((c + (↑((n + 63) / 64) : Int)) % 4294967296) (o + n) 0 n (W.apply k c nn (List.take n (List.drop o l)))), none⟩)])
    (cs := [CodeOk Try.prog 33 82 (kAt (kOf Try.prog Try.f91) [true, true, false, false]) (LA0 k nn l c o n) (.exit 0) (LAI k nn l n ((c + (↑((n + 63) / 64) : Int)) % 4294967296) (o + n) 0 n (W.apply k c nn (List.take n (List.drop o l))))])
    mixed Try.func91 (by kernel_rfl) (by kernel_rfl) (by kernel_rfl) (by kernel_rfl) (by kernel_rfl) ⟨(apply_loop k nn l c o n (by omega) (by omega) (by omega) (by omega) (by omega)), trivial⟩) [.b 1 1 true] [] [(82, 2)] [] (by kernel_rfl) (by kernel_rfl) (by kernel_rfl) (by kernel_rfl) (by kernel_rfl)
theorem nonce_ok (n : Int)
    (hn : 0 ≤ n ∧ n < 18446744073709551616) :
    PureF Try.prog 74 [(.c (.int .u64 n))] (.aggi .u8 (W.nonce n)) :=
  Contract0.told (res := (.aggi .u8 [0, 0, 0, 0, (n % 256), (n / 256 % 256), (n / 65536 % 256), (n / 16777216 % 256), (n / 4294967296 % 256), (n / 1099511627776 % 256), (n / 281474976710656 % 256), (n / 72057594037927936 % 256)])) (up := []) (res' := (.aggi .u8 (W.nonce n))) (up' := []) (by kernel_rfl) (by rfl) (Contract0.of_frun (res := (.aggi .u8 [0, 0, 0, 0, (n % 256), (n / 256 % 256), (n / 65536 % 256), (n / 16777216 % 256), (n / 4294967296 % 256), (n / 1099511627776 % 256), (n / 281474976710656 % 256), (n / 72057594037927936 % 256)])) (up := []) (kill := []) (n0 := 1) (m := []) (args := [(.c (.int .u64 n))]) (fn := Try.f74) (c := bodyOf Try.f74) (fuel := 300) (k := kOf Try.prog Try.f74) (outs := []) (hs := [(4, ⟨.call [] (.c (.sl 65 0 0 8 1)) [] [(65, (.one ⟨true, true, (.ints .u8 (W.p8 n))⟩))], none⟩)])
    (cs := [Contract Try.prog 58 [(.c (.int .u64 n))] [] 65 (.c (.sl 65 0 0 8 1)) [] [(65, (.one ⟨true, true, (.ints .u8 (W.p8 n))⟩))]])
    mixed Try.func74 (by kernel_rfl) (by kernel_rfl) (by kernel_rfl) (by kernel_rfl) (by kernel_rfl) ⟨Contract0.in1 (Put64 n (by omega)) [] [none] [(1, 65)] [] (by kernel_rfl), trivial⟩)
theorem fill_ok (l : List Int) (o n : Nat)
    (hb : n ≤ 4294967296) :
    Contract0 Try.prog 102 [(.c (.sl 1 0 o n 1))] [(1, (.one ⟨false, false, (.ints .u8 l)⟩))] 2 (.c (.sl 2 0 0 ((16 - n % 16) % 16) 1)) [] [(2, (.one ⟨true, true, (.ints .u8 (List.replicate ((16 - n % 16) % 16) 0))⟩))] :=
  Contract0.renum (Contract0.of_frun (res := (.c (.sl 98 0 0 ((16 - n % 16) % 16) 1))) (up := [(98, (.one ⟨true, true, (.ints .u8 (List.replicate ((16 - n % 16) % 16) 0))⟩))]) (kill := []) (n0 := 2) (m := [(1, (.one ⟨false, false, (.ints .u8 l)⟩))]) (args := [(.c (.sl 1 0 o n 1))]) (fn := Try.f102) (c := bodyOf Try.f102) (fuel := 300) (k := kOf Try.prog Try.f102) (outs := [98]) (hs := [(4, ⟨.auto, some (.c (.int .i64 (↑(16 - n % 16))))⟩), (6, ⟨.ask, none⟩)])
    (cs := [((0 : Int) ≤ (↑(((16 : Nat) - n % (16 : Nat)) % (16 : Nat)) : Int) ∧ (↑(((16 : Nat) - n % (16 : Nat)) % (16 : Nat)) : Int) ≤ (↑(((16 : Nat) - n % (16 : Nat)) % (16 : Nat)) : Int) ∧ (↑(((16 : Nat) - n % (16 : Nat)) % (16 : Nat)) : Int) ≤ (4294967296 : Int) ∧ (1 : Nat) * (((16 : Nat) - n % (16 : Nat)) % (16 : Nat)) ≤ (4398046511104 : Nat)),
      EI .i64 (IntKind.wrap IntKind.i64 (16 - (↑(n % 16) : Int))) ((↑(16 - n % 16) : Int))])
    mixed Try.func102 (by kernel_rfl) (by kernel_rfl) (by kernel_rfl) (by kernel_rfl) (by kernel_rfl) ⟨(by omega), .mk (by simp only [addO_eq, mulE_eq, mulE_one, Int.toNat_natCast, IntKind.wrap_i64, mmin, mmax]; omega), trivial⟩) [.b 1 1 true] [] [(98, 2)] [] (by kernel_rfl) (by kernel_rfl) (by kernel_rfl) (by kernel_rfl) (by kernel_rfl)
theorem atag (k nn la lt : List Int) (oa na ot nt : Nat)
    (hk : k.length = 32)
    (hn : nn.length = 12)
    (hla : oa + na ≤ la.length)
    (hlt : ot + nt ≤ lt.length)
    (ha : na ≤ 1073741824)
    (ht : nt ≤ 1073741824)
    (hba : W.bytes la)
    (hbt : W.bytes lt) :
    Contract0 Try.prog 92 [(.aggi .u8 k), (.aggi .u8 nn), (.c (.sl 1 0 oa na 1)), (.c (.sl 2 0 ot nt 1))] [(1, (.one ⟨false, false, (.ints .u8 la)⟩)), (2, (.one ⟨false, false, (.ints .u8 lt)⟩))] 3 (.c (.sl 3 0 0 16 1)) [] [(3, (.one ⟨true, true, (.ints .u8 (W.boxTag k nn (List.take na (List.drop oa la)) (List.take nt (List.drop ot lt))))⟩))] :=
  Contract0.told (res := (.c (.sl 3 0 0 16 1))) (up := [(3, (.one ⟨true, true, (.ints .u8 (W.tag (W.once k nn) (List.take (na + (16 - na % 16) % 16 + nt + (16 - nt % 16) % 16 + 8 + 8) (List.take na (List.drop oa la) ++ List.take ((16 - na % 16) % 16) (List.replicate ((16 - na % 16) % 16) 0) ++ List.take nt (List.drop ot lt) ++ List.take ((16 - nt % 16) % 16) (List.replicate ((16 - nt % 16) % 16) 0) ++ List.take 8 (W.p8 ↑na) ++ List.take 8 (W.p8 ↑nt)))))⟩))]) (res' := (.c (.sl 3 0 0 16 1))) (up' := [(3, (.one ⟨true, true, (.ints .u8 (W.boxTag k nn (List.take na (List.drop oa la)) (List.take nt (List.drop ot lt))))⟩))]) (by rfl) (by rw [boxTag_eq hla hlt]) (Contract0.renum (Contract0.of_frun (res := (.c (.sl 483 0 0 16 1))) (up := [(483, (.one ⟨true, true, (.ints .u8 (W.tag (W.once k nn) (List.take (na + (16 - na % 16) % 16 + nt + (16 - nt % 16) % 16 + 8 + 8) (List.take na (List.drop oa la) ++ List.take ((16 - na % 16) % 16) (List.replicate ((16 - na % 16) % 16) 0) ++ List.take nt (List.drop ot lt) ++ List.take ((16 - nt % 16) % 16) (List.replicate ((16 - nt % 16) % 16) 0) ++ List.take 8 (W.p8 ↑na) ++ List.take 8 (W.p8 ↑nt)))))⟩))]) (kill := []) (n0 := 3) (m := [(1, (.one ⟨false, false, (.ints .u8 la)⟩)), (2, (.one ⟨false, false, (.ints .u8 lt)⟩))]) (args := [(.aggi .u8 k), (.aggi .u8 nn), (.c (.sl 1 0 oa na 1)), (.c (.sl 2 0 ot nt 1))]) (fn := Try.f92) (c := bodyOf Try.f92) (fuel := 300) (k := kOf Try.prog Try.f92) (outs := [483]) (hs := [(4, ⟨.ask, some (.aggi .u8 k)⟩), (5, ⟨.ask, some (.aggi .u8 nn)⟩), (6, ⟨.call [] (.aggi .u8 (W.block k 0 nn)) [] [], none⟩), (15, ⟨.call [1] (.c (.sl 243 0 0 ((16 - na % 16) % 16) 1)) [] [(243, (.one ⟨true, true, (.ints .u8 (List.replicate ((16 - na % 16) % 16) 0))⟩))], none⟩), (18, ⟨.call [2] (.c (.sl 291 0 0 ((16 - nt % 16) % 16) 1)) [] [(291, (.one ⟨true, true, (.ints .u8 (List.replicate ((16 - nt % 16) % 16) 0))⟩))], none⟩), (21, ⟨.auto, some (.c (.int .u64 (↑na)))⟩), (22, ⟨.call [] (.c (.sl 355 0 0 8 1)) [] [(355, (.one ⟨true, true, (.ints .u8 (W.p8 ↑na))⟩))], none⟩), (25, ⟨.auto, some (.c (.int .u64 (↑nt)))⟩), (26, ⟨.call [] (.c (.sl 419 0 0 8 1)) [] [(419, (.one ⟨true, true, (.ints .u8 (W.p8 ↑nt))⟩))], none⟩), (28, ⟨.call [435, 1, 243, 2, 291, 355, 419] (.c (.sl 451 0 0 (na + (16 - na % 16) % 16 + nt + (16 - nt % 16) % 16 + 8 + 8) 1)) [] [(451, (.one ⟨true, false, (.ints .u8 (List.take na (List.drop oa la) ++ List.take ((16 - na % 16) % 16) (List.replicate ((16 - na % 16) % 16) 0) ++ List.take nt (List.drop ot lt) ++ List.take ((16 - nt % 16) % 16) (List.replicate ((16 - nt % 16) % 16) 0) ++ List.take 8 (W.p8 ↑na) ++ List.take 8 (W.p8 ↑nt)))⟩))], none⟩), (29, ⟨.call [451] (.aggi .u8 (W.tag (W.once k nn) (List.take (na + (16 - na % 16) % 16 + nt + (16 - nt % 16) % 16 + 8 + 8) (List.take na (List.drop oa la) ++ List.take ((16 - na % 16) % 16) (List.replicate ((16 - na % 16) % 16) 0) ++ List.take nt (List.drop ot lt) ++ List.take ((16 - nt % 16) % 16) (List.replicate ((16 - nt % 16) % 16) 0) ++ List.take 8 (W.p8 ↑na) ++ List.take 8 (W.p8 ↑nt))))) [] [], none⟩)])
    (cs := [Contract Try.prog 18 [(.aggi .u8 (W.once k nn)), (.c (.sl 451 0 0 (na + (16 - na % 16) % 16 + nt + (16 - nt % 16) % 16 + 8 + 8) 1))] [(451, (.one ⟨true, false, (.ints .u8 (List.take na (List.drop oa la) ++ List.take ((16 - na % 16) % 16) (List.replicate ((16 - na % 16) % 16) 0) ++ List.take nt (List.drop ot lt) ++ List.take ((16 - nt % 16) % 16) (List.replicate ((16 - nt % 16) % 16) 0) ++ List.take 8 (W.p8 ↑na) ++ List.take 8 (W.p8 ↑nt)))⟩))] 467 (.aggi .u8 (W.tag (W.once k nn) (List.take (na + (16 - na % 16) % 16 + nt + (16 - nt % 16) % 16 + 8 + 8) (List.take na (List.drop oa la) ++ List.take ((16 - na % 16) % 16) (List.replicate ((16 - na % 16) % 16) 0) ++ List.take nt (List.drop ot lt) ++ List.take ((16 - nt % 16) % 16) (List.replicate ((16 - nt % 16) % 16) 0) ++ List.take 8 (W.p8 ↑na) ++ List.take 8 (W.p8 ↑nt))))) [] [],
      Contract Try.prog 57 [(.c (.sl 435 0 0 6 1))] [(435, (.one ⟨true, true, (.cells [(.sl 1 0 oa na 1), (.sl 243 0 0 ((16 - na % 16) % 16) 1), (.sl 2 0 ot nt 1), (.sl 291 0 0 ((16 - nt % 16) % 16) 1), (.sl 355 0 0 8 1), (.sl 419 0 0 8 1)])⟩)), (1, (.one ⟨false, false, (.ints .u8 la)⟩)), (243, (.one ⟨true, true, (.ints .u8 (List.replicate ((16 - na % 16) % 16) 0))⟩)), (2, (.one ⟨false, false, (.ints .u8 lt)⟩)), (291, (.one ⟨true, true, (.ints .u8 (List.replicate ((16 - nt % 16) % 16) 0))⟩)), (355, (.one ⟨true, true, (.ints .u8 (W.p8 ↑na))⟩)), (419, (.one ⟨true, true, (.ints .u8 (W.p8 ↑nt))⟩))] 451 (.c (.sl 451 0 0 (na + (16 - na % 16) % 16 + nt + (16 - nt % 16) % 16 + 8 + 8) 1)) [] [(451, (.one ⟨true, false, (.ints .u8 (List.take na (List.drop oa la) ++ List.take ((16 - na % 16) % 16) (List.replicate ((16 - na % 16) % 16) 0) ++ List.take nt (List.drop ot lt) ++ List.take ((16 - nt % 16) % 16) (List.replicate ((16 - nt % 16) % 16) 0) ++ List.take 8 (W.p8 ↑na) ++ List.take 8 (W.p8 ↑nt)))⟩))],
      Contract Try.prog 58 [(.c (.int .u64 (↑nt)))] [] 419 (.c (.sl 419 0 0 8 1)) [] [(419, (.one ⟨true, true, (.ints .u8 (W.p8 ↑nt))⟩))],
      EI .u64 ((↑nt : Int) % 18446744073709551616) ((↑nt : Int)),
      Contract Try.prog 58 [(.c (.int .u64 (↑na)))] [] 355 (.c (.sl 355 0 0 8 1)) [] [(355, (.one ⟨true, true, (.ints .u8 (W.p8 ↑na))⟩))],
      EI .u64 ((↑na : Int) % 18446744073709551616) ((↑na : Int)),
      Contract Try.prog 102 [(.c (.sl 2 0 ot nt 1))] [(2, (.one ⟨false, false, (.ints .u8 lt)⟩))] 291 (.c (.sl 291 0 0 ((16 - nt % 16) % 16) 1)) [] [(291, (.one ⟨true, true, (.ints .u8 (List.replicate ((16 - nt % 16) % 16) 0))⟩))],
      Contract Try.prog 102 [(.c (.sl 1 0 oa na 1))] [(1, (.one ⟨false, false, (.ints .u8 la)⟩))] 243 (.c (.sl 243 0 0 ((16 - na % 16) % 16) 1)) [] [(243, (.one ⟨true, true, (.ints .u8 (List.replicate ((16 - na % 16) % 16) 0))⟩))],
      Contract Try.prog 100 [(.aggi .u8 k), (.c (.int .u32 0)), (.aggi .u8 nn)] [] 99 (.aggi .u8 (W.block k 0 nn)) [] [],
      ((.aggi .u8 (List.take 12 nn)) : V) = (.aggi .u8 nn),
      ((12 : Nat) ≤ List.length nn),
      ((.aggi .u8 (List.take 32 k)) : V) = (.aggi .u8 k),
      ((32 : Nat) ≤ List.length k)])
    mixed Try.func92 (by kernel_rfl) (by kernel_rfl) (by kernel_rfl) (by kernel_rfl) (by kernel_rfl) ⟨Contract0.in1 (tag_ok (W.once k nn) (List.take na (List.drop oa la) ++ List.take ((16 - na % 16) % 16) (List.replicate ((16 - na % 16) % 16) 0) ++ List.take nt (List.drop ot lt) ++ List.take ((16 - nt % 16) % 16) (List.replicate ((16 - nt % 16) % 16) 0) ++ List.take 8 (W.p8 (↑na : Int)) ++ List.take 8 (W.p8 (↑nt : Int))) 0 (na + (16 - na % 16) % 16 + nt + (16 - nt % 16) % 16 + 8 + 8) (by simp only [and_true, List.length_set, List.length_append, List.length_replicate, List.length_take, List.length_drop, List.length_map, List.length_cons, List.length_nil, List.length_zipWith, splice_len1, W.le_len, W.bts_len, Int.toNat_natCast, addO_eq, mulE_eq, mulE_one, W.once_len, W.block_len, W.p8_len, W.apply_len, W.boxTag_len, W.box_len, W.nonce_len]) (by repeat' with_reducible first | assumption | exact W.p8_bytes | exact W.bytes_zero | exact W.apply_bytes | exact W.once_bytes | exact W.tag_bytes | exact W.boxTag_bytes | exact W.box_bytes | exact W.bytes_nil | exact W.bts_bytes | exact W.le_bytes | apply W.bytes_app | apply W.bytes_take | apply W.bytes_drop) (by repeat' with_reducible first | assumption | exact W.p8_bytes | exact W.bytes_zero | exact W.apply_bytes | exact W.once_bytes | exact W.tag_bytes | exact W.boxTag_bytes | exact W.box_bytes | exact W.bytes_nil | exact W.bts_bytes | exact W.le_bytes | apply W.bytes_app | apply W.bytes_take | apply W.bytes_drop) (by simp only [and_true, List.length_set, List.length_append, List.length_replicate, List.length_take, List.length_drop, List.length_map, List.length_cons, List.length_nil, List.length_zipWith, splice_len1, W.le_len, W.bts_len, Int.toNat_natCast, addO_eq, mulE_eq, mulE_one, W.once_len, W.block_len, W.p8_len, W.apply_len, W.boxTag_len, W.box_len, W.nonce_len]; omega)) [.b 451 1 true []] [none, none] [] [] (by kernel_rfl), Contract0.in1 (join6 la (List.replicate ((16 - na % 16) % 16) 0) lt (List.replicate ((16 - nt % 16) % 16) 0) (W.p8 (↑na : Int)) (W.p8 (↑nt : Int)) oa na 0 ((16 - na % 16) % 16) ot nt 0 ((16 - nt % 16) % 16) 0 8 0 8 (by omega) (by simp only [and_true, List.length_set, List.length_append, List.length_replicate, List.length_take, List.length_drop, List.length_map, List.length_cons, List.length_nil, List.length_zipWith, splice_len1, W.le_len, W.bts_len, Int.toNat_natCast, addO_eq, mulE_eq, mulE_one, W.once_len, W.block_len, W.p8_len, W.apply_len, W.boxTag_len, W.box_len, W.nonce_len]; omega) (by omega) (by simp only [and_true, List.length_set, List.length_append, List.length_replicate, List.length_take, List.length_drop, List.length_map, List.length_cons, List.length_nil, List.length_zipWith, splice_len1, W.le_len, W.bts_len, Int.toNat_natCast, addO_eq, mulE_eq, mulE_one, W.once_len, W.block_len, W.p8_len, W.apply_len, W.boxTag_len, W.box_len, W.nonce_len]; omega) (by simp only [and_true, List.length_set, List.length_append, List.length_replicate, List.length_take, List.length_drop, List.length_map, List.length_cons, List.length_nil, List.length_zipWith, splice_len1, W.le_len, W.bts_len, Int.toNat_natCast, addO_eq, mulE_eq, mulE_one, W.once_len, W.block_len, W.p8_len, W.apply_len, W.boxTag_len, W.box_len, W.nonce_len]; omega) (by simp only [and_true, List.length_set, List.length_append, List.length_replicate, List.length_take, List.length_drop, List.length_map, List.length_cons, List.length_nil, List.length_zipWith, splice_len1, W.le_len, W.bts_len, Int.toNat_natCast, addO_eq, mulE_eq, mulE_one, W.once_len, W.block_len, W.p8_len, W.apply_len, W.boxTag_len, W.box_len, W.nonce_len]; omega) (by omega)) [.b 435 1 true [], .b 1 2 true [], .b 243 3 true [], .b 2 4 true [], .b 291 5 true [], .b 355 6 true [], .b 419 7 true []] [none] [(8, 451)] [] (by kernel_rfl), Contract0.in1 (Put64 ((↑nt : Int)) (by omega)) [] [none] [(1, 419)] [] (by kernel_rfl), .mk (by omega), Contract0.in1 (Put64 ((↑na : Int)) (by omega)) [] [none] [(1, 355)] [] (by kernel_rfl), .mk (by omega), Contract0.in1 (fill_ok lt ot nt (by omega)) [.b 2 1 true []] [none] [(2, 291)] [] (by kernel_rfl), Contract0.in1 (fill_ok la oa na (by omega)) [.b 1 1 true []] [none] [(2, 243)] [] (by kernel_rfl), Contract0.in1 (block_ok k nn 0 (by omega) (by omega)) [] [none, none, none] [] [] (by kernel_rfl), EV.aggi (List.take_of_length_le (by omega)), (by omega), EV.aggi (List.take_of_length_le (by omega)), (by omega), trivial⟩) [.b 1 1 true, .b 2 2 true] [] [(483, 3)] [] (by kernel_rfl) (by kernel_rfl) (by kernel_rfl) (by kernel_rfl) (by kernel_rfl))
theorem seal_ok (k nn la lt : List Int) (oa na ot nt : Nat)
    (hk : k.length = 32)
    (hn : nn.length = 12)
    (hla : oa + na ≤ la.length)
    (hlt : ot + nt ≤ lt.length)
    (ha : na ≤ 1073741824)
    (ht : nt ≤ 1073741824)
    (hba : W.bytes la)
    (hbt : W.bytes lt) :
    Contract0 Try.prog 73 [(.aggi .u8 k), (.aggi .u8 nn), (.c (.sl 1 0 oa na 1)), (.c (.sl 2 0 ot nt 1))] [(1, (.one ⟨false, false, (.ints .u8 la)⟩)), (2, (.one ⟨false, false, (.ints .u8 lt)⟩))] 3 (.c (.sl 3 0 0 (nt + 16) 1)) [] [(3, (.one ⟨true, false, (.ints .u8 (W.box k nn (List.take na (List.drop oa la)) (List.take nt (List.drop ot lt))))⟩))] :=
  Contract0.told (res := (.c (.sl 3 0 0 (nt + 16) 1))) (up := [(3, (.one ⟨true, false, (.ints .u8 (List.take nt (W.apply k 1 nn (List.take nt (List.drop ot lt))) ++ List.take 16 (W.boxTag k nn (List.take na (List.drop oa la)) (List.take nt (W.apply k 1 nn (List.take nt (List.drop ot lt)))))))⟩))]) (res' := (.c (.sl 3 0 0 (nt + 16) 1))) (up' := [(3, (.one ⟨true, false, (.ints .u8 (W.box k nn (List.take na (List.drop oa la)) (List.take nt (List.drop ot lt))))⟩))]) (by rfl) (by rw [box_eq hlt]) (Contract0.renum (Contract0.of_frun (res := (.c (.sl 243 0 0 (nt + 16) 1))) (up := [(243, (.one ⟨true, false, (.ints .u8 (List.take nt (W.apply k 1 nn (List.take nt (List.drop ot lt))) ++ List.take 16 (W.boxTag k nn (List.take na (List.drop oa la)) (List.take nt (W.apply k 1 nn (List.take nt (List.drop ot lt)))))))⟩))]) (kill := []) (n0 := 3) (m := [(1, (.one ⟨false, false, (.ints .u8 la)⟩)), (2, (.one ⟨false, false, (.ints .u8 lt)⟩))]) (args := [(.aggi .u8 k), (.aggi .u8 nn), (.c (.sl 1 0 oa na 1)), (.c (.sl 2 0 ot nt 1))]) (fn := Try.f73) (c := bodyOf Try.f73) (fuel := 300) (k := kOf Try.prog Try.f73) (outs := [243]) (hs := [(3, ⟨.ask, some (.aggi .u8 k)⟩), (4, ⟨.ask, some (.aggi .u8 nn)⟩), (6, ⟨.call [2] (.c (.sl 99 0 0 nt 1)) [] [(99, (.one ⟨true, false, (.ints .u8 (W.apply k 1 nn (List.take nt (List.drop ot lt))))⟩))], none⟩), (9, ⟨.ask, some (.aggi .u8 k)⟩), (10, ⟨.ask, some (.aggi .u8 nn)⟩), (13, ⟨.call [1, 99] (.c (.sl 211 0 0 16 1)) [] [(211, (.one ⟨true, true, (.ints .u8 (W.boxTag k nn (List.take na (List.drop oa la)) (List.take nt (W.apply k 1 nn (List.take nt (List.drop ot lt))))))⟩))], none⟩), (15, ⟨.call [227, 99, 211] (.c (.sl 243 0 0 (nt + 16) 1)) [] [(243, (.one ⟨true, false, (.ints .u8 (List.take nt (W.apply k 1 nn (List.take nt (List.drop ot lt))) ++ List.take 16 (W.boxTag k nn (List.take na (List.drop oa la)) (List.take nt (W.apply k 1 nn (List.take nt (List.drop ot lt)))))))⟩))], none⟩)])
    (cs := [Contract Try.prog 57 [(.c (.sl 227 0 0 2 1))] [(227, (.one ⟨true, true, (.cells [(.sl 99 0 0 nt 1), (.sl 211 0 0 16 1)])⟩)), (99, (.one ⟨true, false, (.ints .u8 (W.apply k 1 nn (List.take nt (List.drop ot lt))))⟩)), (211, (.one ⟨true, true, (.ints .u8 (W.boxTag k nn (List.take na (List.drop oa la)) (List.take nt (W.apply k 1 nn (List.take nt (List.drop ot lt))))))⟩))] 243 (.c (.sl 243 0 0 (nt + 16) 1)) [] [(243, (.one ⟨true, false, (.ints .u8 (List.take nt (W.apply k 1 nn (List.take nt (List.drop ot lt))) ++ List.take 16 (W.boxTag k nn (List.take na (List.drop oa la)) (List.take nt (W.apply k 1 nn (List.take nt (List.drop ot lt)))))))⟩))],
      Contract Try.prog 92 [(.aggi .u8 k), (.aggi .u8 nn), (.c (.sl 1 0 oa na 1)), (.c (.sl 99 0 0 nt 1))] [(1, (.one ⟨false, false, (.ints .u8 la)⟩)), (99, (.one ⟨true, false, (.ints .u8 (W.apply k 1 nn (List.take nt (List.drop ot lt))))⟩))] 211 (.c (.sl 211 0 0 16 1)) [] [(211, (.one ⟨true, true, (.ints .u8 (W.boxTag k nn (List.take na (List.drop oa la)) (List.take nt (W.apply k 1 nn (List.take nt (List.drop ot lt))))))⟩))],
      ((.aggi .u8 (List.take 12 nn)) : V) = (.aggi .u8 nn),
      ((12 : Nat) ≤ List.length nn),
      ((.aggi .u8 (List.take 32 k)) : V) = (.aggi .u8 k),
      ((32 : Nat) ≤ List.length k),
      Contract Try.prog 91 [(.aggi .u8 k), (.c (.int .u32 1)), (.aggi .u8 nn), (.c (.sl 2 0 ot nt 1))] [(2, (.one ⟨false, false, (.ints .u8 lt)⟩))] 99 (.c (.sl 99 0 0 nt 1)) [] [(99, (.one ⟨true, false, (.ints .u8 (W.apply k 1 nn (List.take nt (List.drop ot lt))))⟩))],
      ((.aggi .u8 (List.take 12 nn)) : V) = (.aggi .u8 nn),
      ((12 : Nat) ≤ List.length nn),
      ((.aggi .u8 (List.take 32 k)) : V) = (.aggi .u8 k),
      ((32 : Nat) ≤ List.length k)])
    mixed Try.func73 (by kernel_rfl) (by kernel_rfl) (by kernel_rfl) (by kernel_rfl) (by kernel_rfl) ⟨Contract0.in1 (join2 (W.apply k 1 nn (List.take nt (List.drop ot lt))) (W.boxTag k nn (List.take na (List.drop oa la)) (List.take nt (W.apply k 1 nn (List.take nt (List.drop ot lt))))) 0 nt 0 16 (by simp only [and_true, List.length_set, List.length_append, List.length_replicate, List.length_take, List.length_drop, List.length_map, List.length_cons, List.length_nil, List.length_zipWith, splice_len1, W.le_len, W.bts_len, Int.toNat_natCast, addO_eq, mulE_eq, mulE_one, W.once_len, W.block_len, W.p8_len, W.apply_len, W.boxTag_len, W.box_len, W.nonce_len]; omega) (by simp only [and_true, List.length_set, List.length_append, List.length_replicate, List.length_take, List.length_drop, List.length_map, List.length_cons, List.length_nil, List.length_zipWith, splice_len1, W.le_len, W.bts_len, Int.toNat_natCast, addO_eq, mulE_eq, mulE_one, W.once_len, W.block_len, W.p8_len, W.apply_len, W.boxTag_len, W.box_len, W.nonce_len]; omega) (by omega)) [.b 227 1 true [], .b 99 2 true [], .b 211 3 true []] [none] [(4, 243)] [] (by kernel_rfl), Contract0.in1 (atag k nn la (W.apply k 1 nn (List.take nt (List.drop ot lt))) oa na 0 nt (by omega) (by omega) (by omega) (by simp only [and_true, List.length_set, List.length_append, List.length_replicate, List.length_take, List.length_drop, List.length_map, List.length_cons, List.length_nil, List.length_zipWith, splice_len1, W.le_len, W.bts_len, Int.toNat_natCast, addO_eq, mulE_eq, mulE_one, W.once_len, W.block_len, W.p8_len, W.apply_len, W.boxTag_len, W.box_len, W.nonce_len]; omega) (by omega) (by omega) (by omega) (by repeat' with_reducible first | assumption | exact W.p8_bytes | exact W.bytes_zero | exact W.apply_bytes | exact W.once_bytes | exact W.tag_bytes | exact W.boxTag_bytes | exact W.box_bytes | exact W.bytes_nil | exact W.bts_bytes | exact W.le_bytes | apply W.bytes_app | apply W.bytes_take | apply W.bytes_drop)) [.b 1 1 true [], .b 99 2 true []] [none, none, none, none] [(3, 211)] [] (by kernel_rfl), EV.aggi (List.take_of_length_le (by omega)), (by omega), EV.aggi (List.take_of_length_le (by omega)), (by omega), Contract0.in1 (apply_ok k nn lt 1 ot nt (by omega) (by omega) (by omega) (by omega) (by omega)) [.b 2 1 true []] [none, none, none, none] [(2, 99)] [] (by kernel_rfl), EV.aggi (List.take_of_length_le (by omega)), (by omega), EV.aggi (List.take_of_length_le (by omega)), (by omega), trivial⟩) [.b 1 1 true, .b 2 2 true] [] [(243, 3)] [] (by kernel_rfl) (by kernel_rfl) (by kernel_rfl) (by kernel_rfl) (by kernel_rfl))
theorem open_ok_ft (k nn la lt : List Int) (oa na ot nt : Nat)
    (hk : k.length = 32)
    (hn : nn.length = 12)
    (hla : oa + na ≤ la.length)
    (hlt : ot + nt ≤ lt.length)
    (ha : na ≤ 1073741824)
    (ht : nt ≤ 1073741824)
    (hba : W.bytes la)
    (hbt : W.bytes lt)
    (h0 : (¬(↑nt : Int) < (16 : Int)))
    (h1 : (List.take (16 : Nat) (List.drop (ot + (nt - (16 : Nat))) lt) = List.take (16 : Nat) (W.boxTag k nn (List.take na (List.drop oa la)) (List.take (nt - (16 : Nat)) (List.drop ot lt))))) :
    Contract0 Try.prog 76 [(.aggi .u8 k), (.aggi .u8 nn), (.c (.sl 1 0 oa na 1)), (.c (.sl 2 0 ot nt 1))] [(1, (.one ⟨false, false, (.ints .u8 la)⟩)), (2, (.one ⟨false, false, (.ints .u8 lt)⟩))] 3 (.tup [(.c (.sl 3 0 0 (nt - 16) 1)), (.c (.int .i64 0))]) [] [(3, (.one ⟨true, false, (.ints .u8 (W.apply k 1 nn (List.take (nt - 16) (List.drop ot lt))))⟩))] :=
  Contract0.renum (Contract0.of_frun (res := (.tup [(.c (.sl 483 0 0 (nt - 16) 1)), (.c (.int .i64 0))])) (up := [(483, (.one ⟨true, false, (.ints .u8 (W.apply k 1 nn (List.take (nt - 16) (List.drop ot lt))))⟩))]) (kill := []) (n0 := 3) (m := [(1, (.one ⟨false, false, (.ints .u8 la)⟩)), (2, (.one ⟨false, false, (.ints .u8 lt)⟩))]) (args := [(.aggi .u8 k), (.aggi .u8 nn), (.c (.sl 1 0 oa na 1)), (.c (.sl 2 0 ot nt 1))]) (fn := Try.f76) (c := bodyOf Try.f76) (fuel := 300) (k := kOf Try.prog Try.f76) (outs := [483]) (hs := [(6, ⟨.auto, some (.c (.bool (false)))⟩), (11, ⟨.auto, some (.c (.int .i64 (↑(nt - 16))))⟩), (12, ⟨.ask, some (.c (.sl 2 0 ot (nt - 16) 1))⟩), (16, ⟨.auto, some (.c (.int .i64 (↑(nt - 16))))⟩), (17, ⟨.ask, some (.c (.sl 2 0 (ot + (nt - 16)) 16 1))⟩), (21, ⟨.ask, some (.aggi .u8 k)⟩), (22, ⟨.ask, some (.aggi .u8 nn)⟩), (25, ⟨.call [1, 2] (.c (.sl 387 0 0 16 1)) [] [(387, (.one ⟨true, true, (.ints .u8 (W.boxTag k nn (List.take na (List.drop oa la)) (List.take (nt - 16) (List.drop ot lt))))⟩))], none⟩), (26, ⟨.call [2, 387] (.c (.bool (decide (List.take 16 (List.drop (ot + (nt - 16)) lt) = List.take 16 (W.boxTag k nn (List.take na (List.drop oa la)) (List.take (nt - 16) (List.drop ot lt))))))) [] [], none⟩), (27, ⟨.auto, some (.c (.bool (false)))⟩), (29, ⟨.ask, some (.aggi .u8 k)⟩), (30, ⟨.ask, some (.aggi .u8 nn)⟩), (32, ⟨.call [2] (.c (.sl 483 0 0 (nt - 16) 1)) [] [(483, (.one ⟨true, false, (.ints .u8 (W.apply k 1 nn (List.take (nt - 16) (List.drop ot lt))))⟩))], none⟩)])
    (cs := [Contract Try.prog 91 [(.aggi .u8 k), (.c (.int .u32 1)), (.aggi .u8 nn), (.c (.sl 2 0 ot (nt - 16) 1))] [(2, (.one ⟨false, false, (.ints .u8 lt)⟩))] 483 (.c (.sl 483 0 0 (nt - 16) 1)) [] [(483, (.one ⟨true, false, (.ints .u8 (W.apply k 1 nn (List.take (nt - 16) (List.drop ot lt))))⟩))],
      ((.aggi .u8 (List.take 12 nn)) : V) = (.aggi .u8 nn),
      ((12 : Nat) ≤ List.length nn),
      ((.aggi .u8 (List.take 32 k)) : V) = (.aggi .u8 k),
      ((32 : Nat) ≤ List.length k),
      EB (!decide (List.take 16 (List.drop (ot + (nt - 16)) lt) = List.take 16 (W.boxTag k nn (List.take na (List.drop oa la)) (List.take (nt - 16) (List.drop ot lt))))) false,
      Contract Try.prog 93 [(.c (.sl 2 0 (ot + (nt - 16)) 16 1)), (.c (.sl 387 0 0 16 1))] [(2, (.one ⟨false, false, (.ints .u8 lt)⟩)), (387, (.one ⟨true, true, (.ints .u8 (W.boxTag k nn (List.take na (List.drop oa la)) (List.take (nt - 16) (List.drop ot lt))))⟩))] 403 (.c (.bool (decide (List.take 16 (List.drop (ot + (nt - 16)) lt) = List.take 16 (W.boxTag k nn (List.take na (List.drop oa la)) (List.take (nt - 16) (List.drop ot lt))))))) [] [],
      Contract Try.prog 92 [(.aggi .u8 k), (.aggi .u8 nn), (.c (.sl 1 0 oa na 1)), (.c (.sl 2 0 ot (nt - 16) 1))] [(1, (.one ⟨false, false, (.ints .u8 la)⟩)), (2, (.one ⟨false, false, (.ints .u8 lt)⟩))] 387 (.c (.sl 387 0 0 16 1)) [] [(387, (.one ⟨true, true, (.ints .u8 (W.boxTag k nn (List.take na (List.drop oa la)) (List.take (nt - 16) (List.drop ot lt))))⟩))],
      ((.aggi .u8 (List.take 12 nn)) : V) = (.aggi .u8 nn),
      ((12 : Nat) ≤ List.length nn),
      ((.aggi .u8 (List.take 32 k)) : V) = (.aggi .u8 k),
      ((32 : Nat) ≤ List.length k),
      ((.c (.sl 2 0 (addO ot (nt - 16)) (Int.toNat (↑nt - ↑(nt - 16))) 1)) : V) = (.c (.sl 2 0 (ot + (nt - 16)) 16 1)),
      ((0 : Int) ≤ (↑(nt - (16 : Nat)) : Int) ∧ (↑(nt - (16 : Nat)) : Int) ≤ (↑nt : Int) ∧ (↑nt : Int) ≤ (↑nt : Int)),
      EI .i64 (IntKind.wrap IntKind.i64 ((↑nt : Int) - 16)) ((↑(nt - 16) : Int)),
      ((.c (.sl 2 0 (addO ot 0) (Int.toNat (↑(nt - 16) - 0)) 1)) : V) = (.c (.sl 2 0 ot (nt - 16) 1)),
      ((0 : Int) ≤ (0 : Int) ∧ (0 : Int) ≤ (↑(nt - (16 : Nat)) : Int) ∧ (↑(nt - (16 : Nat)) : Int) ≤ (↑nt : Int)),
      EI .i64 (IntKind.wrap IntKind.i64 ((↑nt : Int) - 16)) ((↑(nt - 16) : Int)),
      EB (decide ((↑nt : Int) < 16)) false])
    mixed Try.func76 (by kernel_rfl) (by kernel_rfl) (by kernel_rfl) (by kernel_rfl) (by kernel_rfl) ⟨Contract0.in1 (apply_ok k nn lt 1 ot (nt - 16) (by omega) (by omega) (by omega) (by omega) (by omega)) [.b 2 1 true []] [none, none, none, none] [(2, 483)] [] (by kernel_rfl), EV.aggi (List.take_of_length_le (by omega)), (by omega), EV.aggi (List.take_of_length_le (by omega)), (by omega), .mk (not_f (decide_eq_true h1)), Contract0.in1 (same_ok lt (W.boxTag k nn (List.take na (List.drop oa la)) (List.take (nt - 16) (List.drop ot lt))) (ot + (nt - 16)) 16 0 (by omega) (by simp only [and_true, List.length_set, List.length_append, List.length_replicate, List.length_take, List.length_drop, List.length_map, List.length_cons, List.length_nil, List.length_zipWith, splice_len1, W.le_len, W.bts_len, Int.toNat_natCast, addO_eq, mulE_eq, mulE_one, W.once_len, W.block_len, W.p8_len, W.apply_len, W.boxTag_len, W.box_len, W.nonce_len]; omega) (by omega) (by omega) (by repeat' with_reducible first | assumption | exact W.p8_bytes | exact W.bytes_zero | exact W.apply_bytes | exact W.once_bytes | exact W.tag_bytes | exact W.boxTag_bytes | exact W.box_bytes | exact W.bytes_nil | exact W.bts_bytes | exact W.le_bytes | apply W.bytes_app | apply W.bytes_take | apply W.bytes_drop)) [.b 2 1 true [], .b 387 2 true []] [none, none] [] [] (by kernel_rfl), Contract0.in1 (atag k nn la lt oa na ot (nt - 16) (by omega) (by omega) (by omega) (by omega) (by omega) (by omega) (by omega) (by omega)) [.b 1 1 true [], .b 2 2 true []] [none, none, none, none] [(3, 387)] [] (by kernel_rfl), EV.aggi (List.take_of_length_le (by omega)), (by omega), EV.aggi (List.take_of_length_le (by omega)), (by omega), EV.sl (by simp only [addO_eq, mulE_eq, mulE_one, Int.toNat_natCast, IntKind.wrap_i64, mmin, mmax]) (by omega), (by omega), .mk (by simp only [addO_eq, mulE_eq, mulE_one, Int.toNat_natCast, IntKind.wrap_i64, mmin, mmax]; omega), EV.sl (by simp only [addO_eq, mulE_eq, mulE_one, Int.toNat_natCast, IntKind.wrap_i64, mmin, mmax]; omega) (by rfl), (by omega), .mk (by simp only [addO_eq, mulE_eq, mulE_one, Int.toNat_natCast, IntKind.wrap_i64, mmin, mmax]; omega), .mk (decide_eq_false h0), trivial⟩) [.b 1 1 true, .b 2 2 true] [] [(483, 3)] [] (by kernel_rfl) (by kernel_rfl) (by kernel_rfl) (by kernel_rfl) (by kernel_rfl)
end Go.Proofs.Ytmfnldkiaodkpaa.Vm
