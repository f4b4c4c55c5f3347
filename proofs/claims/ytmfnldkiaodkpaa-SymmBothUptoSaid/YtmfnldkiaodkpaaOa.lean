/- What functions of the program come to: parts of the walk (Oa). -/
import Derived.Test.YtmfnldkiaodkpaaVmc
import Derived.Laws.Strings
import Derived.Test.YtmfnldkiaodkpaaPw
import Derived.KernelRfl
import Derived.Test.YtmfnldkiaodkpaaProg
import Derived.Test.YtmfnldkiaodkpaaVmb
set_option linter.unusedSimpArgs false
set_option linter.unusedVariables false
namespace Go.Proofs.Ytmfnldkiaodkpaa.W
open Go Go.Proofs.Ytmfnldkiaodkpaa.Vm
def get4 (l : List Int) (o : Nat) : Int := bOr .u64 (bOr .u64 (bOr .u64 (bOr .u64 0 (List.getD l o 0 % 18446744073709551616)) (List.getD l (o + 1) 0 % 18446744073709551616 * 256 % 18446744073709551616)) (List.getD l (o + 2) 0 % 18446744073709551616 * 65536 % 18446744073709551616)) (List.getD l (o + 3) 0 % 18446744073709551616 * 16777216 % 18446744073709551616)
def w32 (l : List Int) (o : Nat) : Int := get4 l o % 4294967296
def p4 (v : Int) : List Int := [v % 256, v / 256 % 256, v / 65536 % 256, v / 16777216 % 256]
def p8 (v : Int) : List Int := [v % 256, v / 256 % 256, v / 65536 % 256, v / 16777216 % 256, v / 4294967296 % 256, v / 1099511627776 % 256, v / 281474976710656 % 256, v / 72057594037927936 % 256]
def xor (a b : List Int) : List Int := List.zipWith (bXor .u8) a b
def bytes (l : List Int) : Prop := ∀ x ∈ l, 0 ≤ x ∧ x < 256
def oddF (a b : List Int) : Nat → Int
  | 0 => 0
  | i + 1 => bOr .u8 (oddF a b i) (bXor .u8 (a.getD i 0) (b.getD i 0))
def qr (a b c d : Int) : Int × Int × Int × Int :=
  let x0 := bXor .u32 d ((a + b) % 4294967296)
  let x2 := bOr .u32 (x0 * 65536 % 4294967296) (x0 / 65536)
  let x4 := bXor .u32 b ((c + x2) % 4294967296)
  let x6 := bOr .u32 (x4 * 4096 % 4294967296) (x4 / 1048576)
  let x8 := ((a + b) % 4294967296 + x6) % 4294967296
  let x10 := bOr .u32 (bXor .u32 x2 x8 * 256 % 4294967296) (bXor .u32 x2 x8 / 16777216)
  let x12 := ((c + x2) % 4294967296 + x10) % 4294967296
  let x14 := bOr .u32 (bXor .u32 x6 x12 * 128 % 4294967296) (bXor .u32 x6 x12 / 33554432)
  (x8, x14, x12, x10)
def qa (a b c d : Int) : Int := (qr a b c d).1
def qb (a b c d : Int) : Int := (qr a b c d).2.1
def qc (a b c d : Int) : Int := (qr a b c d).2.2.1
def qd (a b c d : Int) : Int := (qr a b c d).2.2.2
def qrl (l : List Int) (a b c d : Nat) : List Int :=
  (((l.set a (qa (l.getD a 0) (l.getD b 0) (l.getD c 0) (l.getD d 0))).set b (qb (l.getD a 0) (l.getD b 0) (l.getD c 0) (l.getD d 0))).set c (qc (l.getD a 0) (l.getD b 0) (l.getD c 0) (l.getD d 0))).set d (qd (l.getD a 0) (l.getD b 0) (l.getD c 0) (l.getD d 0))
theorem qrl_len {l : List Int} {a b c d : Nat} : (qrl l a b c d).length = l.length := by simp [qrl]
def dround (l : List Int) : List Int :=
  qrl (qrl (qrl (qrl (qrl (qrl (qrl (qrl l 0 4 8 12) 1 5 9 13) 2 6 10 14) 3 7 11 15) 0 5 10 15) 1 6 11 12) 2 7 8 13) 3 4 9 14
theorem dround_len {l : List Int} : (dround l).length = l.length := by simp [dround, qrl_len]
def rounds (l : List Int) : Nat → List Int
  | 0 => l
  | n + 1 => dround (rounds l n)
theorem rounds_len {l : List Int} : ∀ {n : Nat}, (rounds l n).length = l.length
  | 0 => rfl
  | n + 1 => by simp [rounds, dround_len, rounds_len (n := n)]
def words (k : List Int) (c : Int) (nn : List Int) : List Int := [1634760805, 857760878, 2036477234, 1797285236, w32 k 0, w32 k 4, w32 k 8, w32 k 12, w32 k 16, w32 k 20, w32 k 24, w32 k 28, c, w32 nn 0, w32 nn 4, w32 nn 8]
def flat16 (f : Nat → Int) : List Int := p4 (f 0) ++ (p4 (f 1) ++ (p4 (f 2) ++ (p4 (f 3) ++ (p4 (f 4) ++ (p4 (f 5) ++ (p4 (f 6) ++ (p4 (f 7) ++ (p4 (f 8) ++ (p4 (f 9) ++ (p4 (f 10) ++ (p4 (f 11) ++ (p4 (f 12) ++ (p4 (f 13) ++ (p4 (f 14) ++ p4 (f 15)))))))))))))))
def block (k : List Int) (c : Int) (nn : List Int) : List Int := flat16 fun i => ((rounds (words k c nn) 10).getD i 0 + (words k c nn).getD i 0) % 4294967296
theorem block_len {k : List Int} {c : Int} {nn : List Int} : (block k c nn).length = 64 := rfl
def apply (k : List Int) (c : Int) (nn t : List Int) : List Int := (List.range t.length).map fun i => bXor .u8 (t.getD i 0) ((block k ((c + (i / 64 : Nat)) % 4294967296) nn).getD (i % 64) 0)
theorem apply_len {k : List Int} {c : Int} {nn t : List Int} : (apply k c nn t).length = t.length := by simp [apply]
theorem apply_getD {k : List Int} {c : Int} {nn t : List Int} {i : Nat} (h : i < t.length) : (apply k c nn t).getD i 0 = bXor .u8 (t.getD i 0) ((block k ((c + (i / 64 : Nat)) % 4294967296) nn).getD (i % 64) 0) := by
  simp [apply, List.getD_eq_getElem?_getD, List.getElem?_map, List.getElem?_range h]
end Go.Proofs.Ytmfnldkiaodkpaa.W
namespace Go.Proofs.Ytmfnldkiaodkpaa.Vm
open Go
theorem tk1 {α : Type} {x : List α} {a : Nat} : List.take a (List.take a x) = List.take a x := by rw [List.take_take, Nat.min_self]
theorem tk2 {α : Type} {x y : List α} {a b : Nat} : List.take (a + b) (List.take a x ++ List.take b y) = List.take a x ++ List.take b y :=
  List.take_of_length_le (by simp only [List.length_append, List.length_take]; omega)
theorem tk3 {α : Type} {x y z : List α} {a b c : Nat} : List.take (a + b + c) (List.take a x ++ List.take b y ++ List.take c z) = List.take a x ++ List.take b y ++ List.take c z :=
  List.take_of_length_le (by simp only [List.length_append, List.length_take]; omega)
theorem tk4 {α : Type} {x y z u : List α} {a b c d : Nat} : List.take (a + b + c + d) (List.take a x ++ List.take b y ++ List.take c z ++ List.take d u) = List.take a x ++ List.take b y ++ List.take c z ++ List.take d u :=
  List.take_of_length_le (by simp only [List.length_append, List.length_take]; omega)
theorem tk5 {α : Type} {x y z u v : List α} {a b c d e : Nat} : List.take (a + b + c + d + e) (List.take a x ++ List.take b y ++ List.take c z ++ List.take d u ++ List.take e v) = List.take a x ++ List.take b y ++ List.take c z ++ List.take d u ++ List.take e v :=
  List.take_of_length_le (by simp only [List.length_append, List.length_take]; omega)
theorem seg_len {l : List Int} {o n : Nat} (h : o + n ≤ l.length) : (List.take n (List.drop o l)).length = n := by
  simp only [List.length_take, List.length_drop]; omega
theorem seg_getD {l : List Int} {o n i : Nat} (h : i < n) : (List.take n (List.drop o l)).getD i 0 = l.getD (o + i) 0 := by
  simp [List.getD_eq_getElem?_getD, List.getElem?_take, List.getElem?_drop, h]
theorem fill_step {X : List Int} {i k : Nat} (hX : X.length = k) (hi : i < k) {v : Int} (hv : v = X.getD i 0) : splice (X.take i ++ List.replicate (k - i) 0) i [v] = X.take (i + 1) ++ List.replicate (k - (i + 1)) 0 := by
  have hl : (X.take i).length = i := by simp; omega
  have e : k - i = (k - (i + 1)) + 1 := by omega
  show ((X.take i ++ List.replicate (k - i) 0).set i v) = _
  rw [List.set_append_right _ _ (by omega), hl, Nat.sub_self, e, List.replicate_succ, List.set_cons_zero, List.take_succ_eq_append_getElem (by omega), List.append_assoc]
  subst hv
  simp [List.getD_eq_getElem?_getD, List.getElem?_eq_getElem (show i < X.length by omega)]
theorem xor_getD {a b : List Int} {i : Nat} (h : i < a.length) (h' : i < b.length) : (W.xor a b).getD i 0 = bXor .u8 (a.getD i 0) (b.getD i 0) := by
  simp [W.xor, List.getD_eq_getElem?_getD, List.getElem?_zipWith, List.getElem?_eq_getElem h, List.getElem?_eq_getElem h']
theorem xor_len {a b : List Int} : (W.xor a b).length = min a.length b.length := by simp [W.xor]
theorem strEq_t {a b : List Int} (h : a = b) : ((⟨(a.map fun n => UInt8.ofNat n.toNat).toArray⟩ : ByteArray).toList == (⟨(b.map fun n => UInt8.ofNat n.toNat).toArray⟩ : ByteArray).toList) = true := by
  subst h; exact beq_self_eq_true _
end Go.Proofs.Ytmfnldkiaodkpaa.Vm

namespace Go.Proofs.Ytmfnldkiaodkpaa.Vm
open Go Go.Proofs Go.Proofs.Ytmfnldkiaodkpaa
set_option maxRecDepth 100000
def LXI (a b : List Int) (o n p m i0 : Nat) (l1 : List Int) : S0 :=
  ⟨[(0, (.c (.sl 1 0 o n 1))), (1, (.c (.sl 2 0 p m 1))), (4, (.c .nils)), (7, (.c (.sl 1 0 o n 1))), (8, (.c (.int .i64 (↑n)))), (9, (.c (.sl 2 0 p m 1))), (10, (.c (.int .i64 (↑m)))), (11, (.c (.int .i64 (↑(min n m))))), (12, (.c (.sl 99 0 0 (min n m) 1))), (5, (.c (.sl 99 0 0 (min n m) 1))), (13, (.c (.sl 99 0 0 (min n m) 1))), (14, (.c (.int .i64 (↑(min n m))))), (15, (.c (.int .i64 ((↑i0 : Int)))))], [(1, (.one ⟨false, false, (.ints .u8 a)⟩)), (2, (.one ⟨false, false, (.ints .u8 b)⟩)), (99, (.one ⟨true, true, (.ints .u8 l1)⟩))], 179⟩
theorem LX_by {α : Type} (I : α → S0) (Inv : α → Prop) (μ : α → Nat) {ex : Ex} {s' : S0} (hex : ex ≠ .normal)
    (step : ∀ x, Inv x → (∃ y, Inv y ∧ μ y < μ x ∧ CodeOk Try.prog 32 179 (kAt (kOf Try.prog Try.f101) [true, true, false, true, false, false]) (I x) .normal (I y)) ∨ CodeOk Try.prog 32 179 (kAt (kOf Try.prog Try.f101) [true, true, false, true, false, false]) (I x) ex s') (x : α) (hx : Inv x) :
    CodeOk Try.prog 32 179 (kAt (kOf Try.prog Try.f101) [true, true, false, true, false]) (I x) ex s' := by
  have hk : (kAt (kOf Try.prog Try.f101) [true, true, false, true, false]) = .loop (kAt (kOf Try.prog Try.f101) [true, true, false, true, false, false]) := by kernel_rfl
  rw [hk]
  exact CodeOk.loop I Inv μ hex step x hx
def LX0 (a b : List Int) (o n p m : Nat) : S0 :=
  ⟨[(0, (.c (.sl 1 0 o n 1))), (1, (.c (.sl 2 0 p m 1))), (4, (.c .nils)), (7, (.c (.sl 1 0 o n 1))), (8, (.c (.int .i64 (↑n)))), (9, (.c (.sl 2 0 p m 1))), (10, (.c (.int .i64 (↑m)))), (11, (.c (.int .i64 (↑(min n m))))), (12, (.c (.sl 99 0 0 (min n m) 1))), (5, (.c (.sl 99 0 0 (min n m) 1))), (13, (.c (.sl 99 0 0 (min n m) 1))), (14, (.c (.int .i64 (↑(min n m))))), (15, (.c (.int .i64 0)))], [(1, (.one ⟨false, false, (.ints .u8 a)⟩)), (2, (.one ⟨false, false, (.ints .u8 b)⟩)), (99, (.one ⟨true, true, (.ints .u8 (List.replicate (min n m) 0))⟩))], 179⟩
theorem LX_rt (a b : List Int) (o n p m i0 : Nat) (l1 : List Int)
    (ha : o + n ≤ a.length)
    (hb : p + m ≤ b.length)
    (hn : n ≤ 4294967296)
    (hi : i0 ≤ min n m)
    (hl : l1.length = min n m)
    (h2 : ((↑i0 : Int) < (↑(min n m) : Int))) :
    CodeOk Try.prog 32 179 (kAt (kOf Try.prog Try.f101) [true, true, false, true, false, false]) (LXI a b o n p m i0 l1) .normal (LXI a b o n p m (i0 + 1) (splice l1 i0 [bXor IntKind.u8 (List.getD a (o + i0) 0) (List.getD b (p + i0) 0)])) :=
  CodeOk.of_runs (fuel := 300) (v := ⟨[0, 1, 4, 7, 8, 9, 10, 11, 12, 5, 13, 14, 15], [1, 2, 99], [], 179⟩) (hs := [(0, ⟨.auto, some (.c (.bool (true)))⟩), (8, ⟨.ask, some (.c (.ptr 1 0 (o + i0)))⟩), (9, ⟨.ask, none⟩), (12, ⟨.ask, some (.c (.ptr 2 0 (p + i0)))⟩), (13, ⟨.ask, none⟩), (15, ⟨.ask, none⟩), (16, ⟨.ask, none⟩), (17, ⟨.auto, some (.c (.int .i64 (↑(i0 + 1))))⟩)])
    (cs := [EI .i64 (IntKind.wrap IntKind.i64 ((↑i0 : Int) + 1)) ((↑(i0 + 1) : Int)),
      (i0 + (1 : Nat) ≤ List.length l1 ∧ (1 : Nat) = (1 : Nat)),
      ((0 : Int) ≤ (↑i0 : Int) ∧ (↑i0 : Int) < (↑(min n m) : Int)),
      (p + i0 + (1 : Nat) ≤ List.length b),
      ((.c (.ptr 2 0 (addO p i0))) : V) = (.c (.ptr 2 0 (p + i0))),
      ((0 : Int) ≤ (↑i0 : Int) ∧ (↑i0 : Int) < (↑m : Int)),
      (o + i0 + (1 : Nat) ≤ List.length a),
      ((.c (.ptr 1 0 (addO o i0))) : V) = (.c (.ptr 1 0 (o + i0))),
      ((0 : Int) ≤ (↑i0 : Int) ∧ (↑i0 : Int) < (↑n : Int)),
      EB (decide ((↑i0 : Int) < (↑(min n m) : Int))) true])
    mixed (by kernel_rfl) ⟨.mk (by simp only [addO_eq, mulE_eq, mulE_one, Int.toNat_natCast, IntKind.wrap_i64, mmin, mmax]; omega), (by omega), (by omega), (by omega), EV.ptr (by simp only [addO_eq, mulE_eq, mulE_one, Int.toNat_natCast, IntKind.wrap_i64, mmin, mmax]), (by omega), (by omega), EV.ptr (by simp only [addO_eq, mulE_eq, mulE_one, Int.toNat_natCast, IntKind.wrap_i64, mmin, mmax]), (by omega), .mk (decide_eq_true h2), trivial⟩
theorem LX_xf (a b : List Int) (o n p m i0 : Nat) (l1 : List Int)
    (ha : o + n ≤ a.length)
    (hb : p + m ≤ b.length)
    (hn : n ≤ 4294967296)
    (hi : i0 ≤ min n m)
    (hl : l1.length = min n m)
    (h2 : (¬(↑i0 : Int) < (↑(min n m) : Int))) :
    CodeOk Try.prog 32 179 (kAt (kOf Try.prog Try.f101) [true, true, false, true, false, false]) (LXI a b o n p m i0 l1) (.exit 0) (LXI a b o n p m i0 l1) :=
  CodeOk.of_runs (fuel := 300) (v := ⟨[0, 1, 4, 7, 8, 9, 10, 11, 12, 5, 13, 14, 15], [1, 2, 99], [], 179⟩) (hs := [(0, ⟨.auto, some (.c (.bool (false)))⟩)])
    (cs := [EB (decide ((↑i0 : Int) < (↑(min n m) : Int))) false])
    mixed (by kernel_rfl) ⟨.mk (decide_eq_false h2), trivial⟩
def LSI (a b : List Int) (o n p m : Nat) (z0 : Int) (i1 : Nat) : S0 :=
  ⟨[(0, (.c (.sl 1 0 o n 1))), (1, (.c (.sl 2 0 p m 1))), (4, (.c (.bool (false)))), (7, (.c (.sl 1 0 o n 1))), (8, (.c (.int .i64 (↑n)))), (9, (.c (.sl 2 0 p m 1))), (10, (.c (.int .i64 (↑m)))), (11, (.c (.bool (false)))), (12, (.c (.sl 1 0 o n 1))), (13, (.c (.int .i64 (↑n)))), (5, (.c (.int .u8 z0))), (14, (.c (.int .i64 ((↑i1 : Int)))))], [(1, (.one ⟨false, false, (.ints .u8 a)⟩)), (2, (.one ⟨false, false, (.ints .u8 b)⟩))], 163⟩
theorem LS_by {α : Type} (I : α → S0) (Inv : α → Prop) (μ : α → Nat) {ex : Ex} {s' : S0} (hex : ex ≠ .normal)
    (step : ∀ x, Inv x → (∃ y, Inv y ∧ μ y < μ x ∧ CodeOk Try.prog 31 163 (kAt (kOf Try.prog Try.f93) [true, true, true, false, true, false, false]) (I x) .normal (I y)) ∨ CodeOk Try.prog 31 163 (kAt (kOf Try.prog Try.f93) [true, true, true, false, true, false, false]) (I x) ex s') (x : α) (hx : Inv x) :
    CodeOk Try.prog 31 163 (kAt (kOf Try.prog Try.f93) [true, true, true, false, true, false]) (I x) ex s' := by
  have hk : (kAt (kOf Try.prog Try.f93) [true, true, true, false, true, false]) = .loop (kAt (kOf Try.prog Try.f93) [true, true, true, false, true, false, false]) := by kernel_rfl
  rw [hk]
  exact CodeOk.loop I Inv μ hex step x hx
def LS0 (a b : List Int) (o n p m : Nat) : S0 :=
  ⟨[(0, (.c (.sl 1 0 o n 1))), (1, (.c (.sl 2 0 p m 1))), (4, (.c (.bool (false)))), (7, (.c (.sl 1 0 o n 1))), (8, (.c (.int .i64 (↑n)))), (9, (.c (.sl 2 0 p m 1))), (10, (.c (.int .i64 (↑m)))), (11, (.c (.bool (false)))), (12, (.c (.sl 1 0 o n 1))), (13, (.c (.int .i64 (↑n)))), (5, (.c (.int .u8 0))), (14, (.c (.int .i64 0)))], [(1, (.one ⟨false, false, (.ints .u8 a)⟩)), (2, (.one ⟨false, false, (.ints .u8 b)⟩))], 163⟩
theorem LS_rt (a b : List Int) (o n p m : Nat) (z0 : Int) (i1 : Nat)
    (ha : o + n ≤ a.length)
    (hb : p + m ≤ b.length)
    (hn : n ≤ 4294967296)
    (he : n = m)
    (hi : i1 ≤ n)
    (h2 : ((↑i1 : Int) < (↑n : Int))) :
    CodeOk Try.prog 31 163 (kAt (kOf Try.prog Try.f93) [true, true, true, false, true, false, false]) (LSI a b o n p m z0 i1) .normal (LSI a b o n p m (bOr IntKind.u8 z0 (bXor IntKind.u8 (List.getD a (o + i1) 0) (List.getD b (p + i1) 0))) (i1 + 1)) :=
  CodeOk.of_runs (fuel := 300) (v := ⟨[0, 1, 4, 7, 8, 9, 10, 11, 12, 13, 5, 14], [1, 2], [], 163⟩) (hs := [(0, ⟨.auto, some (.c (.bool (true)))⟩), (7, ⟨.ask, some (.c (.ptr 1 0 (o + i1)))⟩), (8, ⟨.ask, none⟩), (11, ⟨.ask, some (.c (.ptr 2 0 (p + i1)))⟩), (12, ⟨.ask, none⟩), (16, ⟨.auto, some (.c (.int .i64 (↑(i1 + 1))))⟩)])
    (cs := [EI .i64 (IntKind.wrap IntKind.i64 ((↑i1 : Int) + 1)) ((↑(i1 + 1) : Int)),
      (p + i1 + (1 : Nat) ≤ List.length b),
      ((.c (.ptr 2 0 (addO p i1))) : V) = (.c (.ptr 2 0 (p + i1))),
      ((0 : Int) ≤ (↑i1 : Int) ∧ (↑i1 : Int) < (↑m : Int)),
      (o + i1 + (1 : Nat) ≤ List.length a),
      ((.c (.ptr 1 0 (addO o i1))) : V) = (.c (.ptr 1 0 (o + i1))),
      ((0 : Int) ≤ (↑i1 : Int) ∧ (↑i1 : Int) < (↑n : Int)),
      EB (decide ((↑i1 : Int) < (↑n : Int))) true])
    mixed (by kernel_rfl) ⟨.mk (by simp only [addO_eq, mulE_eq, mulE_one, Int.toNat_natCast, IntKind.wrap_i64, mmin, mmax]; omega), (by omega), EV.ptr (by simp only [addO_eq, mulE_eq, mulE_one, Int.toNat_natCast, IntKind.wrap_i64, mmin, mmax]), (by omega), (by omega), EV.ptr (by simp only [addO_eq, mulE_eq, mulE_one, Int.toNat_natCast, IntKind.wrap_i64, mmin, mmax]), (by omega), .mk (decide_eq_true h2), trivial⟩
theorem LS_xf (a b : List Int) (o n p m : Nat) (z0 : Int) (i1 : Nat)
    (ha : o + n ≤ a.length)
    (hb : p + m ≤ b.length)
    (hn : n ≤ 4294967296)
    (he : n = m)
    (hi : i1 ≤ n)
    (h2 : (¬(↑i1 : Int) < (↑n : Int))) :
    CodeOk Try.prog 31 163 (kAt (kOf Try.prog Try.f93) [true, true, true, false, true, false, false]) (LSI a b o n p m z0 i1) (.exit 0) (LSI a b o n p m z0 i1) :=
  CodeOk.of_runs (fuel := 300) (v := ⟨[0, 1, 4, 7, 8, 9, 10, 11, 12, 13, 5, 14], [1, 2], [], 163⟩) (hs := [(0, ⟨.auto, some (.c (.bool (false)))⟩)])
    (cs := [EB (decide ((↑i1 : Int) < (↑n : Int))) false])
    mixed (by kernel_rfl) ⟨.mk (decide_eq_false h2), trivial⟩
theorem clone (a : List Int) (o n : Nat)
    (ha : o + n ≤ a.length)
    (hn : n ≤ 4294967296) :
    Contract0 Try.prog 75 [(.c (.sl 1 0 o n 1))] [(1, (.one ⟨false, false, (.ints .u8 a)⟩))] 2 (.c (.sl 2 0 0 n 1)) [] [(2, (.one ⟨true, false, (.ints .u8 (List.take n (List.drop o a)))⟩))] :=
  Contract0.renum (Contract0.of_frun (res := (.c (.sl 50 0 0 n 1))) (up := [(50, (.one ⟨true, false, (.ints .u8 (List.take n (List.drop o a)))⟩))]) (kill := []) (n0 := 2) (m := [(1, (.one ⟨false, false, (.ints .u8 a)⟩))]) (args := [(.c (.sl 1 0 o n 1))]) (fn := Try.f75) (c := bodyOf Try.f75) (fuel := 300) (k := kOf Try.prog Try.f75) (outs := [50]) (hs := [(3, ⟨.ask, none⟩)])
    (cs := [(o + n * (1 : Nat) ≤ List.length a ∧ (2 : Nat) * ((0 : Nat) + n) ≤ (4398046511104 : Nat) ∧ (0 : Nat) ≤ (0 : Nat))])
    mixed Try.func75 (by kernel_rfl) (by kernel_rfl) (by kernel_rfl) (by kernel_rfl) (by kernel_rfl) ⟨(by omega), trivial⟩) [.b 1 1 true] [] [(50, 2)] [] (by kernel_rfl) (by kernel_rfl) (by kernel_rfl) (by kernel_rfl) (by kernel_rfl)
theorem join2 (a0 a1 : List Int) (o0 n0 o1 n1 : Nat)
    (h0 : o0 + n0 ≤ a0.length)
    (h1 : o1 + n1 ≤ a1.length)
    (hn : n0 + n1 ≤ 4294967296) :
    Contract0 Try.prog 57 [(.c (.sl 1 0 0 2 1))] [(1, (.one ⟨false, false, (.cells [(.sl 2 0 o0 n0 1), (.sl 3 0 o1 n1 1)])⟩)), (2, (.one ⟨false, false, (.ints .u8 a0)⟩)), (3, (.one ⟨false, false, (.ints .u8 a1)⟩))] 4 (.c (.sl 4 0 0 (n0 + n1) 1)) [] [(4, (.one ⟨true, false, (.ints .u8 (List.take n0 (List.drop o0 a0) ++ List.take n1 (List.drop o1 a1)))⟩))] :=
  Contract0.told (res := (.c (.sl 4 0 0 (n0 + n1) 1))) (up := [(4, (.one ⟨true, false, (.ints .u8 (List.take n0 (List.take n0 (List.drop o0 a0)) ++ List.take n1 (List.drop o1 a1)))⟩))]) (res' := (.c (.sl 4 0 0 (n0 + n1) 1))) (up' := [(4, (.one ⟨true, false, (.ints .u8 (List.take n0 (List.drop o0 a0) ++ List.take n1 (List.drop o1 a1)))⟩))]) (by rfl) (by simp only [tk1, tk2, tk3, tk4, tk5]) (Contract0.renum (Contract0.of_frun (res := (.c (.sl 356 0 0 (n0 + n1) 1))) (up := [(356, (.one ⟨true, false, (.ints .u8 (List.take n0 (List.take n0 (List.drop o0 a0)) ++ List.take n1 (List.drop o1 a1)))⟩))]) (kill := []) (n0 := 4) (m := [(1, (.one ⟨false, false, (.cells [(.sl 2 0 o0 n0 1), (.sl 3 0 o1 n1 1)])⟩)), (2, (.one ⟨false, false, (.ints .u8 a0)⟩)), (3, (.one ⟨false, false, (.ints .u8 a1)⟩))]) (args := [(.c (.sl 1 0 0 2 1))]) (fn := Try.f57) (c := bodyOf Try.f57) (fuel := 300) (k := kOf Try.prog Try.f57) (outs := [356]) (hs := [(13, ⟨.ask, none⟩), (24, ⟨.ask, some (.c (.sl 356 0 0 (n0 + n1) 1))⟩)])
    (cs := [((.c (.sl 356 0 0 (addO n0 n1) 1)) : V) = (.c (.sl 356 0 0 (n0 + n1) 1)),
      (o1 + n1 * (1 : Nat) ≤ List.length a1 ∧ (2 : Nat) * (n0 + n1) ≤ (4398046511104 : Nat) ∧ (0 : Nat) + n0 * (1 : Nat) ≤ List.length (List.take n0 (List.drop o0 a0))),
      (o0 + n0 * (1 : Nat) ≤ List.length a0 ∧ (2 : Nat) * ((0 : Nat) + n0) ≤ (4398046511104 : Nat) ∧ (0 : Nat) ≤ (0 : Nat))])
    mixed Try.func57 (by kernel_rfl) (by kernel_rfl) (by kernel_rfl) (by kernel_rfl) (by kernel_rfl) ⟨EV.sl (by rfl) (by simp only [addO_eq, mulE_eq, mulE_one, Int.toNat_natCast, IntKind.wrap_i64, mmin, mmax]), (by simp only [List.length_set, List.length_append, List.length_replicate, List.length_take, List.length_drop, List.length_map, List.length_cons, List.length_nil, List.length_zipWith, splice_len1, W.le_len, W.bts_len, Int.toNat_natCast, addO_eq, mulE_eq, mulE_one]; omega), (by omega), trivial⟩) [.b 1 1 true, .b 2 2 true, .b 3 3 true] [] [(356, 4)] [] (by kernel_rfl) (by kernel_rfl) (by kernel_rfl) (by kernel_rfl) (by kernel_rfl))
theorem join6 (a0 a1 a2 a3 a4 a5 : List Int) (o0 n0 o1 n1 o2 n2 o3 n3 o4 n4 o5 n5 : Nat)
    (h0 : o0 + n0 ≤ a0.length)
    (h1 : o1 + n1 ≤ a1.length)
    (h2 : o2 + n2 ≤ a2.length)
    (h3 : o3 + n3 ≤ a3.length)
    (h4 : o4 + n4 ≤ a4.length)
    (h5 : o5 + n5 ≤ a5.length)
    (hn : n0 + n1 + n2 + n3 + n4 + n5 ≤ 4294967296) :
    Contract0 Try.prog 57 [(.c (.sl 1 0 0 6 1))] [(1, (.one ⟨false, false, (.cells [(.sl 2 0 o0 n0 1), (.sl 3 0 o1 n1 1), (.sl 4 0 o2 n2 1), (.sl 5 0 o3 n3 1), (.sl 6 0 o4 n4 1), (.sl 7 0 o5 n5 1)])⟩)), (2, (.one ⟨false, false, (.ints .u8 a0)⟩)), (3, (.one ⟨false, false, (.ints .u8 a1)⟩)), (4, (.one ⟨false, false, (.ints .u8 a2)⟩)), (5, (.one ⟨false, false, (.ints .u8 a3)⟩)), (6, (.one ⟨false, false, (.ints .u8 a4)⟩)), (7, (.one ⟨false, false, (.ints .u8 a5)⟩))] 8 (.c (.sl 8 0 0 (n0 + n1 + n2 + n3 + n4 + n5) 1)) [] [(8, (.one ⟨true, false, (.ints .u8 (List.take n0 (List.drop o0 a0) ++ List.take n1 (List.drop o1 a1) ++ List.take n2 (List.drop o2 a2) ++ List.take n3 (List.drop o3 a3) ++ List.take n4 (List.drop o4 a4) ++ List.take n5 (List.drop o5 a5)))⟩))] :=
  Contract0.told (res := (.c (.sl 8 0 0 (n0 + n1 + n2 + n3 + n4 + n5) 1))) (up := [(8, (.one ⟨true, false, (.ints .u8 (List.take (n0 + n1 + n2 + n3 + n4) (List.take (n0 + n1 + n2 + n3) (List.take (n0 + n1 + n2) (List.take (n0 + n1) (List.take n0 (List.take n0 (List.drop o0 a0)) ++ List.take n1 (List.drop o1 a1)) ++ List.take n2 (List.drop o2 a2)) ++ List.take n3 (List.drop o3 a3)) ++ List.take n4 (List.drop o4 a4)) ++ List.take n5 (List.drop o5 a5)))⟩))]) (res' := (.c (.sl 8 0 0 (n0 + n1 + n2 + n3 + n4 + n5) 1))) (up' := [(8, (.one ⟨true, false, (.ints .u8 (List.take n0 (List.drop o0 a0) ++ List.take n1 (List.drop o1 a1) ++ List.take n2 (List.drop o2 a2) ++ List.take n3 (List.drop o3 a3) ++ List.take n4 (List.drop o4 a4) ++ List.take n5 (List.drop o5 a5)))⟩))]) (by rfl) (by simp only [tk1, tk2, tk3, tk4, tk5]) (Contract0.renum (Contract0.of_frun (res := (.c (.sl 1000 0 0 (n0 + n1 + n2 + n3 + n4 + n5) 1))) (up := [(1000, (.one ⟨true, false, (.ints .u8 (List.take (n0 + n1 + n2 + n3 + n4) (List.take (n0 + n1 + n2 + n3) (List.take (n0 + n1 + n2) (List.take (n0 + n1) (List.take n0 (List.take n0 (List.drop o0 a0)) ++ List.take n1 (List.drop o1 a1)) ++ List.take n2 (List.drop o2 a2)) ++ List.take n3 (List.drop o3 a3)) ++ List.take n4 (List.drop o4 a4)) ++ List.take n5 (List.drop o5 a5)))⟩))]) (kill := []) (n0 := 8) (m := [(1, (.one ⟨false, false, (.cells [(.sl 2 0 o0 n0 1), (.sl 3 0 o1 n1 1), (.sl 4 0 o2 n2 1), (.sl 5 0 o3 n3 1), (.sl 6 0 o4 n4 1), (.sl 7 0 o5 n5 1)])⟩)), (2, (.one ⟨false, false, (.ints .u8 a0)⟩)), (3, (.one ⟨false, false, (.ints .u8 a1)⟩)), (4, (.one ⟨false, false, (.ints .u8 a2)⟩)), (5, (.one ⟨false, false, (.ints .u8 a3)⟩)), (6, (.one ⟨false, false, (.ints .u8 a4)⟩)), (7, (.one ⟨false, false, (.ints .u8 a5)⟩))]) (args := [(.c (.sl 1 0 0 6 1))]) (fn := Try.f57) (c := bodyOf Try.f57) (fuel := 300) (k := kOf Try.prog Try.f57) (outs := [1000]) (hs := [(13, ⟨.ask, none⟩), (24, ⟨.ask, some (.c (.sl 360 0 0 (n0 + n1) 1))⟩), (35, ⟨.ask, some (.c (.sl 520 0 0 (n0 + n1 + n2) 1))⟩), (46, ⟨.ask, some (.c (.sl 680 0 0 (n0 + n1 + n2 + n3) 1))⟩), (57, ⟨.ask, some (.c (.sl 840 0 0 (n0 + n1 + n2 + n3 + n4) 1))⟩), (68, ⟨.ask, some (.c (.sl 1000 0 0 (n0 + n1 + n2 + n3 + n4 + n5) 1))⟩)])
    (cs := [((.c (.sl 1000 0 0 (addO (n0 + n1 + n2 + n3 + n4) n5) 1)) : V) = (.c (.sl 1000 0 0 (n0 + n1 + n2 + n3 + n4 + n5) 1)),
      (o5 + n5 * (1 : Nat) ≤ List.length a5 ∧ (2 : Nat) * (n0 + n1 + n2 + n3 + n4 + n5) ≤ (4398046511104 : Nat) ∧ (0 : Nat) + (n0 + n1 + n2 + n3 + n4) * (1 : Nat) ≤ List.length (List.take (n0 + n1 + n2 + n3) (List.take (n0 + n1 + n2) (List.take (n0 + n1) (List.take n0 (List.take n0 (List.drop o0 a0)) ++ List.take n1 (List.drop o1 a1)) ++ List.take n2 (List.drop o2 a2)) ++ List.take n3 (List.drop o3 a3)) ++ List.take n4 (List.drop o4 a4))),
      ((.c (.sl 840 0 0 (addO (n0 + n1 + n2 + n3) n4) 1)) : V) = (.c (.sl 840 0 0 (n0 + n1 + n2 + n3 + n4) 1)),
      (o4 + n4 * (1 : Nat) ≤ List.length a4 ∧ (2 : Nat) * (n0 + n1 + n2 + n3 + n4) ≤ (4398046511104 : Nat) ∧ (0 : Nat) + (n0 + n1 + n2 + n3) * (1 : Nat) ≤ List.length (List.take (n0 + n1 + n2) (List.take (n0 + n1) (List.take n0 (List.take n0 (List.drop o0 a0)) ++ List.take n1 (List.drop o1 a1)) ++ List.take n2 (List.drop o2 a2)) ++ List.take n3 (List.drop o3 a3))),
      ((.c (.sl 680 0 0 (addO (n0 + n1 + n2) n3) 1)) : V) = (.c (.sl 680 0 0 (n0 + n1 + n2 + n3) 1)),
      (o3 + n3 * (1 : Nat) ≤ List.length a3 ∧ (2 : Nat) * (n0 + n1 + n2 + n3) ≤ (4398046511104 : Nat) ∧ (0 : Nat) + (n0 + n1 + n2) * (1 : Nat) ≤ List.length (List.take (n0 + n1) (List.take n0 (List.take n0 (List.drop o0 a0)) ++ List.take n1 (List.drop o1 a1)) ++ List.take n2 (List.drop o2 a2))),
      ((.c (.sl 520 0 0 (addO (n0 + n1) n2) 1)) : V) = (.c (.sl 520 0 0 (n0 + n1 + n2) 1)),
      (o2 + n2 * (1 : Nat) ≤ List.length a2 ∧ (2 : Nat) * (n0 + n1 + n2) ≤ (4398046511104 : Nat) ∧ (0 : Nat) + (n0 + n1) * (1 : Nat) ≤ List.length (List.take n0 (List.take n0 (List.drop o0 a0)) ++ List.take n1 (List.drop o1 a1))),
      ((.c (.sl 360 0 0 (addO n0 n1) 1)) : V) = (.c (.sl 360 0 0 (n0 + n1) 1)),
      (o1 + n1 * (1 : Nat) ≤ List.length a1 ∧ (2 : Nat) * (n0 + n1) ≤ (4398046511104 : Nat) ∧ (0 : Nat) + n0 * (1 : Nat) ≤ List.length (List.take n0 (List.drop o0 a0))),
      (o0 + n0 * (1 : Nat) ≤ List.length a0 ∧ (2 : Nat) * ((0 : Nat) + n0) ≤ (4398046511104 : Nat) ∧ (0 : Nat) ≤ (0 : Nat))])
    mixed Try.func57 (by kernel_rfl) (by kernel_rfl) (by kernel_rfl) (by kernel_rfl) (by kernel_rfl) ⟨EV.sl (by rfl) (by simp only [addO_eq, mulE_eq, mulE_one, Int.toNat_natCast, IntKind.wrap_i64, mmin, mmax]), (by simp only [List.length_set, List.length_append, List.length_replicate, List.length_take, List.length_drop, List.length_map, List.length_cons, List.length_nil, List.length_zipWith, splice_len1, W.le_len, W.bts_len, Int.toNat_natCast, addO_eq, mulE_eq, mulE_one]; omega), EV.sl (by rfl) (by simp only [addO_eq, mulE_eq, mulE_one, Int.toNat_natCast, IntKind.wrap_i64, mmin, mmax]), (by simp only [List.length_set, List.length_append, List.length_replicate, List.length_take, List.length_drop, List.length_map, List.length_cons, List.length_nil, List.length_zipWith, splice_len1, W.le_len, W.bts_len, Int.toNat_natCast, addO_eq, mulE_eq, mulE_one]; omega), EV.sl (by rfl) (by simp only [addO_eq, mulE_eq, mulE_one, Int.toNat_natCast, IntKind.wrap_i64, mmin, mmax]), (by simp only [List.length_set, List.length_append, List.length_replicate, List.length_take, List.length_drop, List.length_map, List.length_cons, List.length_nil, List.length_zipWith, splice_len1, W.le_len, W.bts_len, Int.toNat_natCast, addO_eq, mulE_eq, mulE_one]; omega), EV.sl (by rfl) (by simp only [addO_eq, mulE_eq, mulE_one, Int.toNat_natCast, IntKind.wrap_i64, mmin, mmax]), (by simp only [List.length_set, List.length_append, List.length_replicate, List.length_take, List.length_drop, List.length_map, List.length_cons, List.length_nil, List.length_zipWith, splice_len1, W.le_len, W.bts_len, Int.toNat_natCast, addO_eq, mulE_eq, mulE_one]; omega), EV.sl (by rfl) (by simp only [addO_eq, mulE_eq, mulE_one, Int.toNat_natCast, IntKind.wrap_i64, mmin, mmax]), (by simp only [List.length_set, List.length_append, List.length_replicate, List.length_take, List.length_drop, List.length_map, List.length_cons, List.length_nil, List.length_zipWith, splice_len1, W.le_len, W.bts_len, Int.toNat_natCast, addO_eq, mulE_eq, mulE_one]; omega), (by omega), trivial⟩) [.b 1 1 true, .b 2 2 true, .b 3 3 true, .b 4 4 true, .b 5 5 true, .b 6 6 true, .b 7 7 true] [] [(1000, 8)] [] (by kernel_rfl) (by kernel_rfl) (by kernel_rfl) (by kernel_rfl) (by kernel_rfl))
theorem get4 (l : List Int) (o n : Nat)
    (hl : o + n ≤ l.length)
    (hn : 4 ≤ n) :
    Contract0 Try.prog 104 [(.c (.sl 1 0 o n 1)), (.c (.int .i64 4))] [(1, (.one ⟨false, false, (.ints .u8 l)⟩))] 2 (.tup [(.c (.int .u64 (W.get4 l o))), (.c (.bool true))]) [] [] :=
  Contract0.told (res := (.tup [(.c (.int .u64 (bOr IntKind.u64 (bOr IntKind.u64 (bOr IntKind.u64 (bOr IntKind.u64 0 (List.getD l o 0 % 18446744073709551616)) (List.getD l (o + 1) 0 % 18446744073709551616 * 256 % 18446744073709551616)) (List.getD l (o + 2) 0 % 18446744073709551616 * 65536 % 18446744073709551616)) (List.getD l (o + 3) 0 % 18446744073709551616 * 16777216 % 18446744073709551616)))), (.c (.bool (true)))])) (up := []) (res' := (.tup [(.c (.int .u64 (W.get4 l o))), (.c (.bool true))])) (up' := []) (by rfl) (by rfl) (Contract0.of_frun (res := (.tup [(.c (.int .u64 (bOr IntKind.u64 (bOr IntKind.u64 (bOr IntKind.u64 (bOr IntKind.u64 0 (List.getD l o 0 % 18446744073709551616)) (List.getD l (o + 1) 0 % 18446744073709551616 * 256 % 18446744073709551616)) (List.getD l (o + 2) 0 % 18446744073709551616 * 65536 % 18446744073709551616)) (List.getD l (o + 3) 0 % 18446744073709551616 * 16777216 % 18446744073709551616)))), (.c (.bool (true)))])) (up := []) (kill := []) (n0 := 2) (m := [(1, (.one ⟨false, false, (.ints .u8 l)⟩))]) (args := [(.c (.sl 1 0 o n 1)), (.c (.int .i64 4))]) (fn := Try.f104) (c := bodyOf Try.f104) (fuel := 300) (k := kOf Try.prog Try.f104) (outs := []) (hs := [(5, ⟨.auto, some (.c (.bool (false)))⟩), (17, ⟨.ask, some (.c (.ptr 1 0 o))⟩), (18, ⟨.ask, none⟩), (22, ⟨.auto, some (.c (.int .u64 (List.getD l o 0 % 18446744073709551616)))⟩), (34, ⟨.ask, some (.c (.ptr 1 0 (o + 1)))⟩), (35, ⟨.ask, none⟩), (51, ⟨.ask, some (.c (.ptr 1 0 (o + 2)))⟩), (52, ⟨.ask, none⟩), (68, ⟨.ask, some (.c (.ptr 1 0 (o + 3)))⟩), (69, ⟨.ask, none⟩)])
    (cs := [(o + (3 : Nat) + (1 : Nat) ≤ List.length l),
      ((.c (.ptr 1 0 (addO o 3))) : V) = (.c (.ptr 1 0 (o + 3))),
      ((0 : Int) ≤ (3 : Int) ∧ (3 : Int) < (↑n : Int)),
      (o + (2 : Nat) + (1 : Nat) ≤ List.length l),
      ((.c (.ptr 1 0 (addO o 2))) : V) = (.c (.ptr 1 0 (o + 2))),
      ((0 : Int) ≤ (2 : Int) ∧ (2 : Int) < (↑n : Int)),
      (o + (1 : Nat) + (1 : Nat) ≤ List.length l),
      ((.c (.ptr 1 0 (addO o 1))) : V) = (.c (.ptr 1 0 (o + 1))),
      ((0 : Int) ≤ (1 : Int) ∧ (1 : Int) < (↑n : Int)),
      EI .u64 (List.getD l o 0 % 18446744073709551616 * 1 % 18446744073709551616) (List.getD l o 0 % 18446744073709551616),
      (o + (1 : Nat) ≤ List.length l),
      ((.c (.ptr 1 0 (addO o 0))) : V) = (.c (.ptr 1 0 o)),
      ((0 : Int) ≤ (0 : Int) ∧ (0 : Int) < (↑n : Int)),
      EB (decide ((↑n : Int) < 4)) false])
    mixed Try.func104 (by kernel_rfl) (by kernel_rfl) (by kernel_rfl) (by kernel_rfl) (by kernel_rfl) ⟨(by omega), EV.ptr (by simp only [addO_eq, mulE_eq, mulE_one, Int.toNat_natCast, IntKind.wrap_i64, mmin, mmax]), (by omega), (by omega), EV.ptr (by simp only [addO_eq, mulE_eq, mulE_one, Int.toNat_natCast, IntKind.wrap_i64, mmin, mmax]), (by omega), (by omega), EV.ptr (by simp only [addO_eq, mulE_eq, mulE_one, Int.toNat_natCast, IntKind.wrap_i64, mmin, mmax]), (by omega), .mk (by omega), (by omega), EV.ptr (by simp only [addO_eq, mulE_eq, mulE_one, Int.toNat_natCast, IntKind.wrap_i64, mmin, mmax]; omega), (by omega), .mk (decide_eq_false (by omega)), trivial⟩)
theorem Get32 (l : List Int) (o n : Nat)
    (hl : o + n ≤ l.length)
    (hn : 4 ≤ n) :
    Contract0 Try.prog 96 [(.c (.sl 1 0 o n 1))] [(1, (.one ⟨false, false, (.ints .u8 l)⟩))] 2 (.tup [(.c (.int .u32 (W.w32 l o))), (.c (.bool true))]) [] [] :=
  Contract0.told (res := (.tup [(.c (.int .u32 (W.get4 l o % 4294967296))), (.c (.bool (true)))])) (up := []) (res' := (.tup [(.c (.int .u32 (W.w32 l o))), (.c (.bool true))])) (up' := []) (by rfl) (by rfl) (Contract0.of_frun (res := (.tup [(.c (.int .u32 (W.get4 l o % 4294967296))), (.c (.bool (true)))])) (up := []) (kill := []) (n0 := 2) (m := [(1, (.one ⟨false, false, (.ints .u8 l)⟩))]) (args := [(.c (.sl 1 0 o n 1))]) (fn := Try.f96) (c := bodyOf Try.f96) (fuel := 300) (k := kOf Try.prog Try.f96) (outs := []) (hs := [(3, ⟨.call [1] (.tup [(.c (.int .u64 (W.get4 l o))), (.c (.bool (true)))]) [] [], none⟩)])
    (cs := [Contract Try.prog 104 [(.c (.sl 1 0 o n 1)), (.c (.int .i64 4))] [(1, (.one ⟨false, false, (.ints .u8 l)⟩))] 50 (.tup [(.c (.int .u64 (W.get4 l o))), (.c (.bool (true)))]) [] []])
    mixed Try.func96 (by kernel_rfl) (by kernel_rfl) (by kernel_rfl) (by kernel_rfl) (by kernel_rfl) ⟨Contract0.in1 (get4 l o n (by omega) (by omega)) [.b 1 1 true []] [none, none] [] [] (by kernel_rfl), trivial⟩)
theorem put4 (v : Int) :
    Contract0 Try.prog 83 [(.c (.int .u64 v)), (.c (.int .i64 4))] [] 1 (.c (.sl 1 0 0 4 1)) [] [(1, (.one ⟨true, true, (.ints .u8 [(v % 256), (v / 256 % 256), (v / 65536 % 256), (v / 16777216 % 256)])⟩))] :=
  Contract0.renum (Contract0.of_frun (res := (.c (.sl 33 0 0 4 1))) (up := [(33, (.one ⟨true, true, (.ints .u8 [(v % 256), (v / 256 % 256), (v / 65536 % 256), (v / 16777216 % 256)])⟩))]) (kill := []) (n0 := 1) (m := []) (args := [(.c (.int .u64 v)), (.c (.int .i64 4))]) (fn := Try.f83) (c := bodyOf Try.f83) (fuel := 300) (k := kOf Try.prog Try.f83) (outs := [33]) (hs := [(16, ⟨.auto, some (.c (.int .u64 v))⟩)])
    (cs := [EI .u64 (v / 1) v])
    mixed Try.func83 (by kernel_rfl) (by kernel_rfl) (by kernel_rfl) (by kernel_rfl) (by kernel_rfl) ⟨.mk (by omega), trivial⟩) [] [] [(33, 1)] [] (by kernel_rfl) (by kernel_rfl) (by kernel_rfl) (by kernel_rfl) (by kernel_rfl)
theorem put8 (v : Int) :
    Contract0 Try.prog 83 [(.c (.int .u64 v)), (.c (.int .i64 8))] [] 1 (.c (.sl 1 0 0 8 1)) [] [(1, (.one ⟨true, true, (.ints .u8 [(v % 256), (v / 256 % 256), (v / 65536 % 256), (v / 16777216 % 256), (v / 4294967296 % 256), (v / 1099511627776 % 256), (v / 281474976710656 % 256), (v / 72057594037927936 % 256)])⟩))] :=
  Contract0.renum (Contract0.of_frun (res := (.c (.sl 33 0 0 8 1))) (up := [(33, (.one ⟨true, true, (.ints .u8 [(v % 256), (v / 256 % 256), (v / 65536 % 256), (v / 16777216 % 256), (v / 4294967296 % 256), (v / 1099511627776 % 256), (v / 281474976710656 % 256), (v / 72057594037927936 % 256)])⟩))]) (kill := []) (n0 := 1) (m := []) (args := [(.c (.int .u64 v)), (.c (.int .i64 8))]) (fn := Try.f83) (c := bodyOf Try.f83) (fuel := 300) (k := kOf Try.prog Try.f83) (outs := [33]) (hs := [(16, ⟨.auto, some (.c (.int .u64 v))⟩)])
    (cs := [EI .u64 (v / 1) v])
    mixed Try.func83 (by kernel_rfl) (by kernel_rfl) (by kernel_rfl) (by kernel_rfl) (by kernel_rfl) ⟨.mk (by omega), trivial⟩) [] [] [(33, 1)] [] (by kernel_rfl) (by kernel_rfl) (by kernel_rfl) (by kernel_rfl) (by kernel_rfl)
theorem Put32 (v : Int)
    (hv : 0 ≤ v ∧ v < 4294967296) :
    Contract0 Try.prog 90 [(.c (.int .u32 v))] [] 1 (.c (.sl 1 0 0 4 1)) [] [(1, (.one ⟨true, true, (.ints .u8 (W.p4 v))⟩))] :=
  Contract0.told (res := (.c (.sl 1 0 0 4 1))) (up := [(1, (.one ⟨true, true, (.ints .u8 [(v % 256), (v / 256 % 256), (v / 65536 % 256), (v / 16777216 % 256)])⟩))]) (res' := (.c (.sl 1 0 0 4 1))) (up' := [(1, (.one ⟨true, true, (.ints .u8 (W.p4 v))⟩))]) (by rfl) (by rfl) (Contract0.renum (Contract0.of_frun (res := (.c (.sl 49 0 0 4 1))) (up := [(49, (.one ⟨true, true, (.ints .u8 [(v % 256), (v / 256 % 256), (v / 65536 % 256), (v / 16777216 % 256)])⟩))]) (kill := []) (n0 := 1) (m := []) (args := [(.c (.int .u32 v))]) (fn := Try.f90) (c := bodyOf Try.f90) (fuel := 300) (k := kOf Try.prog Try.f90) (outs := [49]) (hs := [(2, ⟨.auto, some (.c (.int .u64 v))⟩), (3, ⟨.call [] (.c (.sl 49 0 0 4 1)) [] [(49, (.one ⟨true, true, (.ints .u8 [(v % 256), (v / 256 % 256), (v / 65536 % 256), (v / 16777216 % 256)])⟩))], none⟩)])
    (cs := [Contract Try.prog 83 [(.c (.int .u64 v)), (.c (.int .i64 4))] [] 49 (.c (.sl 49 0 0 4 1)) [] [(49, (.one ⟨true, true, (.ints .u8 [(v % 256), (v / 256 % 256), (v / 65536 % 256), (v / 16777216 % 256)])⟩))],
      EI .u64 (v % 18446744073709551616) v])
    mixed Try.func90 (by kernel_rfl) (by kernel_rfl) (by kernel_rfl) (by kernel_rfl) (by kernel_rfl) ⟨Contract0.in1 (put4 v) [] [none, none] [(1, 49)] [] (by kernel_rfl), .mk (by omega), trivial⟩) [] [] [(49, 1)] [] (by kernel_rfl) (by kernel_rfl) (by kernel_rfl) (by kernel_rfl) (by kernel_rfl))
theorem Put64 (v : Int)
    (hv : 0 ≤ v ∧ v < 18446744073709551616) :
    Contract0 Try.prog 58 [(.c (.int .u64 v))] [] 1 (.c (.sl 1 0 0 8 1)) [] [(1, (.one ⟨true, true, (.ints .u8 (W.p8 v))⟩))] :=
  Contract0.told (res := (.c (.sl 1 0 0 8 1))) (up := [(1, (.one ⟨true, true, (.ints .u8 [(v % 256), (v / 256 % 256), (v / 65536 % 256), (v / 16777216 % 256), (v / 4294967296 % 256), (v / 1099511627776 % 256), (v / 281474976710656 % 256), (v / 72057594037927936 % 256)])⟩))]) (res' := (.c (.sl 1 0 0 8 1))) (up' := [(1, (.one ⟨true, true, (.ints .u8 (W.p8 v))⟩))]) (by rfl) (by rfl) (Contract0.renum (Contract0.of_frun (res := (.c (.sl 33 0 0 8 1))) (up := [(33, (.one ⟨true, true, (.ints .u8 [(v % 256), (v / 256 % 256), (v / 65536 % 256), (v / 16777216 % 256), (v / 4294967296 % 256), (v / 1099511627776 % 256), (v / 281474976710656 % 256), (v / 72057594037927936 % 256)])⟩))]) (kill := []) (n0 := 1) (m := []) (args := [(.c (.int .u64 v))]) (fn := Try.f58) (c := bodyOf Try.f58) (fuel := 300) (k := kOf Try.prog Try.f58) (outs := [33]) (hs := [(2, ⟨.call [] (.c (.sl 33 0 0 8 1)) [] [(33, (.one ⟨true, true, (.ints .u8 [(v % 256), (v / 256 % 256), (v / 65536 % 256), (v / 16777216 % 256), (v / 4294967296 % 256), (v / 1099511627776 % 256), (v / 281474976710656 % 256), (v / 72057594037927936 % 256)])⟩))], none⟩)])
    (cs := [Contract Try.prog 83 [(.c (.int .u64 v)), (.c (.int .i64 8))] [] 33 (.c (.sl 33 0 0 8 1)) [] [(33, (.one ⟨true, true, (.ints .u8 [(v % 256), (v / 256 % 256), (v / 65536 % 256), (v / 16777216 % 256), (v / 4294967296 % 256), (v / 1099511627776 % 256), (v / 281474976710656 % 256), (v / 72057594037927936 % 256)])⟩))]])
    mixed Try.func58 (by kernel_rfl) (by kernel_rfl) (by kernel_rfl) (by kernel_rfl) (by kernel_rfl) ⟨Contract0.in1 (put8 v) [] [none, none] [(1, 33)] [] (by kernel_rfl), trivial⟩) [] [] [(33, 1)] [] (by kernel_rfl) (by kernel_rfl) (by kernel_rfl) (by kernel_rfl) (by kernel_rfl))
theorem rot (a k : Int) :
    PureF Try.prog 98 [(.c (.int .u32 a)), (.c (.int .i64 k))] (.c (.int .u32 (bOr IntKind.u32 (a * 2 ^ min (Int.toNat (bAnd IntKind.u64 (k % 18446744073709551616) 31)) 32 % 4294967296) (a / 2 ^ min (Int.toNat ((32 - bAnd IntKind.u64 (k % 18446744073709551616) 31) % 18446744073709551616)) 32)))) :=
  Contract0.fr 300 [(11, ⟨.ask, none⟩)] [] [((0 : Int) ≤ ((32 : Int) - bAnd IntKind.u64 (k % (18446744073709551616 : Int)) (31 : Int)) % (18446744073709551616 : Int))] mixed Try.func98 (by kernel_rfl) ⟨(by omega), trivial⟩
theorem quarter (a b c d x0 x2 x4 x6 x8 x10 x12 x14 : Int)
    (h1 : (bXor IntKind.u32 d ((a + b) % 4294967296)) = x0)
    (h3 : (bOr IntKind.u32 (x0 * 65536 % 4294967296) (x0 / 65536)) = x2)
    (h5 : (bXor IntKind.u32 b ((c + x2) % 4294967296)) = x4)
    (h7 : (bOr IntKind.u32 (x4 * 4096 % 4294967296) (x4 / 1048576)) = x6)
    (h9 : (((a + b) % 4294967296 + x6) % 4294967296) = x8)
    (h11 : (bOr IntKind.u32 (bXor IntKind.u32 x2 x8 * 256 % 4294967296) (bXor IntKind.u32 x2 x8 / 16777216)) = x10)
    (h13 : (((c + x2) % 4294967296 + x10) % 4294967296) = x12)
    (h15 : (bOr IntKind.u32 (bXor IntKind.u32 x6 x12 * 128 % 4294967296) (bXor IntKind.u32 x6 x12 / 33554432)) = x14) :
    PureF Try.prog 107 [(.c (.int .u32 a)), (.c (.int .u32 b)), (.c (.int .u32 c)), (.c (.int .u32 d))] (.tup [(.c (.int .u32 x8)), (.c (.int .u32 x14)), (.c (.int .u32 x12)), (.c (.int .u32 x10))]) :=
  Contract0.fr 300 [(10, ⟨.auto, some (.c (.int .u32 x0))⟩), (11, ⟨.call [] (.c (.int .u32 (bOr IntKind.u32 (x0 * 65536 % 4294967296) (x0 / 65536)))) [] [], none⟩), (12, ⟨.auto, some (.c (.int .u32 x2))⟩), (19, ⟨.auto, some (.c (.int .u32 x4))⟩), (20, ⟨.call [] (.c (.int .u32 (bOr IntKind.u32 (x4 * 4096 % 4294967296) (x4 / 1048576)))) [] [], none⟩), (21, ⟨.auto, some (.c (.int .u32 x6))⟩), (24, ⟨.auto, some (.c (.int .u32 x8))⟩), (29, ⟨.call [] (.c (.int .u32 (bOr IntKind.u32 (bXor IntKind.u32 x2 x8 * 256 % 4294967296) (bXor IntKind.u32 x2 x8 / 16777216)))) [] [], none⟩), (30, ⟨.auto, some (.c (.int .u32 x10))⟩), (33, ⟨.auto, some (.c (.int .u32 x12))⟩), (38, ⟨.call [] (.c (.int .u32 (bOr IntKind.u32 (bXor IntKind.u32 x6 x12 * 128 % 4294967296) (bXor IntKind.u32 x6 x12 / 33554432)))) [] [], none⟩), (39, ⟨.auto, some (.c (.int .u32 x14))⟩)] [] [EI .u32 (bOr IntKind.u32 (bXor IntKind.u32 x6 x12 * 128 % 4294967296) (bXor IntKind.u32 x6 x12 / 33554432)) x14,
      Contract Try.prog 98 [(.c (.int .u32 (bXor IntKind.u32 x6 x12))), (.c (.int .i64 7))] [] 609 (.c (.int .u32 (bOr IntKind.u32 (bXor IntKind.u32 x6 x12 * 128 % 4294967296) (bXor IntKind.u32 x6 x12 / 33554432)))) [] [],
      EI .u32 (((c + x2) % 4294967296 + x10) % 4294967296) x12,
      EI .u32 (bOr IntKind.u32 (bXor IntKind.u32 x2 x8 * 256 % 4294967296) (bXor IntKind.u32 x2 x8 / 16777216)) x10,
      Contract Try.prog 98 [(.c (.int .u32 (bXor IntKind.u32 x2 x8))), (.c (.int .i64 8))] [] 465 (.c (.int .u32 (bOr IntKind.u32 (bXor IntKind.u32 x2 x8 * 256 % 4294967296) (bXor IntKind.u32 x2 x8 / 16777216)))) [] [],
      EI .u32 (((a + b) % 4294967296 + x6) % 4294967296) x8,
      EI .u32 (bOr IntKind.u32 (x4 * 4096 % 4294967296) (x4 / 1048576)) x6,
      Contract Try.prog 98 [(.c (.int .u32 x4)), (.c (.int .i64 12))] [] 321 (.c (.int .u32 (bOr IntKind.u32 (x4 * 4096 % 4294967296) (x4 / 1048576)))) [] [],
      EI .u32 (bXor IntKind.u32 b ((c + x2) % 4294967296)) x4,
      EI .u32 (bOr IntKind.u32 (x0 * 65536 % 4294967296) (x0 / 65536)) x2,
      Contract Try.prog 98 [(.c (.int .u32 x0)), (.c (.int .i64 16))] [] 177 (.c (.int .u32 (bOr IntKind.u32 (x0 * 65536 % 4294967296) (x0 / 65536)))) [] [],
      EI .u32 (bXor IntKind.u32 d ((a + b) % 4294967296)) x0] mixed Try.func107 (by kernel_rfl) ⟨.mk h15, Contract0.in1 (rot (bXor IntKind.u32 x6 x12) 7) [] [none, none] [] [] (by kernel_rfl), .mk h13, .mk h11, Contract0.in1 (rot (bXor IntKind.u32 x2 x8) 8) [] [none, none] [] [] (by kernel_rfl), .mk h9, .mk h7, Contract0.in1 (rot x4 12) [] [none, none] [] [] (by kernel_rfl), .mk h5, .mk h3, Contract0.in1 (rot x0 16) [] [none, none] [] [] (by kernel_rfl), .mk h1, trivial⟩
end Go.Proofs.Ytmfnldkiaodkpaa.Vm

namespace Go.Proofs.Ytmfnldkiaodkpaa.Vm
open Go Go.Proofs Go.Proofs.Ytmfnldkiaodkpaa
theorem xor_loop (a b : List Int) (o n p m : Nat) (ha : o + n ≤ a.length) (hb : p + m ≤ b.length) (hn : n ≤ 4294967296) :
    CodeOk Try.prog 32 179 (kAt (kOf Try.prog Try.f101) [true, true, false, true, false]) (LX0 a b o n p m) (.exit 0) (LXI a b o n p m (min n m) (W.xor (List.take n (List.drop o a)) (List.take m (List.drop p b)))) := by
  have hX : (W.xor (List.take n (List.drop o a)) (List.take m (List.drop p b))).length = min n m := by rw [xor_len, seg_len ha, seg_len hb]
  refine LX_by (fun x : Nat × List Int => LXI a b o n p m x.1 x.2) (fun x => x.1 ≤ min n m ∧ x.2 = (W.xor (List.take n (List.drop o a)) (List.take m (List.drop p b))).take x.1 ++ List.replicate (min n m - x.1) 0) (fun x => min n m - x.1) (by simp) ?_ (0, List.replicate (min n m) 0) ⟨Nat.zero_le _, by simp⟩
  rintro ⟨i, l⟩ ⟨hi, hl⟩
  dsimp only at hi hl ⊢
  have hll : l.length = min n m := by rw [hl]; simp [hX]; omega
  by_cases h : i < min n m
  · left
    refine ⟨(i + 1, _), ⟨h, ?_⟩, by dsimp only; omega, LX_rt a b o n p m i l ha hb hn hi hll (by omega)⟩
    dsimp only
    rw [hl]
    refine fill_step hX h ?_
    rw [xor_getD (by rw [seg_len ha]; omega) (by rw [seg_len hb]; omega), seg_getD (by omega), seg_getD (by omega)]
  · right
    have e : i = min n m := by omega
    have el : l = W.xor (List.take n (List.drop o a)) (List.take m (List.drop p b)) := by
      rw [hl, e]; simp [← hX]
    have run := LX_xf a b o n p m i l ha hb hn hi hll (by omega)
    rw [e, el] at run
    rw [e, el]; exact run
theorem odd_zero {a b : List Int} (ha : W.bytes a) (hb : W.bytes b) (he : a.length = b.length) : ∀ i, i ≤ a.length → (0 ≤ W.oddF a b i ∧ W.oddF a b i < 256) ∧ (W.oddF a b i = 0 ↔ ∀ j, j < i → a.getD j 0 = b.getD j 0)
  | 0, _ => by simp [W.oddF]
  | i + 1, h => by
    obtain ⟨h1, h2⟩ := odd_zero ha hb he i (by omega)
    have p1 : 0 ≤ a.getD i 0 ∧ a.getD i 0 < 256 := by
      rw [List.getD_eq_getElem?_getD, List.getElem?_eq_getElem (show i < a.length by omega)]; exact ha _ (List.getElem_mem _)
    have p2 : 0 ≤ b.getD i 0 ∧ b.getD i 0 < 256 := by
      rw [List.getD_eq_getElem?_getD, List.getElem?_eq_getElem (show i < b.length by omega)]; exact hb _ (List.getElem_mem _)
    have hx := bXor8 p1.1 p1.2 p2.1 p2.2
    have hlt : (a.getD i 0).toNat ^^^ (b.getD i 0).toNat < 2 ^ 8 := Nat.xor_lt_two_pow (by omega) (by omega)
    have hz : bXor IntKind.u8 (a.getD i 0) (b.getD i 0) = 0 ↔ a.getD i 0 = b.getD i 0 := by
      rw [hx]
      constructor
      · intro h0
        have : (a.getD i 0).toNat ^^^ (b.getD i 0).toNat = 0 := by exact_mod_cast h0
        have e : (a.getD i 0).toNat = (b.getD i 0).toNat := by
          have q : ((a.getD i 0).toNat ^^^ (b.getD i 0).toNat) ^^^ (b.getD i 0).toNat = (a.getD i 0).toNat := by rw [Nat.xor_assoc, Nat.xor_self, Nat.xor_zero]
          rw [this, Nat.zero_xor] at q; exact q.symm
        omega
      · intro h0; rw [h0, Nat.xor_self]; rfl
    obtain ⟨q1, q2, q3⟩ := or8_zero h1.1 h1.2 (b := bXor IntKind.u8 (a.getD i 0) (b.getD i 0)) (by rw [hx]; omega) (by rw [hx]; omega)
    refine ⟨⟨q1, q2⟩, ?_⟩
    show bOr IntKind.u8 (W.oddF a b i) (bXor IntKind.u8 (a.getD i 0) (b.getD i 0)) = 0 ↔ _
    rw [q3, h2, hz]
    constructor
    · rintro ⟨k1, k2⟩ j hj
      by_cases hji : j = i
      · subst hji; exact k2
      · exact k1 j (by omega)
    · intro k; exact ⟨fun j hj => k j (by omega), k i (by omega)⟩
theorem getD_ext {a b : List Int} (h : a.length = b.length) (he : ∀ j, j < a.length → a.getD j 0 = b.getD j 0) : a = b := by
  refine List.ext_getElem h fun j h1 h2 => ?_
  have := he j h1
  simpa [List.getD_eq_getElem?_getD, List.getElem?_eq_getElem h1, List.getElem?_eq_getElem h2] using this
theorem same_loop (a b : List Int) (o n p : Nat) (ha : o + n ≤ a.length) (hb : p + n ≤ b.length) (hn : n ≤ 4294967296) :
    CodeOk Try.prog 31 163 (kAt (kOf Try.prog Try.f93) [true, true, true, false, true, false]) (LS0 a b o n p n) (.exit 0) (LSI a b o n p n (W.oddF (List.take n (List.drop o a)) (List.take n (List.drop p b)) n) n) := by
  refine LS_by (fun x : Nat => LSI a b o n p n (W.oddF (List.take n (List.drop o a)) (List.take n (List.drop p b)) x) x) (fun x => x ≤ n) (fun x => n - x) (by simp) ?_ 0 (Nat.zero_le _)
  intro i hi
  by_cases h : i < n
  · left
    refine ⟨i + 1, h, by omega, ?_⟩
    have run := LS_rt a b o n p n (W.oddF (List.take n (List.drop o a)) (List.take n (List.drop p b)) i) i ha hb hn rfl hi (by omega)
    have e : W.oddF (List.take n (List.drop o a)) (List.take n (List.drop p b)) (i + 1) = bOr .u8 (W.oddF (List.take n (List.drop o a)) (List.take n (List.drop p b)) i) (bXor .u8 (a.getD (o + i) 0) (b.getD (p + i) 0)) := by
      show bOr .u8 _ (bXor .u8 _ _) = _
      rw [seg_getD h, seg_getD h]
    rw [e]; exact run
  · right
    have e : i = n := by omega
    have run := LS_xf a b o n p n (W.oddF (List.take n (List.drop o a)) (List.take n (List.drop p b)) i) i ha hb hn rfl hi (by omega)
    rw [e] at run ⊢
    exact run
theorem same_val {a b : List Int} (ha : W.bytes a) (hb : W.bytes b) (he : a.length = b.length) {n : Nat} (hn : a.length = n) : (W.oddF a b n == 0) = decide (a = b) := by
  have h := (odd_zero ha hb he n (by omega)).2
  by_cases hab : a = b
  · rw [decide_eq_true hab]; exact beq_t (h.2 fun j _ => by rw [hab])
  · rw [decide_eq_false hab]; exact beq_f fun h0 => hab (getD_ext he fun j hj => h.1 h0 j (by omega))
theorem quarter_ok (a b c d : Int) : PureF Try.prog 107 [(.c (.int .u32 a)), (.c (.int .u32 b)), (.c (.int .u32 c)), (.c (.int .u32 d))] (.tup [(.c (.int .u32 (W.qa a b c d))), (.c (.int .u32 (W.qb a b c d))), (.c (.int .u32 (W.qc a b c d))), (.c (.int .u32 (W.qd a b c d)))]) :=
  quarter a b c d _ _ _ _ _ _ _ _ rfl rfl rfl rfl rfl rfl rfl rfl
end Go.Proofs.Ytmfnldkiaodkpaa.Vm
