/- What functions of the program come to: parts of the walk (Oa). -/
import Derived.Test.YtmfnldkiaodkpaaVmc
import Derived.Laws.Strings
import Derived.Test.YtmfnldkiaodkpaaPw
import Derived.KernelRfl
import Derived.Test.YtmfnldkiaodkpaaProg
import Derived.Test.YtmfnldkiaodkpaaVmb
set_option linter.unusedSimpArgs false
set_option linter.unusedVariables false
/- Words for rows of bytes. -/
namespace Go.Proofs.Ytmfnldkiaodkpaa.W
open Go Go.Proofs.Ytmfnldkiaodkpaa.Vm
/-- Four bytes as the program reads them. -/
def get4 (l : List Int) (o : Nat) : Int := bOr .u64 (bOr .u64 (bOr .u64 (bOr .u64 0 (List.getD l o 0 % 18446744073709551616)) (List.getD l (o + 1) 0 % 18446744073709551616 * 256 % 18446744073709551616)) (List.getD l (o + 2) 0 % 18446744073709551616 * 65536 % 18446744073709551616)) (List.getD l (o + 3) 0 % 18446744073709551616 * 16777216 % 18446744073709551616)
def w32 (l : List Int) (o : Nat) : Int := get4 l o % 4294967296
def p4 (v : Int) : List Int := [v % 256, v / 256 % 256, v / 65536 % 256, v / 16777216 % 256]
def p8 (v : Int) : List Int := [v % 256, v / 256 % 256, v / 65536 % 256, v / 16777216 % 256, v / 4294967296 % 256, v / 1099511627776 % 256, v / 281474976710656 % 256, v / 72057594037927936 % 256]
def xor (a b : List Int) : List Int := List.zipWith (bXor .u8) a b
/-- Bytes. -/
def bytes (l : List Int) : Prop := ∀ x ∈ l, 0 ≤ x ∧ x < 256
def qr (a b c d : Int) : Int × Int × Int × Int :=
  let x0 := bXor .u32 d ((a + b) % 4294967296)
  let x2 := bOr .u32 (x0 * 65536 % 4294967296) (x0 / 65536)
  let x4 := bXor .u32 b ((c + x2) % 4294967296)
  let x6 := bOr .u32 (x4 * 4096 % 4294967296) (x4 / 1048576)
  let x8 := ((a + b) % 4294967296 + x6) % 4294967296
  let x10 := bOr .u32 (bXor .u32 x2 x8 * 256 % 4294967296) (bXor .u32 x2 x8 / 16777216)
  let x12 := ((c + x2) % 4294967296 + x10) % 4294967296
  let x14 := bOr .u32 (bXor .u32 x6 x12 * 128 % 4294967296) (bXor .u32 x6 x12 / 33554432)
  (x8, x14, x12, x10)
def qa (a b c d : Int) : Int := (qr a b c d).1
def qb (a b c d : Int) : Int := (qr a b c d).2.1
def qc (a b c d : Int) : Int := (qr a b c d).2.2.1
def qd (a b c d : Int) : Int := (qr a b c d).2.2.2
def qrl (l : List Int) (a b c d : Nat) : List Int :=
  (((l.set a (qa (l.getD a 0) (l.getD b 0) (l.getD c 0) (l.getD d 0))).set b (qb (l.getD a 0) (l.getD b 0) (l.getD c 0) (l.getD d 0))).set c (qc (l.getD a 0) (l.getD b 0) (l.getD c 0) (l.getD d 0))).set d (qd (l.getD a 0) (l.getD b 0) (l.getD c 0) (l.getD d 0))
/-- A double round. -/
def dround (l : List Int) : List Int :=
  qrl (qrl (qrl (qrl (qrl (qrl (qrl (qrl l 0 4 8 12) 1 5 9 13) 2 6 10 14) 3 7 11 15) 0 5 10 15) 1 6 11 12) 2 7 8 13) 3 4 9 14
def rounds (l : List Int) : Nat → List Int
  | 0 => l
  | n + 1 => dround (rounds l n)
def words (k : List Int) (c : Int) (nn : List Int) : List Int := [1634760805, 857760878, 2036477234, 1797285236, w32 k 0, w32 k 4, w32 k 8, w32 k 12, w32 k 16, w32 k 20, w32 k 24, w32 k 28, c, w32 nn 0, w32 nn 4, w32 nn 8]
def flat16 (f : Nat → Int) : List Int := p4 (f 0) ++ (p4 (f 1) ++ (p4 (f 2) ++ (p4 (f 3) ++ (p4 (f 4) ++ (p4 (f 5) ++ (p4 (f 6) ++ (p4 (f 7) ++ (p4 (f 8) ++ (p4 (f 9) ++ (p4 (f 10) ++ (p4 (f 11) ++ (p4 (f 12) ++ (p4 (f 13) ++ (p4 (f 14) ++ p4 (f 15)))))))))))))))
def block (k : List Int) (c : Int) (nn : List Int) : List Int := flat16 fun i => ((rounds (words k c nn) 10).getD i 0 + (words k c nn).getD i 0) % 4294967296
/-- A text with the stream: byte by byte. -/
def apply (k : List Int) (c : Int) (nn t : List Int) : List Int := (List.range t.length).map fun i => bXor .u8 (t.getD i 0) ((block k ((c + (i / 64 : Nat)) % 4294967296) nn).getD (i % 64) 0)
end Go.Proofs.Ytmfnldkiaodkpaa.W
namespace Go.Proofs.Ytmfnldkiaodkpaa.Vm
open Go
theorem seg_len {l : List Int} {o n : Nat} (h : o + n ≤ l.length) : (List.take n (List.drop o l)).length = n := by
  simp only [List.length_take, List.length_drop]; omega
theorem fill_step {X : List Int} {i k : Nat} (hX : X.length = k) (hi : i < k) {v : Int} (hv : v = X.getD i 0) : splice (X.take i ++ List.replicate (k - i) 0) i [v] = X.take (i + 1) ++ List.replicate (k - (i + 1)) 0 := by
  have hl : (X.take i).length = i := by simp; omega
  have e : k - i = (k - (i + 1)) + 1 := by omega
  show ((X.take i ++ List.replicate (k - i) 0).set i v) = _
  rw [List.set_append_right _ _ (by omega), hl, Nat.sub_self, e, List.replicate_succ, List.set_cons_zero, List.take_succ_eq_append_getElem (by omega), List.append_assoc]
  subst hv
  simp [List.getD_eq_getElem?_getD, List.getElem?_eq_getElem (show i < X.length by omega)]
/-- The string of a row of bytes. -/
theorem strEq_t {a b : List Int} (h : a = b) : ((⟨(a.map fun n => UInt8.ofNat n.toNat).toArray⟩ : ByteArray).toList == (⟨(b.map fun n => UInt8.ofNat n.toNat).toArray⟩ : ByteArray).toList) = true := by
  subst h; exact beq_self_eq_true _
end Go.Proofs.Ytmfnldkiaodkpaa.Vm

namespace Go.Proofs.Ytmfnldkiaodkpaa.Vm
open Go Go.Proofs Go.Proofs.Ytmfnldkiaodkpaa
set_option maxRecDepth 100000
theorem get4 (l : List Int) (o n : Nat)
    (hl : o + n ≤ l.length)
    (hn : 4 ≤ n) :
    Contract0 Try.prog 104 [(.c (.sl 1 0 o n 1)), (.c (.int .i64 4))] [(1, (.one ⟨false, false, (.ints .u8 l)⟩))] 2 (.tup [(.c (.int .u64 (W.get4 l o))), (.c (.bool true))]) [] [] :=
  Contract0.told (res := (.tup [(.c (.int .u64 (bOr IntKind.u64 (bOr IntKind.u64 (bOr IntKind.u64 (bOr IntKind.u64 0 (List.getD l o 0 % 18446744073709551616)) (List.getD l (o + 1) 0 % 18446744073709551616 * 256 % 18446744073709551616)) (List.getD l (o + 2) 0 % 18446744073709551616 * 65536 % 18446744073709551616)) (List.getD l (o + 3) 0 % 18446744073709551616 * 16777216 % 18446744073709551616)))), (.c (.bool (true)))])) (up := []) (res' := (.tup [(.c (.int .u64 (W.get4 l o))), (.c (.bool true))])) (up' := []) (by rfl) (by rfl) (Contract0.of_frun (res := (.tup [(.c (.int .u64 (bOr IntKind.u64 (bOr IntKind.u64 (bOr IntKind.u64 (bOr IntKind.u64 0 (List.getD l o 0 % 18446744073709551616)) (List.getD l (o + 1) 0 % 18446744073709551616 * 256 % 18446744073709551616)) (List.getD l (o + 2) 0 % 18446744073709551616 * 65536 % 18446744073709551616)) (List.getD l (o + 3) 0 % 18446744073709551616 * 16777216 % 18446744073709551616)))), (.c (.bool (true)))])) (up := []) (kill := []) (n0 := 2) (m := [(1, (.one ⟨false, false, (.ints .u8 l)⟩))]) (args := [(.c (.sl 1 0 o n 1)), (.c (.int .i64 4))]) (fn := Try.f104) (c := bodyOf Try.f104) (fuel := 300) (k := kOf Try.prog Try.f104) (outs := []) (hs := [(5, ⟨.auto, some (.c (.bool (false)))⟩), (17, ⟨.ask, some (.c (.ptr 1 0 o))⟩), (18, ⟨.ask, none⟩), (22, ⟨.auto, some (.c (.int .u64 (List.getD l o 0 % 18446744073709551616)))⟩), (34, ⟨.ask, some (.c (.ptr 1 0 (o + 1)))⟩), (35, ⟨.ask, none⟩), (51, ⟨.ask, some (.c (.ptr 1 0 (o + 2)))⟩), (52, ⟨.ask, none⟩), (68, ⟨.ask, some (.c (.ptr 1 0 (o + 3)))⟩), (69, ⟨.ask, none⟩)])
    (cs := [(o + (3 : Nat) + (1 : Nat) ≤ List.length l),
      ((.c (.ptr 1 0 (addO o 3))) : V) = (.c (.ptr 1 0 (o + 3))),
      ((0 : Int) ≤ (3 : Int) ∧ (3 : Int) < (↑n : Int)),
      (o + (2 : Nat) + (1 : Nat) ≤ List.length l),
      ((.c (.ptr 1 0 (addO o 2))) : V) = (.c (.ptr 1 0 (o + 2))),
      ((0 : Int) ≤ (2 : Int) ∧ (2 : Int) < (↑n : Int)),
      (o + (1 : Nat) + (1 : Nat) ≤ List.length l),
      ((.c (.ptr 1 0 (addO o 1))) : V) = (.c (.ptr 1 0 (o + 1))),
      ((0 : Int) ≤ (1 : Int) ∧ (1 : Int) < (↑n : Int)),
      EI .u64 (List.getD l o 0 % 18446744073709551616 * 1 % 18446744073709551616) (List.getD l o 0 % 18446744073709551616),
      (o + (1 : Nat) ≤ List.length l),
      ((.c (.ptr 1 0 (addO o 0))) : V) = (.c (.ptr 1 0 o)),
      ((0 : Int) ≤ (0 : Int) ∧ (0 : Int) < (↑n : Int)),
      EB (decide ((↑n : Int) < 4)) false])
    mixed Try.func104 (by kernel_rfl) (by kernel_rfl) (by kernel_rfl) (by kernel_rfl) (by kernel_rfl) ⟨(by omega), EV.ptr (by simp only [addO_eq, mulE_eq, mulE_one, Int.toNat_natCast, IntKind.wrap_i64, mmin, mmax]), (by omega), (by omega), EV.ptr (by simp only [addO_eq, mulE_eq, mulE_one, Int.toNat_natCast, IntKind.wrap_i64, mmin, mmax]), (by omega), (by omega), EV.ptr (by simp only [addO_eq, mulE_eq, mulE_one, Int.toNat_natCast, IntKind.wrap_i64, mmin, mmax]), (by omega), .mk (by omega), (by omega), EV.ptr (by simp only [addO_eq, mulE_eq, mulE_one, Int.toNat_natCast, IntKind.wrap_i64, mmin, mmax]; omega), (by omega), .mk (decide_eq_false (by omega)), trivial⟩)


theorem Get32 (l : List Int) (o n : Nat)
    (hl : o + n ≤ l.length)
    (hn : 4 ≤ n) :
    Contract0 Try.prog 96 [(.c (.sl 1 0 o n 1))] [(1, (.one ⟨false, false, (.ints .u8 l)⟩))] 2 (.tup [(.c (.int .u32 (W.w32 l o))), (.c (.bool true))]) [] [] :=
  Contract0.told (res := (.tup [(.c (.int .u32 (W.get4 l o % 4294967296))), (.c (.bool (true)))])) (up := []) (res' := (.tup [(.c (.int .u32 (W.w32 l o))), (.c (.bool true))])) (up' := []) (by rfl) (by rfl) (Contract0.of_frun (res := (.tup [(.c (.int .u32 (W.get4 l o % 4294967296))), (.c (.bool (true)))])) (up := []) (kill := []) (n0 := 2) (m := [(1, (.one ⟨false, false, (.ints .u8 l)⟩))]) (args := [(.c (.sl 1 0 o n 1))]) (fn := Try.f96) (c := bodyOf Try.f96) (fuel := 300) (k := kOf Try.prog Try.f96) (outs := []) (hs := [(3, ⟨.call [1] (.tup [(.c (.int .u64 (W.get4 l o))), (.c (.bool (true)))]) [] [], none⟩)])
    (cs := [Contract Try.prog 104 [(.c (.sl 1 0 o n 1)), (.c (.int .i64 4))] [(1, (.one ⟨false, false, (.ints .u8 l)⟩))] 50 (.tup [(.c (.int .u64 (W.get4 l o))), (.c (.bool (true)))]) [] []])
    mixed Try.func96 (by kernel_rfl) (by kernel_rfl) (by kernel_rfl) (by kernel_rfl) (by kernel_rfl) ⟨Contract0.inst (get4 l o n (by omega) (by omega)) [.b 1 1 true []] [none, none] [] [] (by kernel_rfl) (by kernel_rfl) (by kernel_rfl) (by kernel_rfl) (by kernel_rfl), trivial⟩)


end Go.Proofs.Ytmfnldkiaodkpaa.Vm

namespace Go.Proofs.Ytmfnldkiaodkpaa.Vm
open Go Go.Proofs Go.Proofs.Ytmfnldkiaodkpaa
theorem getD_ext {a b : List Int} (h : a.length = b.length) (he : ∀ j, j < a.length → a.getD j 0 = b.getD j 0) : a = b := by
  refine List.ext_getElem h fun j h1 h2 => ?_
  have := he j h1
  simpa [List.getD_eq_getElem?_getD, List.getElem?_eq_getElem h1, List.getElem?_eq_getElem h2] using this
end Go.Proofs.Ytmfnldkiaodkpaa.Vm
