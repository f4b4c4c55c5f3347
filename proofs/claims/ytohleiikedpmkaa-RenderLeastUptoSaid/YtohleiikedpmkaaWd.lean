/- What functions of the program come to: parts of the walk (Wd). -/
import Derived.Test.YtohleiikedpmkaaVmb
import Derived.Test.YtohleiikedpmkaaVmc
import Derived.Laws.Strings
import Derived.KernelRfl
import Derived.Test.YtohleiikedpmkaaProg
set_option linter.unusedSimpArgs false
set_option linter.unusedVariables false
namespace Go.Proofs.Ytohleiikedpmkaa.Vm
end Go.Proofs.Ytohleiikedpmkaa.Vm

namespace Go.Proofs.Ytohleiikedpmkaa.W
structure El where
  a0 : Int
  a1 : Int
  a2 : Int
  a3 : Int
  a4 : Int
end Go.Proofs.Ytohleiikedpmkaa.W

namespace Go.Proofs.Ytohleiikedpmkaa.W
open Go Go.Proofs.Ytohleiikedpmkaa.Vm
def get4 (l : List Int) (o : Nat) : Int := bOr .u64 (bOr .u64 (bOr .u64 (bOr .u64 0 (List.getD l o 0 % 18446744073709551616)) (List.getD l (o + 1) 0 % 18446744073709551616 * 256 % 18446744073709551616)) (List.getD l (o + 2) 0 % 18446744073709551616 * 65536 % 18446744073709551616)) (List.getD l (o + 3) 0 % 18446744073709551616 * 16777216 % 18446744073709551616)
def w32 (l : List Int) (o : Nat) : Int := get4 l o % 4294967296
def p4 (v : Int) : List Int := [v % 256, v / 256 % 256, v / 65536 % 256, v / 16777216 % 256]
def xor (a b : List Int) : List Int := List.zipWith (bXor .u8) a b
def bytes (l : List Int) : Prop := ∀ x ∈ l, 0 ≤ x ∧ x < 256
def qr (a b c d : Int) : Int × Int × Int × Int :=
  let x0 := bXor .u32 d ((a + b) % 4294967296)
  let x2 := bOr .u32 (x0 * 65536 % 4294967296) (x0 / 65536)
  let x4 := bXor .u32 b ((c + x2) % 4294967296)
  let x6 := bOr .u32 (x4 * 4096 % 4294967296) (x4 / 1048576)
  let x8 := ((a + b) % 4294967296 + x6) % 4294967296
  let x10 := bOr .u32 (bXor .u32 x2 x8 * 256 % 4294967296) (bXor .u32 x2 x8 / 16777216)
  let x12 := ((c + x2) % 4294967296 + x10) % 4294967296
  let x14 := bOr .u32 (bXor .u32 x6 x12 * 128 % 4294967296) (bXor .u32 x6 x12 / 33554432)
  (x8, x14, x12, x10)
def qa (a b c d : Int) : Int := (qr a b c d).1
def qb (a b c d : Int) : Int := (qr a b c d).2.1
def qc (a b c d : Int) : Int := (qr a b c d).2.2.1
def qd (a b c d : Int) : Int := (qr a b c d).2.2.2
def qrl (l : List Int) (a b c d : Nat) : List Int :=
  (((l.set a (qa (l.getD a 0) (l.getD b 0) (l.getD c 0) (l.getD d 0))).set b (qb (l.getD a 0) (l.getD b 0) (l.getD c 0) (l.getD d 0))).set c (qc (l.getD a 0) (l.getD b 0) (l.getD c 0) (l.getD d 0))).set d (qd (l.getD a 0) (l.getD b 0) (l.getD c 0) (l.getD d 0))
def dround (l : List Int) : List Int :=
  qrl (qrl (qrl (qrl (qrl (qrl (qrl (qrl l 0 4 8 12) 1 5 9 13) 2 6 10 14) 3 7 11 15) 0 5 10 15) 1 6 11 12) 2 7 8 13) 3 4 9 14
def rounds (l : List Int) : Nat → List Int
  | 0 => l
  | n + 1 => dround (rounds l n)
def words (k : List Int) (c : Int) (nn : List Int) : List Int := [1634760805, 857760878, 2036477234, 1797285236, w32 k 0, w32 k 4, w32 k 8, w32 k 12, w32 k 16, w32 k 20, w32 k 24, w32 k 28, c, w32 nn 0, w32 nn 4, w32 nn 8]
def flat16 (f : Nat → Int) : List Int := p4 (f 0) ++ (p4 (f 1) ++ (p4 (f 2) ++ (p4 (f 3) ++ (p4 (f 4) ++ (p4 (f 5) ++ (p4 (f 6) ++ (p4 (f 7) ++ (p4 (f 8) ++ (p4 (f 9) ++ (p4 (f 10) ++ (p4 (f 11) ++ (p4 (f 12) ++ (p4 (f 13) ++ (p4 (f 14) ++ p4 (f 15)))))))))))))))
def block (k : List Int) (c : Int) (nn : List Int) : List Int := flat16 fun i => ((rounds (words k c nn) 10).getD i 0 + (words k c nn).getD i 0) % 4294967296
def apply (k : List Int) (c : Int) (nn t : List Int) : List Int := (List.range t.length).map fun i => bXor .u8 (t.getD i 0) ((block k ((c + (i / 64 : Nat)) % 4294967296) nn).getD (i % 64) 0)
end Go.Proofs.Ytohleiikedpmkaa.W
namespace Go.Proofs.Ytohleiikedpmkaa.Vm
open Go
theorem seg_len {l : List Int} {o n : Nat} (h : o + n ≤ l.length) : (List.take n (List.drop o l)).length = n := by
  simp only [List.length_take, List.length_drop]; omega
end Go.Proofs.Ytohleiikedpmkaa.Vm

namespace Go.Proofs.Ytohleiikedpmkaa.Vm
open Go Go.Proofs Go.Proofs.Ytohleiikedpmkaa
set_option maxRecDepth 100000
theorem mixed : Try.prog.follows .mixedOrders = true := by kernel_rfl
end Go.Proofs.Ytohleiikedpmkaa.Vm
