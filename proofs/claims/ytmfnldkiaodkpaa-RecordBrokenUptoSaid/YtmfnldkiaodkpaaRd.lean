/- What functions of the program come to: parts of the walk (Rd). -/
import Derived.Test.YtmfnldkiaodkpaaRc
import Derived.KernelRfl
import Derived.Test.YtmfnldkiaodkpaaProg
set_option linter.unusedSimpArgs false
set_option linter.unusedVariables false
namespace Go.Proofs.Ytmfnldkiaodkpaa
/-- A number of two bytes. -/
def W.be2 (l : List Int) (o : Nat) : Nat := (l.getD o 0 * 256 + l.getD (o + 1) 0).toNat
end Go.Proofs.Ytmfnldkiaodkpaa
namespace Go.Proofs.Ytmfnldkiaodkpaa.Vm
open Go Go.Proofs Go.Proofs.Ytmfnldkiaodkpaa
theorem be2_eq {l : List Int} {o : Nat} (h0 : 0 ≤ List.getD l o 0 ∧ List.getD l o 0 < 256) (h1 : 0 ≤ List.getD l (o + 1) 0 ∧ List.getD l (o + 1) 0 < 256) :
    bOr IntKind.i64 (List.getD l o 0 * 256) (List.getD l (o + 1) 0) = ((W.be2 l o : Nat) : Int) := by
  unfold W.be2
  generalize List.getD l o 0 = a at *
  generalize List.getD l (o + 1) 0 = b at *
  obtain ⟨x, rfl⟩ : ∃ x : Nat, a = x := ⟨a.toNat, by omega⟩
  obtain ⟨y, rfl⟩ : ∃ y : Nat, b = y := ⟨b.toNat, by omega⟩
  have hx : x < 256 := by omega
  have hy : y < 256 := by omega
  have e : ((x : Int) * 256 + (y : Int)).toNat = x * 256 + y := by omega
  rw [e]
  have key : (BitVec.ofInt 64 ((x : Int) * 256) ||| BitVec.ofInt 64 (y : Int)).toNat = x * 256 + y := by
    have q1 : BitVec.ofInt 64 ((x : Int) * 256) = BitVec.ofNat 64 (x * 256) := by
      have : ((x : Int) * 256) = ((x * 256 : Nat) : Int) := by omega
      rw [this]; exact BitVec.ofInt_natCast 64 (x * 256)
    have q2 : BitVec.ofInt 64 (y : Int) = BitVec.ofNat 64 y := BitVec.ofInt_natCast 64 y
    rw [q1, q2, BitVec.toNat_or, BitVec.toNat_ofNat, BitVec.toNat_ofNat, Nat.mod_eq_of_lt (by omega), Nat.mod_eq_of_lt (by omega)]
    have q3 : x * 256 = x <<< 8 := by rw [Nat.shiftLeft_eq]
    rw [q3, ← Nat.shiftLeft_add_eq_or_of_lt (by omega : y < 2 ^ 8)]
  show IntKind.i64.wrap ((BitVec.ofInt 64 ((x : Int) * 256) ||| BitVec.ofInt 64 (y : Int)).toNat : Int) = _
  rw [key, IntKind.wrap_i64]
  simp [w64]
  omega
theorem be2_lt {l : List Int} {o : Nat} (h0 : 0 ≤ List.getD l o 0 ∧ List.getD l o 0 < 256) (h1 : 0 ≤ List.getD l (o + 1) 0 ∧ List.getD l (o + 1) 0 < 256) : W.be2 l o < 65536 := by
  unfold W.be2; omega
theorem getD_byte {l : List Int} (h : W.bytes l) (i : Nat) : 0 ≤ List.getD l i 0 ∧ List.getD l i 0 < 256 := by
  by_cases hi : i < l.length
  · rw [List.getD_eq_getElem?_getD, List.getElem?_eq_getElem hi]
    exact h _ (List.getElem_mem hi)
  · rw [List.getD_eq_getElem?_getD, List.getElem?_eq_none (by omega)]
    exact ⟨by decide, by decide⟩
theorem bucket_n0 (n : Nat) (h : 3966 < n) (h' : n < 1000000) : PureF Try.prog 94 [(.c (.int .i64 (n : Int)))] (.tup [(.c (.int .i64 0)), (.c (.bool false))]) := bucket_n n (by omega) (by omega)
end Go.Proofs.Ytmfnldkiaodkpaa.Vm

namespace Go.Proofs.Ytmfnldkiaodkpaa.Vm
open Go Go.Proofs Go.Proofs.Ytmfnldkiaodkpaa
set_option maxRecDepth 100000
theorem unpad_s (l : List Int) (o n : Nat)
    (hl : o + n ≤ l.length)
    (hs : n ≤ 1073741824)
    (hlb : W.bytes l)
    (b0 : 0 ≤ List.getD l o 0 ∧ List.getD l o 0 < 256)
    (b1 : 0 ≤ List.getD l (o + 1) 0 ∧ List.getD l (o + 1) 0 < 256)
    (hm : bOr IntKind.i64 (List.getD l o 0 * 256) (List.getD l (o + 1) 0) = ((W.be2 l o : Nat) : Int))
    (hm2 : W.be2 l o < 65536)
    (hn : n < 2) :
    Contract0 Try.prog 81 [(.c (.sl 1 0 o n 1))] [(1, (.one ⟨false, false, (.ints .u8 l)⟩))] 2 (.tup [(.c .nils), (.c (.int .i64 5))]) [] [] :=
  Contract0.of_frun (res := (.tup [(.c .nils), (.c (.int .i64 5))])) (up := []) (kill := []) (n0 := 2) (m := [(1, (.one ⟨false, false, (.ints .u8 l)⟩))]) (args := [(.c (.sl 1 0 o n 1))]) (fn := Try.f81) (c := bodyOf Try.f81) (fuel := 300) (k := kOf Try.prog Try.f81) (outs := []) (hs := [(4, ⟨.auto, some (.c (.bool (true)))⟩)])
    (cs := [EB (decide ((↑n : Int) < 2)) true])
    mixed Try.func81 (by kernel_rfl) (by kernel_rfl) (by kernel_rfl) (by kernel_rfl) (by kernel_rfl) ⟨.mk (decide_eq_true (by omega)), trivial⟩


-- unpad_s: 172 ms
theorem unpad_n (l : List Int) (o n : Nat)
    (hl : o + n ≤ l.length)
    (hs : n ≤ 1073741824)
    (hlb : W.bytes l)
    (b0 : 0 ≤ List.getD l o 0 ∧ List.getD l o 0 < 256)
    (b1 : 0 ≤ List.getD l (o + 1) 0 ∧ List.getD l (o + 1) 0 < 256)
    (hm : bOr IntKind.i64 (List.getD l o 0 * 256) (List.getD l (o + 1) 0) = ((W.be2 l o : Nat) : Int))
    (hm2 : W.be2 l o < 65536)
    (hn : 2 ≤ n)
    (hb : 3966 < W.be2 l o) :
    Contract0 Try.prog 81 [(.c (.sl 1 0 o n 1))] [(1, (.one ⟨false, false, (.ints .u8 l)⟩))] 2 (.tup [(.c .nils), (.c (.int .i64 5))]) [] [] :=
  Contract0.of_frun (res := (.tup [(.c .nils), (.c (.int .i64 5))])) (up := []) (kill := []) (n0 := 2) (m := [(1, (.one ⟨false, false, (.ints .u8 l)⟩))]) (args := [(.c (.sl 1 0 o n 1))]) (fn := Try.f81) (c := bodyOf Try.f81) (fuel := 300) (k := kOf Try.prog Try.f81) (outs := []) (hs := [(4, ⟨.auto, some (.c (.bool (false)))⟩), (7, ⟨.ask, some (.c (.ptr 1 0 o))⟩), (8, ⟨.ask, none⟩), (9, ⟨.auto, some (.c (.int .i64 (List.getD l o 0)))⟩), (10, ⟨.auto, some (.c (.int .i64 (List.getD l o 0 * 256)))⟩), (12, ⟨.ask, some (.c (.ptr 1 0 (o + 1)))⟩), (13, ⟨.ask, none⟩), (14, ⟨.auto, some (.c (.int .i64 (List.getD l (o + 1) 0)))⟩), (15, ⟨.auto, some (.c (.int .i64 (↑(W.be2 l o))))⟩), (18, ⟨.call [] (.tup [(.c (.int .i64 0)), (.c (.bool (false)))]) [] [], none⟩)])
    (cs := [Contract Try.prog 94 [(.c (.int .i64 (↑(W.be2 l o))))] [] 274 (.tup [(.c (.int .i64 0)), (.c (.bool (false)))]) [] [],
      EI .i64 (bOr IntKind.i64 (List.getD l o 0 * 256) (List.getD l (o + 1) 0)) ((↑(W.be2 l o) : Int)),
      EI .i64 (IntKind.wrap IntKind.i64 (List.getD l (o + 1) 0)) (List.getD l (o + 1) 0),
      (o + (1 : Nat) + (1 : Nat) ≤ List.length l),
      ((.c (.ptr 1 0 (addO o 1))) : V) = (.c (.ptr 1 0 (o + 1))),
      ((0 : Int) ≤ (1 : Int) ∧ (1 : Int) < (↑n : Int)),
      EI .i64 (IntKind.wrap IntKind.i64 (List.getD l o 0 * 256)) (List.getD l o 0 * 256),
      EI .i64 (IntKind.wrap IntKind.i64 (List.getD l o 0)) (List.getD l o 0),
      (o + (1 : Nat) ≤ List.length l),
      ((.c (.ptr 1 0 (addO o 0))) : V) = (.c (.ptr 1 0 o)),
      ((0 : Int) ≤ (0 : Int) ∧ (0 : Int) < (↑n : Int)),
      EB (decide ((↑n : Int) < 2)) false])
    mixed Try.func81 (by kernel_rfl) (by kernel_rfl) (by kernel_rfl) (by kernel_rfl) (by kernel_rfl) ⟨Contract0.inst (bucket_n ((↑(W.be2 l o) : Int)) (by omega) (by omega)) [] [none] [] [] (by kernel_rfl) (by kernel_rfl) (by kernel_rfl) (by kernel_rfl) (by kernel_rfl), .mk (by omega), .mk (by simp only [addO_eq, mulE_eq, mulE_one, Int.toNat_natCast, IntKind.wrap_i64, mmin, mmax]; omega), (by omega), EV.ptr (by simp only [addO_eq, mulE_eq, mulE_one, Int.toNat_natCast, IntKind.wrap_i64, mmin, mmax]), (by omega), .mk (by simp only [addO_eq, mulE_eq, mulE_one, Int.toNat_natCast, IntKind.wrap_i64, mmin, mmax]; omega), .mk (by simp only [addO_eq, mulE_eq, mulE_one, Int.toNat_natCast, IntKind.wrap_i64, mmin, mmax]; omega), (by omega), EV.ptr (by simp only [addO_eq, mulE_eq, mulE_one, Int.toNat_natCast, IntKind.wrap_i64, mmin, mmax]; omega), (by omega), .mk (decide_eq_false (by omega)), trivial⟩


-- unpad_n: 555 ms
theorem unpad_y_t (l : List Int) (o n : Nat)
    (hl : o + n ≤ l.length)
    (hs : n ≤ 1073741824)
    (hlb : W.bytes l)
    (b0 : 0 ≤ List.getD l o 0 ∧ List.getD l o 0 < 256)
    (b1 : 0 ≤ List.getD l (o + 1) 0 ∧ List.getD l (o + 1) 0 < 256)
    (hm : bOr IntKind.i64 (List.getD l o 0 * 256) (List.getD l (o + 1) 0) = ((W.be2 l o : Nat) : Int))
    (hm2 : W.be2 l o < 65536)
    (hn : 2 ≤ n)
    (hb : W.be2 l o ≤ 3966)
    (hc : W.be2 l o + 2 ≤ W.bkt (W.be2 l o))
    (hd : W.bkt (W.be2 l o) ≤ 3968)
    (h0 : (¬(↑(W.bkt (W.be2 l o)) : Int) = (↑n : Int))) :
    Contract0 Try.prog 81 [(.c (.sl 1 0 o n 1))] [(1, (.one ⟨false, false, (.ints .u8 l)⟩))] 2 (.tup [(.c .nils), (.c (.int .i64 5))]) [] [] :=
  Contract0.of_frun (res := (.tup [(.c .nils), (.c (.int .i64 5))])) (up := []) (kill := []) (n0 := 2) (m := [(1, (.one ⟨false, false, (.ints .u8 l)⟩))]) (args := [(.c (.sl 1 0 o n 1))]) (fn := Try.f81) (c := bodyOf Try.f81) (fuel := 300) (k := kOf Try.prog Try.f81) (outs := []) (hs := [(4, ⟨.auto, some (.c (.bool (false)))⟩), (7, ⟨.ask, some (.c (.ptr 1 0 o))⟩), (8, ⟨.ask, none⟩), (9, ⟨.auto, some (.c (.int .i64 (List.getD l o 0)))⟩), (10, ⟨.auto, some (.c (.int .i64 (List.getD l o 0 * 256)))⟩), (12, ⟨.ask, some (.c (.ptr 1 0 (o + 1)))⟩), (13, ⟨.ask, none⟩), (14, ⟨.auto, some (.c (.int .i64 (List.getD l (o + 1) 0)))⟩), (15, ⟨.auto, some (.c (.int .i64 (↑(W.be2 l o))))⟩), (18, ⟨.call [] (.tup [(.c (.int .i64 (↑(W.bkt (W.be2 l o))))), (.c (.bool (true)))]) [] [], none⟩), (31, ⟨.auto, some (.c (.bool (true)))⟩)])
    (cs := [EB ((↑(W.bkt (W.be2 l o)) : Int) != (↑n : Int)) true,
      Contract Try.prog 94 [(.c (.int .i64 (↑(W.be2 l o))))] [] 274 (.tup [(.c (.int .i64 (↑(W.bkt (W.be2 l o))))), (.c (.bool (true)))]) [] [],
      EI .i64 (bOr IntKind.i64 (List.getD l o 0 * 256) (List.getD l (o + 1) 0)) ((↑(W.be2 l o) : Int)),
      EI .i64 (IntKind.wrap IntKind.i64 (List.getD l (o + 1) 0)) (List.getD l (o + 1) 0),
      (o + (1 : Nat) + (1 : Nat) ≤ List.length l),
      ((.c (.ptr 1 0 (addO o 1))) : V) = (.c (.ptr 1 0 (o + 1))),
      ((0 : Int) ≤ (1 : Int) ∧ (1 : Int) < (↑n : Int)),
      EI .i64 (IntKind.wrap IntKind.i64 (List.getD l o 0 * 256)) (List.getD l o 0 * 256),
      EI .i64 (IntKind.wrap IntKind.i64 (List.getD l o 0)) (List.getD l o 0),
      (o + (1 : Nat) ≤ List.length l),
      ((.c (.ptr 1 0 (addO o 0))) : V) = (.c (.ptr 1 0 o)),
      ((0 : Int) ≤ (0 : Int) ∧ (0 : Int) < (↑n : Int)),
      EB (decide ((↑n : Int) < 2)) false])
    mixed Try.func81 (by kernel_rfl) (by kernel_rfl) (by kernel_rfl) (by kernel_rfl) (by kernel_rfl) ⟨.mk (bne_t h0), Contract0.inst (bucket_y (W.be2 l o) (by omega)) [] [none] [] [] (by kernel_rfl) (by kernel_rfl) (by kernel_rfl) (by kernel_rfl) (by kernel_rfl), .mk (by omega), .mk (by simp only [addO_eq, mulE_eq, mulE_one, Int.toNat_natCast, IntKind.wrap_i64, mmin, mmax]; omega), (by omega), EV.ptr (by simp only [addO_eq, mulE_eq, mulE_one, Int.toNat_natCast, IntKind.wrap_i64, mmin, mmax]), (by omega), .mk (by simp only [addO_eq, mulE_eq, mulE_one, Int.toNat_natCast, IntKind.wrap_i64, mmin, mmax]; omega), .mk (by simp only [addO_eq, mulE_eq, mulE_one, Int.toNat_natCast, IntKind.wrap_i64, mmin, mmax]; omega), (by omega), EV.ptr (by simp only [addO_eq, mulE_eq, mulE_one, Int.toNat_natCast, IntKind.wrap_i64, mmin, mmax]; omega), (by omega), .mk (decide_eq_false (by omega)), trivial⟩

theorem unpad_y_ft (l : List Int) (o n : Nat)
    (hl : o + n ≤ l.length)
    (hs : n ≤ 1073741824)
    (hlb : W.bytes l)
    (b0 : 0 ≤ List.getD l o 0 ∧ List.getD l o 0 < 256)
    (b1 : 0 ≤ List.getD l (o + 1) 0 ∧ List.getD l (o + 1) 0 < 256)
    (hm : bOr IntKind.i64 (List.getD l o 0 * 256) (List.getD l (o + 1) 0) = ((W.be2 l o : Nat) : Int))
    (hm2 : W.be2 l o < 65536)
    (hn : 2 ≤ n)
    (hb : W.be2 l o ≤ 3966)
    (hc : W.be2 l o + 2 ≤ W.bkt (W.be2 l o))
    (hd : W.bkt (W.be2 l o) ≤ 3968)
    (h0 : (¬¬(↑(W.bkt (W.be2 l o)) : Int) = (↑n : Int)))
    (h1 : (List.take (n - ((2 : Nat) + W.be2 l o)) (List.drop (o + ((2 : Nat) + W.be2 l o)) l) = List.take (n - ((2 : Nat) + W.be2 l o)) (List.replicate (n - ((2 : Nat) + W.be2 l o)) (0 : Int)))) :
    Contract0 Try.prog 81 [(.c (.sl 1 0 o n 1))] [(1, (.one ⟨false, false, (.ints .u8 l)⟩))] 2 (.tup [(.c (.sl 2 0 0 (W.be2 l o) 1)), (.c (.int .i64 0))]) [] [(2, (.one ⟨true, false, (.ints .u8 (List.take (W.be2 l o) (List.drop (o + 2) l)))⟩))] :=
  Contract0.renum (Contract0.of_frun (res := (.tup [(.c (.sl 770 0 0 (W.be2 l o) 1)), (.c (.int .i64 0))])) (up := [(770, (.one ⟨true, false, (.ints .u8 (List.take (W.be2 l o) (List.drop (o + 2) l)))⟩))]) (kill := []) (n0 := 2) (m := [(1, (.one ⟨false, false, (.ints .u8 l)⟩))]) (args := [(.c (.sl 1 0 o n 1))]) (fn := Try.f81) (c := bodyOf Try.f81) (fuel := 300) (k := kOf Try.prog Try.f81) (outs := [770]) (hs := [(4, ⟨.auto, some (.c (.bool (false)))⟩), (7, ⟨.ask, some (.c (.ptr 1 0 o))⟩), (8, ⟨.ask, none⟩), (9, ⟨.auto, some (.c (.int .i64 (List.getD l o 0)))⟩), (10, ⟨.auto, some (.c (.int .i64 (List.getD l o 0 * 256)))⟩), (12, ⟨.ask, some (.c (.ptr 1 0 (o + 1)))⟩), (13, ⟨.ask, none⟩), (14, ⟨.auto, some (.c (.int .i64 (List.getD l (o + 1) 0)))⟩), (15, ⟨.auto, some (.c (.int .i64 (↑(W.be2 l o))))⟩), (18, ⟨.call [] (.tup [(.c (.int .i64 (↑(W.bkt (W.be2 l o))))), (.c (.bool (true)))]) [] [], none⟩), (31, ⟨.auto, some (.c (.bool (false)))⟩), (35, ⟨.auto, some (.c (.int .i64 (↑(2 + W.be2 l o))))⟩), (36, ⟨.ask, some (.c (.sl 1 0 (o + 2) (W.be2 l o) 1))⟩), (39, ⟨.auto, some (.c (.int .i64 (↑(2 + W.be2 l o))))⟩), (40, ⟨.ask, some (.c (.sl 1 0 (o + (2 + W.be2 l o)) (n - (2 + W.be2 l o)) 1))⟩), (46, ⟨.ask, none⟩), (47, ⟨.call [1, 706] (.c (.bool (decide (List.take (n - (2 + W.be2 l o)) (List.drop (o + (2 + W.be2 l o)) l) = List.take (n - (2 + W.be2 l o)) (List.replicate (n - (2 + W.be2 l o)) 0))))) [] [], none⟩), (48, ⟨.auto, some (.c (.bool (false)))⟩), (51, ⟨.call [1] (.c (.sl 770 0 0 (W.be2 l o) 1)) [] [(770, (.one ⟨true, false, (.ints .u8 (List.take (W.be2 l o) (List.drop (o + 2) l)))⟩))], none⟩)])
    (cs := [Contract Try.prog 75 [(.c (.sl 1 0 (o + 2) (W.be2 l o) 1))] [(1, (.one ⟨false, false, (.ints .u8 l)⟩))] 770 (.c (.sl 770 0 0 (W.be2 l o) 1)) [] [(770, (.one ⟨true, false, (.ints .u8 (List.take (W.be2 l o) (List.drop (o + 2) l)))⟩))],
      EB (!decide (List.take (n - (2 + W.be2 l o)) (List.drop (o + (2 + W.be2 l o)) l) = List.take (n - (2 + W.be2 l o)) (List.replicate (n - (2 + W.be2 l o)) 0))) false,
      Contract Try.prog 93 [(.c (.sl 1 0 (o + (2 + W.be2 l o)) (n - (2 + W.be2 l o)) 1)), (.c (.sl 706 0 0 (n - (2 + W.be2 l o)) 1))] [(1, (.one ⟨false, false, (.ints .u8 l)⟩)), (706, (.one ⟨true, true, (.ints .u8 (List.replicate (n - (2 + W.be2 l o)) 0))⟩))] 722 (.c (.bool (decide (List.take (n - (2 + W.be2 l o)) (List.drop (o + (2 + W.be2 l o)) l) = List.take (n - (2 + W.be2 l o)) (List.replicate (n - (2 + W.be2 l o)) 0))))) [] [],
      ((0 : Int) ≤ (↑(n - ((2 : Nat) + W.be2 l o)) : Int) ∧ (↑(n - ((2 : Nat) + W.be2 l o)) : Int) ≤ (↑(n - ((2 : Nat) + W.be2 l o)) : Int) ∧ (↑(n - ((2 : Nat) + W.be2 l o)) : Int) ≤ (4294967296 : Int) ∧ (1 : Nat) * (n - ((2 : Nat) + W.be2 l o)) ≤ (4398046511104 : Nat)),
      ((.c (.sl 1 0 (addO o (2 + W.be2 l o)) (Int.toNat (↑n - ↑(2 + W.be2 l o))) 1)) : V) = (.c (.sl 1 0 (o + (2 + W.be2 l o)) (n - (2 + W.be2 l o)) 1)),
      ((0 : Int) ≤ (↑((2 : Nat) + W.be2 l o) : Int) ∧ (↑((2 : Nat) + W.be2 l o) : Int) ≤ (↑n : Int) ∧ (↑n : Int) ≤ (↑n : Int)),
      EI .i64 (IntKind.wrap IntKind.i64 (2 + (↑(W.be2 l o) : Int))) ((↑(2 + W.be2 l o) : Int)),
      ((.c (.sl 1 0 (addO o 2) (Int.toNat (↑(2 + W.be2 l o) - 2)) 1)) : V) = (.c (.sl 1 0 (o + 2) (W.be2 l o) 1)),
      ((0 : Int) ≤ (2 : Int) ∧ (2 : Int) ≤ (↑((2 : Nat) + W.be2 l o) : Int) ∧ (↑((2 : Nat) + W.be2 l o) : Int) ≤ (↑n : Int)),
      EI .i64 (IntKind.wrap IntKind.i64 (2 + (↑(W.be2 l o) : Int))) ((↑(2 + W.be2 l o) : Int)),
      EB ((↑(W.bkt (W.be2 l o)) : Int) != (↑n : Int)) false,
      Contract Try.prog 94 [(.c (.int .i64 (↑(W.be2 l o))))] [] 274 (.tup [(.c (.int .i64 (↑(W.bkt (W.be2 l o))))), (.c (.bool (true)))]) [] [],
      EI .i64 (bOr IntKind.i64 (List.getD l o 0 * 256) (List.getD l (o + 1) 0)) ((↑(W.be2 l o) : Int)),
      EI .i64 (IntKind.wrap IntKind.i64 (List.getD l (o + 1) 0)) (List.getD l (o + 1) 0),
      (o + (1 : Nat) + (1 : Nat) ≤ List.length l),
      ((.c (.ptr 1 0 (addO o 1))) : V) = (.c (.ptr 1 0 (o + 1))),
      ((0 : Int) ≤ (1 : Int) ∧ (1 : Int) < (↑n : Int)),
      EI .i64 (IntKind.wrap IntKind.i64 (List.getD l o 0 * 256)) (List.getD l o 0 * 256),
      EI .i64 (IntKind.wrap IntKind.i64 (List.getD l o 0)) (List.getD l o 0),
      (o + (1 : Nat) ≤ List.length l),
      ((.c (.ptr 1 0 (addO o 0))) : V) = (.c (.ptr 1 0 o)),
      ((0 : Int) ≤ (0 : Int) ∧ (0 : Int) < (↑n : Int)),
      EB (decide ((↑n : Int) < 2)) false])
    mixed Try.func81 (by kernel_rfl) (by kernel_rfl) (by kernel_rfl) (by kernel_rfl) (by kernel_rfl) ⟨Contract0.inst (clone l (o + 2) (W.be2 l o) (by omega) (by omega)) [.b 1 1 true []] [none] [(2, 770)] [] (by kernel_rfl) (by kernel_rfl) (by kernel_rfl) (by kernel_rfl) (by kernel_rfl), .mk (not_f (decide_eq_true h1)), Contract0.inst (same_ok l (List.replicate (n - (2 + W.be2 l o)) 0) (o + (2 + W.be2 l o)) (n - (2 + W.be2 l o)) 0 (by omega) (by simp only [and_true, List.length_set, List.length_append, List.length_replicate, List.length_take, List.length_drop, List.length_map, List.length_cons, List.length_nil, List.length_zipWith, splice_len1, W.le_len, W.bts_len, Int.toNat_natCast, addO_eq, mulE_eq, mulE_one, W.once_len, W.block_len, W.p8_len, W.apply_len, W.boxTag_len, W.box_len, W.nonce_len, W.hand_len, W.tag_len, W.padd_len, W.frm_len]; omega) (by omega) (by omega) (by repeat' with_reducible first | assumption | exact W.p8_bytes | exact W.bytes_zero | exact W.apply_bytes | exact W.once_bytes | exact W.tag_bytes | exact W.boxTag_bytes | exact W.box_bytes | exact W.bytes_nil | exact W.bts_bytes | exact W.le_bytes | exact W.hand_bytes | exact W.padd_bytes | exact W.frm_bytes | apply W.bytes_app | apply W.bytes_take | apply W.bytes_drop)) [.b 1 1 true [], .b 706 2 true []] [none, none] [] [] (by kernel_rfl) (by kernel_rfl) (by kernel_rfl) (by kernel_rfl) (by kernel_rfl), (by omega), EV.sl (by simp only [addO_eq, mulE_eq, mulE_one, Int.toNat_natCast, IntKind.wrap_i64, mmin, mmax]) (by omega), (by omega), .mk (by simp only [addO_eq, mulE_eq, mulE_one, Int.toNat_natCast, IntKind.wrap_i64, mmin, mmax]; omega), EV.sl (by simp only [addO_eq, mulE_eq, mulE_one, Int.toNat_natCast, IntKind.wrap_i64, mmin, mmax]) (by omega), (by omega), .mk (by simp only [addO_eq, mulE_eq, mulE_one, Int.toNat_natCast, IntKind.wrap_i64, mmin, mmax]; omega), .mk (bne_f (Decidable.of_not_not h0)), Contract0.inst (bucket_y (W.be2 l o) (by omega)) [] [none] [] [] (by kernel_rfl) (by kernel_rfl) (by kernel_rfl) (by kernel_rfl) (by kernel_rfl), .mk (by omega), .mk (by simp only [addO_eq, mulE_eq, mulE_one, Int.toNat_natCast, IntKind.wrap_i64, mmin, mmax]; omega), (by omega), EV.ptr (by simp only [addO_eq, mulE_eq, mulE_one, Int.toNat_natCast, IntKind.wrap_i64, mmin, mmax]), (by omega), .mk (by simp only [addO_eq, mulE_eq, mulE_one, Int.toNat_natCast, IntKind.wrap_i64, mmin, mmax]; omega), .mk (by simp only [addO_eq, mulE_eq, mulE_one, Int.toNat_natCast, IntKind.wrap_i64, mmin, mmax]; omega), (by omega), EV.ptr (by simp only [addO_eq, mulE_eq, mulE_one, Int.toNat_natCast, IntKind.wrap_i64, mmin, mmax]; omega), (by omega), .mk (decide_eq_false (by omega)), trivial⟩) [.b 1 1 true] [] [(770, 2)] [] (by kernel_rfl) (by kernel_rfl) (by kernel_rfl) (by kernel_rfl) (by kernel_rfl)

theorem unpad_y_ff (l : List Int) (o n : Nat)
    (hl : o + n ≤ l.length)
    (hs : n ≤ 1073741824)
    (hlb : W.bytes l)
    (b0 : 0 ≤ List.getD l o 0 ∧ List.getD l o 0 < 256)
    (b1 : 0 ≤ List.getD l (o + 1) 0 ∧ List.getD l (o + 1) 0 < 256)
    (hm : bOr IntKind.i64 (List.getD l o 0 * 256) (List.getD l (o + 1) 0) = ((W.be2 l o : Nat) : Int))
    (hm2 : W.be2 l o < 65536)
    (hn : 2 ≤ n)
    (hb : W.be2 l o ≤ 3966)
    (hc : W.be2 l o + 2 ≤ W.bkt (W.be2 l o))
    (hd : W.bkt (W.be2 l o) ≤ 3968)
    (h0 : (¬¬(↑(W.bkt (W.be2 l o)) : Int) = (↑n : Int)))
    (h1 : (¬List.take (n - ((2 : Nat) + W.be2 l o)) (List.drop (o + ((2 : Nat) + W.be2 l o)) l) = List.take (n - ((2 : Nat) + W.be2 l o)) (List.replicate (n - ((2 : Nat) + W.be2 l o)) (0 : Int)))) :
    Contract0 Try.prog 81 [(.c (.sl 1 0 o n 1))] [(1, (.one ⟨false, false, (.ints .u8 l)⟩))] 2 (.tup [(.c .nils), (.c (.int .i64 5))]) [] [] :=
  Contract0.of_frun (res := (.tup [(.c .nils), (.c (.int .i64 5))])) (up := []) (kill := []) (n0 := 2) (m := [(1, (.one ⟨false, false, (.ints .u8 l)⟩))]) (args := [(.c (.sl 1 0 o n 1))]) (fn := Try.f81) (c := bodyOf Try.f81) (fuel := 300) (k := kOf Try.prog Try.f81) (outs := []) (hs := [(4, ⟨.auto, some (.c (.bool (false)))⟩), (7, ⟨.ask, some (.c (.ptr 1 0 o))⟩), (8, ⟨.ask, none⟩), (9, ⟨.auto, some (.c (.int .i64 (List.getD l o 0)))⟩), (10, ⟨.auto, some (.c (.int .i64 (List.getD l o 0 * 256)))⟩), (12, ⟨.ask, some (.c (.ptr 1 0 (o + 1)))⟩), (13, ⟨.ask, none⟩), (14, ⟨.auto, some (.c (.int .i64 (List.getD l (o + 1) 0)))⟩), (15, ⟨.auto, some (.c (.int .i64 (↑(W.be2 l o))))⟩), (18, ⟨.call [] (.tup [(.c (.int .i64 (↑(W.bkt (W.be2 l o))))), (.c (.bool (true)))]) [] [], none⟩), (31, ⟨.auto, some (.c (.bool (false)))⟩), (35, ⟨.auto, some (.c (.int .i64 (↑(2 + W.be2 l o))))⟩), (36, ⟨.ask, some (.c (.sl 1 0 (o + 2) (W.be2 l o) 1))⟩), (39, ⟨.auto, some (.c (.int .i64 (↑(2 + W.be2 l o))))⟩), (40, ⟨.ask, some (.c (.sl 1 0 (o + (2 + W.be2 l o)) (n - (2 + W.be2 l o)) 1))⟩), (46, ⟨.ask, none⟩), (47, ⟨.call [1, 706] (.c (.bool (decide (List.take (n - (2 + W.be2 l o)) (List.drop (o + (2 + W.be2 l o)) l) = List.take (n - (2 + W.be2 l o)) (List.replicate (n - (2 + W.be2 l o)) 0))))) [] [], none⟩), (48, ⟨.auto, some (.c (.bool (true)))⟩)])
    (cs := [EB (!decide (List.take (n - (2 + W.be2 l o)) (List.drop (o + (2 + W.be2 l o)) l) = List.take (n - (2 + W.be2 l o)) (List.replicate (n - (2 + W.be2 l o)) 0))) true,
      Contract Try.prog 93 [(.c (.sl 1 0 (o + (2 + W.be2 l o)) (n - (2 + W.be2 l o)) 1)), (.c (.sl 706 0 0 (n - (2 + W.be2 l o)) 1))] [(1, (.one ⟨false, false, (.ints .u8 l)⟩)), (706, (.one ⟨true, true, (.ints .u8 (List.replicate (n - (2 + W.be2 l o)) 0))⟩))] 722 (.c (.bool (decide (List.take (n - (2 + W.be2 l o)) (List.drop (o + (2 + W.be2 l o)) l) = List.take (n - (2 + W.be2 l o)) (List.replicate (n - (2 + W.be2 l o)) 0))))) [] [],
      ((0 : Int) ≤ (↑(n - ((2 : Nat) + W.be2 l o)) : Int) ∧ (↑(n - ((2 : Nat) + W.be2 l o)) : Int) ≤ (↑(n - ((2 : Nat) + W.be2 l o)) : Int) ∧ (↑(n - ((2 : Nat) + W.be2 l o)) : Int) ≤ (4294967296 : Int) ∧ (1 : Nat) * (n - ((2 : Nat) + W.be2 l o)) ≤ (4398046511104 : Nat)),
      ((.c (.sl 1 0 (addO o (2 + W.be2 l o)) (Int.toNat (↑n - ↑(2 + W.be2 l o))) 1)) : V) = (.c (.sl 1 0 (o + (2 + W.be2 l o)) (n - (2 + W.be2 l o)) 1)),
      ((0 : Int) ≤ (↑((2 : Nat) + W.be2 l o) : Int) ∧ (↑((2 : Nat) + W.be2 l o) : Int) ≤ (↑n : Int) ∧ (↑n : Int) ≤ (↑n : Int)),
      EI .i64 (IntKind.wrap IntKind.i64 (2 + (↑(W.be2 l o) : Int))) ((↑(2 + W.be2 l o) : Int)),
      ((.c (.sl 1 0 (addO o 2) (Int.toNat (↑(2 + W.be2 l o) - 2)) 1)) : V) = (.c (.sl 1 0 (o + 2) (W.be2 l o) 1)),
      ((0 : Int) ≤ (2 : Int) ∧ (2 : Int) ≤ (↑((2 : Nat) + W.be2 l o) : Int) ∧ (↑((2 : Nat) + W.be2 l o) : Int) ≤ (↑n : Int)),
      EI .i64 (IntKind.wrap IntKind.i64 (2 + (↑(W.be2 l o) : Int))) ((↑(2 + W.be2 l o) : Int)),
      EB ((↑(W.bkt (W.be2 l o)) : Int) != (↑n : Int)) false,
      Contract Try.prog 94 [(.c (.int .i64 (↑(W.be2 l o))))] [] 274 (.tup [(.c (.int .i64 (↑(W.bkt (W.be2 l o))))), (.c (.bool (true)))]) [] [],
      EI .i64 (bOr IntKind.i64 (List.getD l o 0 * 256) (List.getD l (o + 1) 0)) ((↑(W.be2 l o) : Int)),
      EI .i64 (IntKind.wrap IntKind.i64 (List.getD l (o + 1) 0)) (List.getD l (o + 1) 0),
      (o + (1 : Nat) + (1 : Nat) ≤ List.length l),
      ((.c (.ptr 1 0 (addO o 1))) : V) = (.c (.ptr 1 0 (o + 1))),
      ((0 : Int) ≤ (1 : Int) ∧ (1 : Int) < (↑n : Int)),
      EI .i64 (IntKind.wrap IntKind.i64 (List.getD l o 0 * 256)) (List.getD l o 0 * 256),
      EI .i64 (IntKind.wrap IntKind.i64 (List.getD l o 0)) (List.getD l o 0),
      (o + (1 : Nat) ≤ List.length l),
      ((.c (.ptr 1 0 (addO o 0))) : V) = (.c (.ptr 1 0 o)),
      ((0 : Int) ≤ (0 : Int) ∧ (0 : Int) < (↑n : Int)),
      EB (decide ((↑n : Int) < 2)) false])
    mixed Try.func81 (by kernel_rfl) (by kernel_rfl) (by kernel_rfl) (by kernel_rfl) (by kernel_rfl) ⟨.mk (not_t (decide_eq_false h1)), Contract0.inst (same_ok l (List.replicate (n - (2 + W.be2 l o)) 0) (o + (2 + W.be2 l o)) (n - (2 + W.be2 l o)) 0 (by omega) (by simp only [and_true, List.length_set, List.length_append, List.length_replicate, List.length_take, List.length_drop, List.length_map, List.length_cons, List.length_nil, List.length_zipWith, splice_len1, W.le_len, W.bts_len, Int.toNat_natCast, addO_eq, mulE_eq, mulE_one, W.once_len, W.block_len, W.p8_len, W.apply_len, W.boxTag_len, W.box_len, W.nonce_len, W.hand_len, W.tag_len, W.padd_len, W.frm_len]; omega) (by omega) (by omega) (by repeat' with_reducible first | assumption | exact W.p8_bytes | exact W.bytes_zero | exact W.apply_bytes | exact W.once_bytes | exact W.tag_bytes | exact W.boxTag_bytes | exact W.box_bytes | exact W.bytes_nil | exact W.bts_bytes | exact W.le_bytes | exact W.hand_bytes | exact W.padd_bytes | exact W.frm_bytes | apply W.bytes_app | apply W.bytes_take | apply W.bytes_drop)) [.b 1 1 true [], .b 706 2 true []] [none, none] [] [] (by kernel_rfl) (by kernel_rfl) (by kernel_rfl) (by kernel_rfl) (by kernel_rfl), (by omega), EV.sl (by simp only [addO_eq, mulE_eq, mulE_one, Int.toNat_natCast, IntKind.wrap_i64, mmin, mmax]) (by omega), (by omega), .mk (by simp only [addO_eq, mulE_eq, mulE_one, Int.toNat_natCast, IntKind.wrap_i64, mmin, mmax]; omega), EV.sl (by simp only [addO_eq, mulE_eq, mulE_one, Int.toNat_natCast, IntKind.wrap_i64, mmin, mmax]) (by omega), (by omega), .mk (by simp only [addO_eq, mulE_eq, mulE_one, Int.toNat_natCast, IntKind.wrap_i64, mmin, mmax]; omega), .mk (bne_f (Decidable.of_not_not h0)), Contract0.inst (bucket_y (W.be2 l o) (by omega)) [] [none] [] [] (by kernel_rfl) (by kernel_rfl) (by kernel_rfl) (by kernel_rfl) (by kernel_rfl), .mk (by omega), .mk (by simp only [addO_eq, mulE_eq, mulE_one, Int.toNat_natCast, IntKind.wrap_i64, mmin, mmax]; omega), (by omega), EV.ptr (by simp only [addO_eq, mulE_eq, mulE_one, Int.toNat_natCast, IntKind.wrap_i64, mmin, mmax]), (by omega), .mk (by simp only [addO_eq, mulE_eq, mulE_one, Int.toNat_natCast, IntKind.wrap_i64, mmin, mmax]; omega), .mk (by simp only [addO_eq, mulE_eq, mulE_one, Int.toNat_natCast, IntKind.wrap_i64, mmin, mmax]; omega), (by omega), EV.ptr (by simp only [addO_eq, mulE_eq, mulE_one, Int.toNat_natCast, IntKind.wrap_i64, mmin, mmax]; omega), (by omega), .mk (decide_eq_false (by omega)), trivial⟩


-- unpad_y: 1312 ms
end Go.Proofs.Ytmfnldkiaodkpaa.Vm

namespace Go.Proofs.Ytmfnldkiaodkpaa
/-- What may be taken out of its bucket. -/
def W.upOk (l : List Int) (o n : Nat) : Prop := 2 ≤ n ∧ W.be2 l o ≤ 3966 ∧ W.bkt (W.be2 l o) = n ∧ List.take (n - (2 + W.be2 l o)) (List.drop (o + (2 + W.be2 l o)) l) = List.take (n - (2 + W.be2 l o)) (List.replicate (n - (2 + W.be2 l o)) 0)
end Go.Proofs.Ytmfnldkiaodkpaa
namespace Go.Proofs.Ytmfnldkiaodkpaa.Vm
open Go Go.Proofs Go.Proofs.Ytmfnldkiaodkpaa
theorem unpad_ok (l : List Int) (o n : Nat) (hl : o + n ≤ l.length) (hs : n ≤ 1073741824) (hlb : W.bytes l) (h : W.upOk l o n) :
    Contract0 Try.prog 81 [(.c (.sl 1 0 o n 1))] [(1, (.one ⟨false, false, (.ints .u8 l)⟩))] 2 (.tup [(.c (.sl 2 0 0 (W.be2 l o) 1)), (.c (.int .i64 0))]) [] [(2, (.one ⟨true, false, (.ints .u8 (List.take (W.be2 l o) (List.drop (o + 2) l)))⟩))] :=
  unpad_y_ft l o n hl hs hlb (getD_byte hlb _) (getD_byte hlb _) (be2_eq (getD_byte hlb _) (getD_byte hlb _)) (be2_lt (getD_byte hlb _) (getD_byte hlb _)) h.1 h.2.1 (W.bkt_ge h.2.1) W.bkt_le (by have := h.2.2.1; omega) h.2.2.2
theorem unpad_no (l : List Int) (o n : Nat) (hl : o + n ≤ l.length) (hs : n ≤ 1073741824) (hlb : W.bytes l) (h : ¬ W.upOk l o n) :
    Contract0 Try.prog 81 [(.c (.sl 1 0 o n 1))] [(1, (.one ⟨false, false, (.ints .u8 l)⟩))] 2 (.tup [(.c .nils), (.c (.int .i64 5))]) [] [] := by
  have b0 := getD_byte hlb o
  have b1 := getD_byte hlb (o + 1)
  have hm := be2_eq b0 b1
  have hm2 := be2_lt b0 b1
  by_cases h1 : 2 ≤ n
  · by_cases h2 : W.be2 l o ≤ 3966
    · by_cases h3 : W.bkt (W.be2 l o) = n
      · exact unpad_y_ff l o n hl hs hlb b0 b1 hm hm2 h1 h2 (W.bkt_ge h2) W.bkt_le (by omega) fun e => h ⟨h1, h2, h3, e⟩
      · exact unpad_y_t l o n hl hs hlb b0 b1 hm hm2 h1 h2 (W.bkt_ge h2) W.bkt_le (by omega)
    · exact unpad_n l o n hl hs hlb b0 b1 hm hm2 h1 (by omega)
  · exact unpad_s l o n hl hs hlb b0 b1 hm hm2 (by omega)
end Go.Proofs.Ytmfnldkiaodkpaa.Vm

namespace Go.Proofs.Ytmfnldkiaodkpaa.Vm
open Go Go.Proofs Go.Proofs.Ytmfnldkiaodkpaa
theorem copenK_s (ex : Bool) (n K : Int) (la lt : List Int) (oa na ot nt : Nat) (h0_ : 0 ≤ n ∧ n < 18446744073709551616) (h1_ : oa + na ≤ la.length) (h2_ : ot + nt ≤ lt.length) (h3_ : na ≤ 1048576) (h4_ : nt ≤ 1073741808) (h5_ : W.bytes la) (h6_ : W.bytes lt) (h7_ : ¬ n = 18446744073709551615) (h8_ : (nt : Int) < 16) : Contract0 Try.prog 32 [(.c (.ptr 1 0 0)), (.c (.sl 2 0 oa na 1)), (.c (.sl 3 0 ot nt 1))] [(1, (.one ⟨true, ex, .cells ((W.bts K).map (C.int .u8) ++ [.bool true, .int .u64 n])⟩)), (2, (.one ⟨false, false, (.ints .u8 la)⟩)), (3, (.one ⟨false, false, (.ints .u8 lt)⟩))] 4 (.tup [(.c .nils), (.c (.int .i64 7))]) [] [(1, (.one ⟨true, ex, .cells ((W.bts K).map (C.int .u8) ++ [.bool true, .int .u64 n])⟩))] := copen_fc0 ex n (K % 256) (K / 256 % 256) (K / 65536 % 256) (K / 16777216 % 256) (K / 4294967296 % 256) (K / 1099511627776 % 256) (K / 281474976710656 % 256) (K / 72057594037927936 % 256) (K / 18446744073709551616 % 256) (K / 4722366482869645213696 % 256) (K / 1208925819614629174706176 % 256) (K / 309485009821345068724781056 % 256) (K / 79228162514264337593543950336 % 256) (K / 20282409603651670423947251286016 % 256) (K / 5192296858534827628530496329220096 % 256) (K / 1329227995784915872903807060280344576 % 256) (K / 340282366920938463463374607431768211456 % 256) (K / 87112285931760246646623899502532662132736 % 256) (K / 22300745198530623141535718272648361505980416 % 256) (K / 5708990770823839524233143877797980545530986496 % 256) (K / 1461501637330902918203684832716283019655932542976 % 256) (K / 374144419156711147060143317175368453031918731001856 % 256) (K / 95780971304118053647396689196894323976171195136475136 % 256) (K / 24519928653854221733733552434404946937899825954937634816 % 256) (K / 6277101735386680763835789423207666416102355444464034512896 % 256) (K / 1606938044258990275541962092341162602522202993782792835301376 % 256) (K / 411376139330301510538742295639337626245683966408394965837152256 % 256) (K / 105312291668557186697918027683670432318895095400549111254310977536 % 256) (K / 26959946667150639794667015087019630673637144422540572481103610249216 % 256) (K / 6901746346790563787434755862277025452451108972170386555162524223799296 % 256) (K / 1766847064778384329583297500742918515827483896875618958121606201292619776 % 256) (K / 452312848583266388373324160190187140051835877600158453279131187530910662656 % 256) la lt oa na ot nt h0_ h1_ h2_ h3_ h4_ h5_ h6_ h7_ h8_
theorem copenK_w (ex : Bool) (n K : Int) (la lt : List Int) (oa na ot nt : Nat) (h0_ : 0 ≤ n ∧ n < 18446744073709551616) (h1_ : oa + na ≤ la.length) (h2_ : ot + nt ≤ lt.length) (h3_ : na ≤ 1048576) (h4_ : nt ≤ 1073741808) (h5_ : W.bytes la) (h6_ : W.bytes lt) (h7_ : ¬ n = 18446744073709551615) (h8_ : ¬ (nt : Int) < 16) (h9_ : ¬ (List.take 16 (List.drop (ot + (nt - 16)) lt) = List.take 16 (W.boxTag (W.bts K) (W.nonce n) (List.take na (List.drop oa la)) (List.take (nt - 16) (List.drop ot lt))))) : Contract0 Try.prog 32 [(.c (.ptr 1 0 0)), (.c (.sl 2 0 oa na 1)), (.c (.sl 3 0 ot nt 1))] [(1, (.one ⟨true, ex, .cells ((W.bts K).map (C.int .u8) ++ [.bool true, .int .u64 n])⟩)), (2, (.one ⟨false, false, (.ints .u8 la)⟩)), (3, (.one ⟨false, false, (.ints .u8 lt)⟩))] 4 (.tup [(.c .nils), (.c (.int .i64 8))]) [] [(1, (.one ⟨true, ex, .cells ((W.bts K).map (C.int .u8) ++ [.bool true, .int .u64 n])⟩))] := copen_fc1 ex n (K % 256) (K / 256 % 256) (K / 65536 % 256) (K / 16777216 % 256) (K / 4294967296 % 256) (K / 1099511627776 % 256) (K / 281474976710656 % 256) (K / 72057594037927936 % 256) (K / 18446744073709551616 % 256) (K / 4722366482869645213696 % 256) (K / 1208925819614629174706176 % 256) (K / 309485009821345068724781056 % 256) (K / 79228162514264337593543950336 % 256) (K / 20282409603651670423947251286016 % 256) (K / 5192296858534827628530496329220096 % 256) (K / 1329227995784915872903807060280344576 % 256) (K / 340282366920938463463374607431768211456 % 256) (K / 87112285931760246646623899502532662132736 % 256) (K / 22300745198530623141535718272648361505980416 % 256) (K / 5708990770823839524233143877797980545530986496 % 256) (K / 1461501637330902918203684832716283019655932542976 % 256) (K / 374144419156711147060143317175368453031918731001856 % 256) (K / 95780971304118053647396689196894323976171195136475136 % 256) (K / 24519928653854221733733552434404946937899825954937634816 % 256) (K / 6277101735386680763835789423207666416102355444464034512896 % 256) (K / 1606938044258990275541962092341162602522202993782792835301376 % 256) (K / 411376139330301510538742295639337626245683966408394965837152256 % 256) (K / 105312291668557186697918027683670432318895095400549111254310977536 % 256) (K / 26959946667150639794667015087019630673637144422540572481103610249216 % 256) (K / 6901746346790563787434755862277025452451108972170386555162524223799296 % 256) (K / 1766847064778384329583297500742918515827483896875618958121606201292619776 % 256) (K / 452312848583266388373324160190187140051835877600158453279131187530910662656 % 256) la lt oa na ot nt h0_ h1_ h2_ h3_ h4_ h5_ h6_ h7_ h8_ h9_
theorem copenK_o (ex : Bool) (n K : Int) (la lt : List Int) (oa na ot nt : Nat) (h0_ : 0 ≤ n ∧ n < 18446744073709551616) (h1_ : oa + na ≤ la.length) (h2_ : ot + nt ≤ lt.length) (h3_ : na ≤ 1048576) (h4_ : nt ≤ 1073741808) (h5_ : W.bytes la) (h6_ : W.bytes lt) (h7_ : ¬ n = 18446744073709551615) (h8_ : ¬ (nt : Int) < 16) (h9_ : (List.take 16 (List.drop (ot + (nt - 16)) lt) = List.take 16 (W.boxTag (W.bts K) (W.nonce n) (List.take na (List.drop oa la)) (List.take (nt - 16) (List.drop ot lt))))) : Contract0 Try.prog 32 [(.c (.ptr 1 0 0)), (.c (.sl 2 0 oa na 1)), (.c (.sl 3 0 ot nt 1))] [(1, (.one ⟨true, ex, .cells ((W.bts K).map (C.int .u8) ++ [.bool true, .int .u64 n])⟩)), (2, (.one ⟨false, false, (.ints .u8 la)⟩)), (3, (.one ⟨false, false, (.ints .u8 lt)⟩))] 4 (.tup [(.c (.sl 4 0 0 (nt - 16) 1)), (.c (.int .i64 0))]) [] [(1, (.one ⟨true, ex, .cells ((W.bts K).map (C.int .u8) ++ [.bool true, .int .u64 (n + 1)])⟩)), (4, (.one ⟨true, false, (.ints .u8 (W.apply (W.bts K) 1 (W.nonce n) (List.take (nt - 16) (List.drop ot lt))))⟩))] := copen_fc2 ex n (K % 256) (K / 256 % 256) (K / 65536 % 256) (K / 16777216 % 256) (K / 4294967296 % 256) (K / 1099511627776 % 256) (K / 281474976710656 % 256) (K / 72057594037927936 % 256) (K / 18446744073709551616 % 256) (K / 4722366482869645213696 % 256) (K / 1208925819614629174706176 % 256) (K / 309485009821345068724781056 % 256) (K / 79228162514264337593543950336 % 256) (K / 20282409603651670423947251286016 % 256) (K / 5192296858534827628530496329220096 % 256) (K / 1329227995784915872903807060280344576 % 256) (K / 340282366920938463463374607431768211456 % 256) (K / 87112285931760246646623899502532662132736 % 256) (K / 22300745198530623141535718272648361505980416 % 256) (K / 5708990770823839524233143877797980545530986496 % 256) (K / 1461501637330902918203684832716283019655932542976 % 256) (K / 374144419156711147060143317175368453031918731001856 % 256) (K / 95780971304118053647396689196894323976171195136475136 % 256) (K / 24519928653854221733733552434404946937899825954937634816 % 256) (K / 6277101735386680763835789423207666416102355444464034512896 % 256) (K / 1606938044258990275541962092341162602522202993782792835301376 % 256) (K / 411376139330301510538742295639337626245683966408394965837152256 % 256) (K / 105312291668557186697918027683670432318895095400549111254310977536 % 256) (K / 26959946667150639794667015087019630673637144422540572481103610249216 % 256) (K / 6901746346790563787434755862277025452451108972170386555162524223799296 % 256) (K / 1766847064778384329583297500742918515827483896875618958121606201292619776 % 256) (K / 452312848583266388373324160190187140051835877600158453279131187530910662656 % 256) la lt oa na ot nt h0_ h1_ h2_ h3_ h4_ h5_ h6_ h7_ h8_ h9_
end Go.Proofs.Ytmfnldkiaodkpaa.Vm

namespace Go.Proofs.Ytmfnldkiaodkpaa.Vm
open Go Go.Proofs Go.Proofs.Ytmfnldkiaodkpaa
set_option maxRecDepth 100000
theorem hopen_bad (ex : Bool) (cnt n K : Int) (l : List Int) (o q : Nat) :
    Contract0 Try.prog 50 [(.c (.ptr 1 0 0)), (.c (.sl 3 0 o q 1))] [(1, (.one ⟨true, ex, (.cells [(.ptr 2 0 0), (.int .i64 cnt), (.bool (true))])⟩)), (2, (.one ⟨true, ex, (.cells ((W.bts K).map (C.int .u8) ++ [(.bool (true)), (.int .u64 n)]))⟩)), (3, (.one ⟨false, false, (.ints .u8 l)⟩))] 4 (.tup [(.c .nils), (.c (.int .i64 4))]) [] [(1, (.one ⟨true, ex, (.cells [(.ptr 2 0 0), (.int .i64 cnt), (.bool (true))])⟩)), (2, (.one ⟨true, ex, (.cells ((W.bts K).map (C.int .u8) ++ [(.bool (true)), (.int .u64 n)]))⟩))] :=
  Contract0.renum (Contract0.of_frun (res := (.tup [(.c .nils), (.c (.int .i64 4))])) (up := [(1, (.one ⟨true, ex, (.cells [(.ptr 2 0 0), (.int .i64 cnt), (.bool (true))])⟩)), (2, (.one ⟨true, ex, (.cells ((W.bts K).map (C.int .u8) ++ [(.bool (true)), (.int .u64 n)]))⟩))]) (kill := []) (n0 := 4) (m := [(1, (.one ⟨true, ex, (.cells [(.ptr 2 0 0), (.int .i64 cnt), (.bool (true))])⟩)), (2, (.one ⟨true, ex, (.cells ((W.bts K).map (C.int .u8) ++ [(.bool (true)), (.int .u64 n)]))⟩)), (3, (.one ⟨false, false, (.ints .u8 l)⟩))]) (args := [(.c (.ptr 1 0 0)), (.c (.sl 3 0 o q 1))]) (fn := Try.f50) (c := bodyOf Try.f50) (fuel := 300) (k := kOf Try.prog Try.f50) (outs := [1, 2]) (hs := [])
    (cs := [])
    mixed Try.func50 (by kernel_rfl) (by kernel_rfl) (by kernel_rfl) (by kernel_rfl) (by kernel_rfl) trivial) [.b 1 1 false, .b 2 2 false, .b 3 3 true] [] [] [] (by kernel_rfl) (by kernel_rfl) (by kernel_rfl) (by kernel_rfl) (by kernel_rfl)


-- hopen_bad: 655 ms
theorem hopen_c0 (ex : Bool) (cnt n K : Int) (l : List Int) (o q : Nat)
    (hl : o + q ≤ l.length)
    (hlb : W.bytes l)
    (hq : q ≤ 1073741808)
    (hn : 0 ≤ n ∧ n < 18446744073709551616)
    (hL : ¬ n = 18446744073709551615)
    (hc : 0 ≤ cnt ∧ cnt < 1000000)
    (c0 : ((↑q : Int) < (16 : Int))) :
    Contract0 Try.prog 50 [(.c (.ptr 1 0 0)), (.c (.sl 3 0 o q 1))] [(1, (.one ⟨true, ex, (.cells [(.ptr 2 0 0), (.int .i64 cnt), (.bool (false))])⟩)), (2, (.one ⟨true, ex, (.cells ((W.bts K).map (C.int .u8) ++ [(.bool (true)), (.int .u64 n)]))⟩)), (3, (.one ⟨false, false, (.ints .u8 l)⟩))] 4 (.tup [(.c .nils), (.c (.int .i64 7))]) [] [(1, (.one ⟨true, ex, (.cells [(.ptr 2 0 0), (.int .i64 cnt), (.bool (true))])⟩)), (2, (.one ⟨true, ex, (.cells ((W.bts K).map (C.int .u8) ++ [(.bool (true)), (.int .u64 n)]))⟩))] :=
  Contract0.renum (Contract0.of_frun (res := (.tup [(.c .nils), (.c (.int .i64 7))])) (up := [(1, (.one ⟨true, ex, (.cells [(.ptr 2 0 0), (.int .i64 cnt), (.bool (true))])⟩)), (2, (.one ⟨true, ex, (.cells ((W.bts K).map (C.int .u8) ++ [(.bool (true)), (.int .u64 n)]))⟩))]) (kill := []) (n0 := 4) (m := [(1, (.one ⟨true, ex, (.cells [(.ptr 2 0 0), (.int .i64 cnt), (.bool (false))])⟩)), (2, (.one ⟨true, ex, (.cells ((W.bts K).map (C.int .u8) ++ [(.bool (true)), (.int .u64 n)]))⟩)), (3, (.one ⟨false, false, (.ints .u8 l)⟩))]) (args := [(.c (.ptr 1 0 0)), (.c (.sl 3 0 o q 1))]) (fn := Try.f50) (c := bodyOf Try.f50) (fuel := 300) (k := kOf Try.prog Try.f50) (outs := [1, 2]) (hs := [(12, ⟨.call [2, 3] (.tup [(.c .nils), (.c (.int .i64 7))]) [] [(2, (.one ⟨true, ex, (.cells ((W.bts K).map (C.int .u8) ++ [(.bool (true)), (.int .u64 n)]))⟩))], none⟩), (23, ⟨.call [1, 2] (.tup [(.c .nils), (.c (.int .i64 7))]) [] [(1, (.one ⟨true, ex, (.cells [(.ptr 2 0 0), (.int .i64 cnt), (.bool (true))])⟩)), (2, (.one ⟨true, ex, (.cells ((W.bts K).map (C.int .u8) ++ [(.bool (true)), (.int .u64 n)]))⟩))], none⟩)])
    (cs := [Contract Try.prog 78 [(.c (.ptr 1 0 0)), (.c (.int .i64 7))] [(1, (.one ⟨true, ex, (.cells [(.ptr 2 0 0), (.int .i64 cnt), (.bool (false))])⟩)), (2, (.one ⟨true, ex, (.cells ((W.bts K).map (C.int .u8) ++ [(.bool (true)), (.int .u64 n)]))⟩))] 340 (.tup [(.c .nils), (.c (.int .i64 7))]) [] [(1, (.one ⟨true, ex, (.cells [(.ptr 2 0 0), (.int .i64 cnt), (.bool (true))])⟩)), (2, (.one ⟨true, ex, (.cells ((W.bts K).map (C.int .u8) ++ [(.bool (true)), (.int .u64 n)]))⟩))],
      Contract Try.prog 32 [(.c (.ptr 2 0 0)), (.c .nils), (.c (.sl 3 0 o q 1))] [(2, (.one ⟨true, ex, (.cells ((W.bts K).map (C.int .u8) ++ [(.bool (true)), (.int .u64 n)]))⟩)), (3, (.one ⟨false, false, (.ints .u8 l)⟩))] 180 (.tup [(.c .nils), (.c (.int .i64 7))]) [] [(2, (.one ⟨true, ex, (.cells ((W.bts K).map (C.int .u8) ++ [(.bool (true)), (.int .u64 n)]))⟩))]])
    mixed Try.func50 (by kernel_rfl) (by kernel_rfl) (by kernel_rfl) (by kernel_rfl) (by kernel_rfl) ⟨Contract0.inst (hfault ex cnt 7 n K false) [.b 1 1 false [], .b 2 2 false []] [none, none] [] [] (by kernel_rfl) (by kernel_rfl) (by kernel_rfl) (by kernel_rfl) (by kernel_rfl), Contract0.inst (copenK_s ex n K [] l 0 0 o q (by omega) (by omega) (by omega) (by omega) (by omega) (by repeat' with_reducible first | assumption | exact W.p8_bytes | exact W.bytes_zero | exact W.apply_bytes | exact W.once_bytes | exact W.tag_bytes | exact W.boxTag_bytes | exact W.box_bytes | exact W.bytes_nil | exact W.bts_bytes | exact W.le_bytes | exact W.hand_bytes | exact W.padd_bytes | exact W.frm_bytes | apply W.bytes_app | apply W.bytes_take | apply W.bytes_drop) (by omega) (by omega) c0) [.b 2 1 false [], .z 2 (.ints .u8 []), .b 3 3 true []] [none, some (2, 1), none] [] [] (by kernel_rfl) (by kernel_rfl) (by kernel_rfl) (by kernel_rfl) (by kernel_rfl), trivial⟩) [.b 1 1 false, .b 2 2 false, .b 3 3 true] [] [] [] (by kernel_rfl) (by kernel_rfl) (by kernel_rfl) (by kernel_rfl) (by kernel_rfl)

theorem hopen_c1 (ex : Bool) (cnt n K : Int) (l : List Int) (o q : Nat)
    (hl : o + q ≤ l.length)
    (hlb : W.bytes l)
    (hq : q ≤ 1073741808)
    (hn : 0 ≤ n ∧ n < 18446744073709551616)
    (hL : ¬ n = 18446744073709551615)
    (hc : 0 ≤ cnt ∧ cnt < 1000000)
    (c0 : (¬(↑q : Int) < (16 : Int)))
    (c1 : (¬List.take (16 : Nat) (List.drop (o + (q - (16 : Nat))) l) = List.take (16 : Nat) (W.boxTag (W.bts K) (W.nonce n) (List.take (0 : Nat) (List.drop (0 : Nat) [])) (List.take (q - (16 : Nat)) (List.drop o l))))) :
    Contract0 Try.prog 50 [(.c (.ptr 1 0 0)), (.c (.sl 3 0 o q 1))] [(1, (.one ⟨true, ex, (.cells [(.ptr 2 0 0), (.int .i64 cnt), (.bool (false))])⟩)), (2, (.one ⟨true, ex, (.cells ((W.bts K).map (C.int .u8) ++ [(.bool (true)), (.int .u64 n)]))⟩)), (3, (.one ⟨false, false, (.ints .u8 l)⟩))] 4 (.tup [(.c .nils), (.c (.int .i64 8))]) [] [(1, (.one ⟨true, ex, (.cells [(.ptr 2 0 0), (.int .i64 cnt), (.bool (true))])⟩)), (2, (.one ⟨true, ex, (.cells ((W.bts K).map (C.int .u8) ++ [(.bool (true)), (.int .u64 n)]))⟩))] :=
  Contract0.renum (Contract0.of_frun (res := (.tup [(.c .nils), (.c (.int .i64 8))])) (up := [(1, (.one ⟨true, ex, (.cells [(.ptr 2 0 0), (.int .i64 cnt), (.bool (true))])⟩)), (2, (.one ⟨true, ex, (.cells ((W.bts K).map (C.int .u8) ++ [(.bool (true)), (.int .u64 n)]))⟩))]) (kill := []) (n0 := 4) (m := [(1, (.one ⟨true, ex, (.cells [(.ptr 2 0 0), (.int .i64 cnt), (.bool (false))])⟩)), (2, (.one ⟨true, ex, (.cells ((W.bts K).map (C.int .u8) ++ [(.bool (true)), (.int .u64 n)]))⟩)), (3, (.one ⟨false, false, (.ints .u8 l)⟩))]) (args := [(.c (.ptr 1 0 0)), (.c (.sl 3 0 o q 1))]) (fn := Try.f50) (c := bodyOf Try.f50) (fuel := 300) (k := kOf Try.prog Try.f50) (outs := [1, 2]) (hs := [(12, ⟨.call [2, 3] (.tup [(.c .nils), (.c (.int .i64 8))]) [] [(2, (.one ⟨true, ex, (.cells ((W.bts K).map (C.int .u8) ++ [(.bool (true)), (.int .u64 n)]))⟩))], none⟩), (23, ⟨.call [1, 2] (.tup [(.c .nils), (.c (.int .i64 8))]) [] [(1, (.one ⟨true, ex, (.cells [(.ptr 2 0 0), (.int .i64 cnt), (.bool (true))])⟩)), (2, (.one ⟨true, ex, (.cells ((W.bts K).map (C.int .u8) ++ [(.bool (true)), (.int .u64 n)]))⟩))], none⟩)])
    (cs := [Contract Try.prog 78 [(.c (.ptr 1 0 0)), (.c (.int .i64 8))] [(1, (.one ⟨true, ex, (.cells [(.ptr 2 0 0), (.int .i64 cnt), (.bool (false))])⟩)), (2, (.one ⟨true, ex, (.cells ((W.bts K).map (C.int .u8) ++ [(.bool (true)), (.int .u64 n)]))⟩))] 340 (.tup [(.c .nils), (.c (.int .i64 8))]) [] [(1, (.one ⟨true, ex, (.cells [(.ptr 2 0 0), (.int .i64 cnt), (.bool (true))])⟩)), (2, (.one ⟨true, ex, (.cells ((W.bts K).map (C.int .u8) ++ [(.bool (true)), (.int .u64 n)]))⟩))],
      Contract Try.prog 32 [(.c (.ptr 2 0 0)), (.c .nils), (.c (.sl 3 0 o q 1))] [(2, (.one ⟨true, ex, (.cells ((W.bts K).map (C.int .u8) ++ [(.bool (true)), (.int .u64 n)]))⟩)), (3, (.one ⟨false, false, (.ints .u8 l)⟩))] 180 (.tup [(.c .nils), (.c (.int .i64 8))]) [] [(2, (.one ⟨true, ex, (.cells ((W.bts K).map (C.int .u8) ++ [(.bool (true)), (.int .u64 n)]))⟩))]])
    mixed Try.func50 (by kernel_rfl) (by kernel_rfl) (by kernel_rfl) (by kernel_rfl) (by kernel_rfl) ⟨Contract0.inst (hfault ex cnt 8 n K false) [.b 1 1 false [], .b 2 2 false []] [none, none] [] [] (by kernel_rfl) (by kernel_rfl) (by kernel_rfl) (by kernel_rfl) (by kernel_rfl), Contract0.inst (copenK_w ex n K [] l 0 0 o q (by omega) (by omega) (by omega) (by omega) (by omega) (by repeat' with_reducible first | assumption | exact W.p8_bytes | exact W.bytes_zero | exact W.apply_bytes | exact W.once_bytes | exact W.tag_bytes | exact W.boxTag_bytes | exact W.box_bytes | exact W.bytes_nil | exact W.bts_bytes | exact W.le_bytes | exact W.hand_bytes | exact W.padd_bytes | exact W.frm_bytes | apply W.bytes_app | apply W.bytes_take | apply W.bytes_drop) (by omega) (by omega) c0 c1) [.b 2 1 false [], .z 2 (.ints .u8 []), .b 3 3 true []] [none, some (2, 1), none] [] [] (by kernel_rfl) (by kernel_rfl) (by kernel_rfl) (by kernel_rfl) (by kernel_rfl), trivial⟩) [.b 1 1 false, .b 2 2 false, .b 3 3 true] [] [] [] (by kernel_rfl) (by kernel_rfl) (by kernel_rfl) (by kernel_rfl) (by kernel_rfl)

theorem hopen_c2c0c0 (ex : Bool) (cnt n K : Int) (l : List Int) (o q : Nat)
    (hl : o + q ≤ l.length)
    (hlb : W.bytes l)
    (hq : q ≤ 1073741808)
    (hn : 0 ≤ n ∧ n < 18446744073709551616)
    (hL : ¬ n = 18446744073709551615)
    (hc : 0 ≤ cnt ∧ cnt < 1000000)
    (c0 : (¬(↑q : Int) < (16 : Int)))
    (c1 : (List.take (16 : Nat) (List.drop (o + (q - (16 : Nat))) l) = List.take (16 : Nat) (W.boxTag (W.bts K) (W.nonce n) (List.take (0 : Nat) (List.drop (0 : Nat) [])) (List.take (q - (16 : Nat)) (List.drop o l)))))
    (c2 : (W.upOk (W.apply (W.bts K) (1 : Int) (W.nonce n) (List.take (q - (16 : Nat)) (List.drop o l))) (0 : Nat) (q - (16 : Nat))))
    (c3 : (Int.tmod (cnt + (1 : Int)) (16 : Int) = (0 : Int))) :
    Contract0 Try.prog 50 [(.c (.ptr 1 0 0)), (.c (.sl 3 0 o q 1))] [(1, (.one ⟨true, ex, (.cells [(.ptr 2 0 0), (.int .i64 cnt), (.bool (false))])⟩)), (2, (.one ⟨true, ex, (.cells ((W.bts K).map (C.int .u8) ++ [(.bool (true)), (.int .u64 n)]))⟩)), (3, (.one ⟨false, false, (.ints .u8 l)⟩))] 4 (.tup [(.c (.sl 4 0 0 (W.be2 (W.apply (W.bts K) 1 (W.nonce n) (List.take (q - 16) (List.drop o l))) 0) 1)), (.c (.int .i64 0))]) [] [(1, (.one ⟨true, ex, (.cells [(.ptr 2 0 0), (.int .i64 (cnt + 1)), (.bool (false))])⟩)), (2, (.one ⟨true, ex, (.cells ((W.bts (W.rk K)).map (C.int .u8) ++ [(.bool (true)), (.int .u64 (n + 1))]))⟩)), (4, (.one ⟨true, false, (.ints .u8 (List.take (W.be2 (W.apply (W.bts K) 1 (W.nonce n) (List.take (q - 16) (List.drop o l))) 0) (List.drop 2 (W.apply (W.bts K) 1 (W.nonce n) (List.take (q - 16) (List.drop o l))))))⟩))] :=
  Contract0.renum (Contract0.of_frun (res := (.tup [(.c (.sl 324 0 0 (W.be2 (W.apply (W.bts K) 1 (W.nonce n) (List.take (q - 16) (List.drop o l))) 0) 1)), (.c (.int .i64 0))])) (up := [(1, (.one ⟨true, ex, (.cells [(.ptr 2 0 0), (.int .i64 (cnt + 1)), (.bool (false))])⟩)), (2, (.one ⟨true, ex, (.cells ((W.bts (W.rk K)).map (C.int .u8) ++ [(.bool (true)), (.int .u64 (n + 1))]))⟩)), (324, (.one ⟨true, false, (.ints .u8 (List.take (W.be2 (W.apply (W.bts K) 1 (W.nonce n) (List.take (q - 16) (List.drop o l))) 0) (List.drop 2 (W.apply (W.bts K) 1 (W.nonce n) (List.take (q - 16) (List.drop o l))))))⟩))]) (kill := []) (n0 := 4) (m := [(1, (.one ⟨true, ex, (.cells [(.ptr 2 0 0), (.int .i64 cnt), (.bool (false))])⟩)), (2, (.one ⟨true, ex, (.cells ((W.bts K).map (C.int .u8) ++ [(.bool (true)), (.int .u64 n)]))⟩)), (3, (.one ⟨false, false, (.ints .u8 l)⟩))]) (args := [(.c (.ptr 1 0 0)), (.c (.sl 3 0 o q 1))]) (fn := Try.f50) (c := bodyOf Try.f50) (fuel := 300) (k := kOf Try.prog Try.f50) (outs := [1, 2, 324]) (hs := [(12, ⟨.call [2, 3] (.tup [(.c (.sl 180 0 0 (q - 16) 1)), (.c (.int .i64 0))]) [] [(2, (.one ⟨true, ex, (.cells ((W.bts K).map (C.int .u8) ++ [(.bool (true)), (.int .u64 (n + 1))]))⟩)), (180, (.one ⟨true, false, (.ints .u8 (W.apply (W.bts K) 1 (W.nonce n) (List.take (q - 16) (List.drop o l))))⟩))], none⟩), (22, ⟨.call [180] (.tup [(.c (.sl 324 0 0 (W.be2 (W.apply (W.bts K) 1 (W.nonce n) (List.take (q - 16) (List.drop o l))) 0) 1)), (.c (.int .i64 0))]) [] [(324, (.one ⟨true, false, (.ints .u8 (List.take (W.be2 (W.apply (W.bts K) 1 (W.nonce n) (List.take (q - 16) (List.drop o l))) 0) (List.drop 2 (W.apply (W.bts K) 1 (W.nonce n) (List.take (q - 16) (List.drop o l))))))⟩))], none⟩), (32, ⟨.call [1, 2] (.tup []) [] [(1, (.one ⟨true, ex, (.cells [(.ptr 2 0 0), (.int .i64 (cnt + 1)), (.bool (false))])⟩)), (2, (.one ⟨true, ex, (.cells ((W.bts (W.rk K)).map (C.int .u8) ++ [(.bool (true)), (.int .u64 (n + 1))]))⟩))], none⟩)])
    (cs := [Contract Try.prog 79 [(.c (.ptr 1 0 0))] [(1, (.one ⟨true, ex, (.cells [(.ptr 2 0 0), (.int .i64 cnt), (.bool (false))])⟩)), (2, (.one ⟨true, ex, (.cells ((W.bts K).map (C.int .u8) ++ [(.bool (true)), (.int .u64 (n + 1))]))⟩))] 468 (.tup []) [] [(1, (.one ⟨true, ex, (.cells [(.ptr 2 0 0), (.int .i64 (cnt + 1)), (.bool (false))])⟩)), (2, (.one ⟨true, ex, (.cells ((W.bts (W.rk K)).map (C.int .u8) ++ [(.bool (true)), (.int .u64 (n + 1))]))⟩))],
      Contract Try.prog 81 [(.c (.sl 180 0 0 (q - 16) 1))] [(180, (.one ⟨true, false, (.ints .u8 (W.apply (W.bts K) 1 (W.nonce n) (List.take (q - 16) (List.drop o l))))⟩))] 324 (.tup [(.c (.sl 324 0 0 (W.be2 (W.apply (W.bts K) 1 (W.nonce n) (List.take (q - 16) (List.drop o l))) 0) 1)), (.c (.int .i64 0))]) [] [(324, (.one ⟨true, false, (.ints .u8 (List.take (W.be2 (W.apply (W.bts K) 1 (W.nonce n) (List.take (q - 16) (List.drop o l))) 0) (List.drop 2 (W.apply (W.bts K) 1 (W.nonce n) (List.take (q - 16) (List.drop o l))))))⟩))],
      Contract Try.prog 32 [(.c (.ptr 2 0 0)), (.c .nils), (.c (.sl 3 0 o q 1))] [(2, (.one ⟨true, ex, (.cells ((W.bts K).map (C.int .u8) ++ [(.bool (true)), (.int .u64 n)]))⟩)), (3, (.one ⟨false, false, (.ints .u8 l)⟩))] 180 (.tup [(.c (.sl 180 0 0 (q - 16) 1)), (.c (.int .i64 0))]) [] [(2, (.one ⟨true, ex, (.cells ((W.bts K).map (C.int .u8) ++ [(.bool (true)), (.int .u64 (n + 1))]))⟩)), (180, (.one ⟨true, false, (.ints .u8 (W.apply (W.bts K) 1 (W.nonce n) (List.take (q - 16) (List.drop o l))))⟩))]])
    mixed Try.func50 (by kernel_rfl) (by kernel_rfl) (by kernel_rfl) (by kernel_rfl) (by kernel_rfl) ⟨Contract0.inst (hcounts_t ex cnt (n + 1) K false (by omega) c3) [.b 1 1 false [], .b 2 2 false []] [none] [] [] (by kernel_rfl) (by kernel_rfl) (by kernel_rfl) (by kernel_rfl) (by kernel_rfl), Contract0.inst (unpad_ok (W.apply (W.bts K) 1 (W.nonce n) (List.take (q - 16) (List.drop o l))) 0 (q - 16) (by simp only [and_true, List.length_set, List.length_append, List.length_replicate, List.length_take, List.length_drop, List.length_map, List.length_cons, List.length_nil, List.length_zipWith, splice_len1, W.le_len, W.bts_len, Int.toNat_natCast, addO_eq, mulE_eq, mulE_one, W.once_len, W.block_len, W.p8_len, W.apply_len, W.boxTag_len, W.box_len, W.nonce_len, W.hand_len, W.tag_len, W.padd_len, W.frm_len]; omega) (by omega) (by repeat' with_reducible first | assumption | exact W.p8_bytes | exact W.bytes_zero | exact W.apply_bytes | exact W.once_bytes | exact W.tag_bytes | exact W.boxTag_bytes | exact W.box_bytes | exact W.bytes_nil | exact W.bts_bytes | exact W.le_bytes | exact W.hand_bytes | exact W.padd_bytes | exact W.frm_bytes | apply W.bytes_app | apply W.bytes_take | apply W.bytes_drop) c2) [.b 180 1 true []] [none] [(2, 324)] [] (by kernel_rfl) (by kernel_rfl) (by kernel_rfl) (by kernel_rfl) (by kernel_rfl), Contract0.inst (copenK_o ex n K [] l 0 0 o q (by omega) (by omega) (by omega) (by omega) (by omega) (by repeat' with_reducible first | assumption | exact W.p8_bytes | exact W.bytes_zero | exact W.apply_bytes | exact W.once_bytes | exact W.tag_bytes | exact W.boxTag_bytes | exact W.box_bytes | exact W.bytes_nil | exact W.bts_bytes | exact W.le_bytes | exact W.hand_bytes | exact W.padd_bytes | exact W.frm_bytes | apply W.bytes_app | apply W.bytes_take | apply W.bytes_drop) (by omega) (by omega) c0 c1) [.b 2 1 false [], .z 2 (.ints .u8 []), .b 3 3 true []] [none, some (2, 1), none] [(4, 180)] [] (by kernel_rfl) (by kernel_rfl) (by kernel_rfl) (by kernel_rfl) (by kernel_rfl), trivial⟩) [.b 1 1 false, .b 2 2 false, .b 3 3 true] [] [(324, 4)] [] (by kernel_rfl) (by kernel_rfl) (by kernel_rfl) (by kernel_rfl) (by kernel_rfl)

theorem hopen_c2c0c1 (ex : Bool) (cnt n K : Int) (l : List Int) (o q : Nat)
    (hl : o + q ≤ l.length)
    (hlb : W.bytes l)
    (hq : q ≤ 1073741808)
    (hn : 0 ≤ n ∧ n < 18446744073709551616)
    (hL : ¬ n = 18446744073709551615)
    (hc : 0 ≤ cnt ∧ cnt < 1000000)
    (c0 : (¬(↑q : Int) < (16 : Int)))
    (c1 : (List.take (16 : Nat) (List.drop (o + (q - (16 : Nat))) l) = List.take (16 : Nat) (W.boxTag (W.bts K) (W.nonce n) (List.take (0 : Nat) (List.drop (0 : Nat) [])) (List.take (q - (16 : Nat)) (List.drop o l)))))
    (c2 : (W.upOk (W.apply (W.bts K) (1 : Int) (W.nonce n) (List.take (q - (16 : Nat)) (List.drop o l))) (0 : Nat) (q - (16 : Nat))))
    (c3 : (¬Int.tmod (cnt + (1 : Int)) (16 : Int) = (0 : Int))) :
    Contract0 Try.prog 50 [(.c (.ptr 1 0 0)), (.c (.sl 3 0 o q 1))] [(1, (.one ⟨true, ex, (.cells [(.ptr 2 0 0), (.int .i64 cnt), (.bool (false))])⟩)), (2, (.one ⟨true, ex, (.cells ((W.bts K).map (C.int .u8) ++ [(.bool (true)), (.int .u64 n)]))⟩)), (3, (.one ⟨false, false, (.ints .u8 l)⟩))] 4 (.tup [(.c (.sl 4 0 0 (W.be2 (W.apply (W.bts K) 1 (W.nonce n) (List.take (q - 16) (List.drop o l))) 0) 1)), (.c (.int .i64 0))]) [] [(1, (.one ⟨true, ex, (.cells [(.ptr 2 0 0), (.int .i64 (cnt + 1)), (.bool (false))])⟩)), (2, (.one ⟨true, ex, (.cells ((W.bts K).map (C.int .u8) ++ [(.bool (true)), (.int .u64 (n + 1))]))⟩)), (4, (.one ⟨true, false, (.ints .u8 (List.take (W.be2 (W.apply (W.bts K) 1 (W.nonce n) (List.take (q - 16) (List.drop o l))) 0) (List.drop 2 (W.apply (W.bts K) 1 (W.nonce n) (List.take (q - 16) (List.drop o l))))))⟩))] :=
  Contract0.renum (Contract0.of_frun (res := (.tup [(.c (.sl 324 0 0 (W.be2 (W.apply (W.bts K) 1 (W.nonce n) (List.take (q - 16) (List.drop o l))) 0) 1)), (.c (.int .i64 0))])) (up := [(1, (.one ⟨true, ex, (.cells [(.ptr 2 0 0), (.int .i64 (cnt + 1)), (.bool (false))])⟩)), (2, (.one ⟨true, ex, (.cells ((W.bts K).map (C.int .u8) ++ [(.bool (true)), (.int .u64 (n + 1))]))⟩)), (324, (.one ⟨true, false, (.ints .u8 (List.take (W.be2 (W.apply (W.bts K) 1 (W.nonce n) (List.take (q - 16) (List.drop o l))) 0) (List.drop 2 (W.apply (W.bts K) 1 (W.nonce n) (List.take (q - 16) (List.drop o l))))))⟩))]) (kill := []) (n0 := 4) (m := [(1, (.one ⟨true, ex, (.cells [(.ptr 2 0 0), (.int .i64 cnt), (.bool (false))])⟩)), (2, (.one ⟨true, ex, (.cells ((W.bts K).map (C.int .u8) ++ [(.bool (true)), (.int .u64 n)]))⟩)), (3, (.one ⟨false, false, (.ints .u8 l)⟩))]) (args := [(.c (.ptr 1 0 0)), (.c (.sl 3 0 o q 1))]) (fn := Try.f50) (c := bodyOf Try.f50) (fuel := 300) (k := kOf Try.prog Try.f50) (outs := [1, 2, 324]) (hs := [(12, ⟨.call [2, 3] (.tup [(.c (.sl 180 0 0 (q - 16) 1)), (.c (.int .i64 0))]) [] [(2, (.one ⟨true, ex, (.cells ((W.bts K).map (C.int .u8) ++ [(.bool (true)), (.int .u64 (n + 1))]))⟩)), (180, (.one ⟨true, false, (.ints .u8 (W.apply (W.bts K) 1 (W.nonce n) (List.take (q - 16) (List.drop o l))))⟩))], none⟩), (22, ⟨.call [180] (.tup [(.c (.sl 324 0 0 (W.be2 (W.apply (W.bts K) 1 (W.nonce n) (List.take (q - 16) (List.drop o l))) 0) 1)), (.c (.int .i64 0))]) [] [(324, (.one ⟨true, false, (.ints .u8 (List.take (W.be2 (W.apply (W.bts K) 1 (W.nonce n) (List.take (q - 16) (List.drop o l))) 0) (List.drop 2 (W.apply (W.bts K) 1 (W.nonce n) (List.take (q - 16) (List.drop o l))))))⟩))], none⟩), (32, ⟨.call [1, 2] (.tup []) [] [(1, (.one ⟨true, ex, (.cells [(.ptr 2 0 0), (.int .i64 (cnt + 1)), (.bool (false))])⟩)), (2, (.one ⟨true, ex, (.cells ((W.bts K).map (C.int .u8) ++ [(.bool (true)), (.int .u64 (n + 1))]))⟩))], none⟩)])
    (cs := [Contract Try.prog 79 [(.c (.ptr 1 0 0))] [(1, (.one ⟨true, ex, (.cells [(.ptr 2 0 0), (.int .i64 cnt), (.bool (false))])⟩)), (2, (.one ⟨true, ex, (.cells ((W.bts K).map (C.int .u8) ++ [(.bool (true)), (.int .u64 (n + 1))]))⟩))] 468 (.tup []) [] [(1, (.one ⟨true, ex, (.cells [(.ptr 2 0 0), (.int .i64 (cnt + 1)), (.bool (false))])⟩)), (2, (.one ⟨true, ex, (.cells ((W.bts K).map (C.int .u8) ++ [(.bool (true)), (.int .u64 (n + 1))]))⟩))],
      Contract Try.prog 81 [(.c (.sl 180 0 0 (q - 16) 1))] [(180, (.one ⟨true, false, (.ints .u8 (W.apply (W.bts K) 1 (W.nonce n) (List.take (q - 16) (List.drop o l))))⟩))] 324 (.tup [(.c (.sl 324 0 0 (W.be2 (W.apply (W.bts K) 1 (W.nonce n) (List.take (q - 16) (List.drop o l))) 0) 1)), (.c (.int .i64 0))]) [] [(324, (.one ⟨true, false, (.ints .u8 (List.take (W.be2 (W.apply (W.bts K) 1 (W.nonce n) (List.take (q - 16) (List.drop o l))) 0) (List.drop 2 (W.apply (W.bts K) 1 (W.nonce n) (List.take (q - 16) (List.drop o l))))))⟩))],
      Contract Try.prog 32 [(.c (.ptr 2 0 0)), (.c .nils), (.c (.sl 3 0 o q 1))] [(2, (.one ⟨true, ex, (.cells ((W.bts K).map (C.int .u8) ++ [(.bool (true)), (.int .u64 n)]))⟩)), (3, (.one ⟨false, false, (.ints .u8 l)⟩))] 180 (.tup [(.c (.sl 180 0 0 (q - 16) 1)), (.c (.int .i64 0))]) [] [(2, (.one ⟨true, ex, (.cells ((W.bts K).map (C.int .u8) ++ [(.bool (true)), (.int .u64 (n + 1))]))⟩)), (180, (.one ⟨true, false, (.ints .u8 (W.apply (W.bts K) 1 (W.nonce n) (List.take (q - 16) (List.drop o l))))⟩))]])
    mixed Try.func50 (by kernel_rfl) (by kernel_rfl) (by kernel_rfl) (by kernel_rfl) (by kernel_rfl) ⟨Contract0.inst (hcounts_f ex cnt (n + 1) K false (by omega) c3) [.b 1 1 false [], .b 2 2 false []] [none] [] [] (by kernel_rfl) (by kernel_rfl) (by kernel_rfl) (by kernel_rfl) (by kernel_rfl), Contract0.inst (unpad_ok (W.apply (W.bts K) 1 (W.nonce n) (List.take (q - 16) (List.drop o l))) 0 (q - 16) (by simp only [and_true, List.length_set, List.length_append, List.length_replicate, List.length_take, List.length_drop, List.length_map, List.length_cons, List.length_nil, List.length_zipWith, splice_len1, W.le_len, W.bts_len, Int.toNat_natCast, addO_eq, mulE_eq, mulE_one, W.once_len, W.block_len, W.p8_len, W.apply_len, W.boxTag_len, W.box_len, W.nonce_len, W.hand_len, W.tag_len, W.padd_len, W.frm_len]; omega) (by omega) (by repeat' with_reducible first | assumption | exact W.p8_bytes | exact W.bytes_zero | exact W.apply_bytes | exact W.once_bytes | exact W.tag_bytes | exact W.boxTag_bytes | exact W.box_bytes | exact W.bytes_nil | exact W.bts_bytes | exact W.le_bytes | exact W.hand_bytes | exact W.padd_bytes | exact W.frm_bytes | apply W.bytes_app | apply W.bytes_take | apply W.bytes_drop) c2) [.b 180 1 true []] [none] [(2, 324)] [] (by kernel_rfl) (by kernel_rfl) (by kernel_rfl) (by kernel_rfl) (by kernel_rfl), Contract0.inst (copenK_o ex n K [] l 0 0 o q (by omega) (by omega) (by omega) (by omega) (by omega) (by repeat' with_reducible first | assumption | exact W.p8_bytes | exact W.bytes_zero | exact W.apply_bytes | exact W.once_bytes | exact W.tag_bytes | exact W.boxTag_bytes | exact W.box_bytes | exact W.bytes_nil | exact W.bts_bytes | exact W.le_bytes | exact W.hand_bytes | exact W.padd_bytes | exact W.frm_bytes | apply W.bytes_app | apply W.bytes_take | apply W.bytes_drop) (by omega) (by omega) c0 c1) [.b 2 1 false [], .z 2 (.ints .u8 []), .b 3 3 true []] [none, some (2, 1), none] [(4, 180)] [] (by kernel_rfl) (by kernel_rfl) (by kernel_rfl) (by kernel_rfl) (by kernel_rfl), trivial⟩) [.b 1 1 false, .b 2 2 false, .b 3 3 true] [] [(324, 4)] [] (by kernel_rfl) (by kernel_rfl) (by kernel_rfl) (by kernel_rfl) (by kernel_rfl)

theorem hopen_c2c1 (ex : Bool) (cnt n K : Int) (l : List Int) (o q : Nat)
    (hl : o + q ≤ l.length)
    (hlb : W.bytes l)
    (hq : q ≤ 1073741808)
    (hn : 0 ≤ n ∧ n < 18446744073709551616)
    (hL : ¬ n = 18446744073709551615)
    (hc : 0 ≤ cnt ∧ cnt < 1000000)
    (c0 : (¬(↑q : Int) < (16 : Int)))
    (c1 : (List.take (16 : Nat) (List.drop (o + (q - (16 : Nat))) l) = List.take (16 : Nat) (W.boxTag (W.bts K) (W.nonce n) (List.take (0 : Nat) (List.drop (0 : Nat) [])) (List.take (q - (16 : Nat)) (List.drop o l)))))
    (c2 : (¬W.upOk (W.apply (W.bts K) (1 : Int) (W.nonce n) (List.take (q - (16 : Nat)) (List.drop o l))) (0 : Nat) (q - (16 : Nat)))) :
    Contract0 Try.prog 50 [(.c (.ptr 1 0 0)), (.c (.sl 3 0 o q 1))] [(1, (.one ⟨true, ex, (.cells [(.ptr 2 0 0), (.int .i64 cnt), (.bool (false))])⟩)), (2, (.one ⟨true, ex, (.cells ((W.bts K).map (C.int .u8) ++ [(.bool (true)), (.int .u64 n)]))⟩)), (3, (.one ⟨false, false, (.ints .u8 l)⟩))] 4 (.tup [(.c .nils), (.c (.int .i64 5))]) [] [(1, (.one ⟨true, ex, (.cells [(.ptr 2 0 0), (.int .i64 cnt), (.bool (true))])⟩)), (2, (.one ⟨true, ex, (.cells ((W.bts K).map (C.int .u8) ++ [(.bool (true)), (.int .u64 (n + 1))]))⟩))] :=
  Contract0.renum (Contract0.of_frun (res := (.tup [(.c .nils), (.c (.int .i64 5))])) (up := [(1, (.one ⟨true, ex, (.cells [(.ptr 2 0 0), (.int .i64 cnt), (.bool (true))])⟩)), (2, (.one ⟨true, ex, (.cells ((W.bts K).map (C.int .u8) ++ [(.bool (true)), (.int .u64 (n + 1))]))⟩))]) (kill := []) (n0 := 4) (m := [(1, (.one ⟨true, ex, (.cells [(.ptr 2 0 0), (.int .i64 cnt), (.bool (false))])⟩)), (2, (.one ⟨true, ex, (.cells ((W.bts K).map (C.int .u8) ++ [(.bool (true)), (.int .u64 n)]))⟩)), (3, (.one ⟨false, false, (.ints .u8 l)⟩))]) (args := [(.c (.ptr 1 0 0)), (.c (.sl 3 0 o q 1))]) (fn := Try.f50) (c := bodyOf Try.f50) (fuel := 300) (k := kOf Try.prog Try.f50) (outs := [1, 2]) (hs := [(12, ⟨.call [2, 3] (.tup [(.c (.sl 180 0 0 (q - 16) 1)), (.c (.int .i64 0))]) [] [(2, (.one ⟨true, ex, (.cells ((W.bts K).map (C.int .u8) ++ [(.bool (true)), (.int .u64 (n + 1))]))⟩)), (180, (.one ⟨true, false, (.ints .u8 (W.apply (W.bts K) 1 (W.nonce n) (List.take (q - 16) (List.drop o l))))⟩))], none⟩), (22, ⟨.call [180] (.tup [(.c .nils), (.c (.int .i64 5))]) [] [], none⟩), (33, ⟨.call [1, 2] (.tup [(.c .nils), (.c (.int .i64 5))]) [] [(1, (.one ⟨true, ex, (.cells [(.ptr 2 0 0), (.int .i64 cnt), (.bool (true))])⟩)), (2, (.one ⟨true, ex, (.cells ((W.bts K).map (C.int .u8) ++ [(.bool (true)), (.int .u64 (n + 1))]))⟩))], none⟩)])
    (cs := [Contract Try.prog 78 [(.c (.ptr 1 0 0)), (.c (.int .i64 5))] [(1, (.one ⟨true, ex, (.cells [(.ptr 2 0 0), (.int .i64 cnt), (.bool (false))])⟩)), (2, (.one ⟨true, ex, (.cells ((W.bts K).map (C.int .u8) ++ [(.bool (true)), (.int .u64 (n + 1))]))⟩))] 484 (.tup [(.c .nils), (.c (.int .i64 5))]) [] [(1, (.one ⟨true, ex, (.cells [(.ptr 2 0 0), (.int .i64 cnt), (.bool (true))])⟩)), (2, (.one ⟨true, ex, (.cells ((W.bts K).map (C.int .u8) ++ [(.bool (true)), (.int .u64 (n + 1))]))⟩))],
      Contract Try.prog 81 [(.c (.sl 180 0 0 (q - 16) 1))] [(180, (.one ⟨true, false, (.ints .u8 (W.apply (W.bts K) 1 (W.nonce n) (List.take (q - 16) (List.drop o l))))⟩))] 324 (.tup [(.c .nils), (.c (.int .i64 5))]) [] [],
      Contract Try.prog 32 [(.c (.ptr 2 0 0)), (.c .nils), (.c (.sl 3 0 o q 1))] [(2, (.one ⟨true, ex, (.cells ((W.bts K).map (C.int .u8) ++ [(.bool (true)), (.int .u64 n)]))⟩)), (3, (.one ⟨false, false, (.ints .u8 l)⟩))] 180 (.tup [(.c (.sl 180 0 0 (q - 16) 1)), (.c (.int .i64 0))]) [] [(2, (.one ⟨true, ex, (.cells ((W.bts K).map (C.int .u8) ++ [(.bool (true)), (.int .u64 (n + 1))]))⟩)), (180, (.one ⟨true, false, (.ints .u8 (W.apply (W.bts K) 1 (W.nonce n) (List.take (q - 16) (List.drop o l))))⟩))]])
    mixed Try.func50 (by kernel_rfl) (by kernel_rfl) (by kernel_rfl) (by kernel_rfl) (by kernel_rfl) ⟨Contract0.inst (hfault ex cnt 5 (n + 1) K false) [.b 1 1 false [], .b 2 2 false []] [none, none] [] [] (by kernel_rfl) (by kernel_rfl) (by kernel_rfl) (by kernel_rfl) (by kernel_rfl), Contract0.inst (unpad_no (W.apply (W.bts K) 1 (W.nonce n) (List.take (q - 16) (List.drop o l))) 0 (q - 16) (by simp only [and_true, List.length_set, List.length_append, List.length_replicate, List.length_take, List.length_drop, List.length_map, List.length_cons, List.length_nil, List.length_zipWith, splice_len1, W.le_len, W.bts_len, Int.toNat_natCast, addO_eq, mulE_eq, mulE_one, W.once_len, W.block_len, W.p8_len, W.apply_len, W.boxTag_len, W.box_len, W.nonce_len, W.hand_len, W.tag_len, W.padd_len, W.frm_len]; omega) (by omega) (by repeat' with_reducible first | assumption | exact W.p8_bytes | exact W.bytes_zero | exact W.apply_bytes | exact W.once_bytes | exact W.tag_bytes | exact W.boxTag_bytes | exact W.box_bytes | exact W.bytes_nil | exact W.bts_bytes | exact W.le_bytes | exact W.hand_bytes | exact W.padd_bytes | exact W.frm_bytes | apply W.bytes_app | apply W.bytes_take | apply W.bytes_drop) c2) [.b 180 1 true []] [none] [] [] (by kernel_rfl) (by kernel_rfl) (by kernel_rfl) (by kernel_rfl) (by kernel_rfl), Contract0.inst (copenK_o ex n K [] l 0 0 o q (by omega) (by omega) (by omega) (by omega) (by omega) (by repeat' with_reducible first | assumption | exact W.p8_bytes | exact W.bytes_zero | exact W.apply_bytes | exact W.once_bytes | exact W.tag_bytes | exact W.boxTag_bytes | exact W.box_bytes | exact W.bytes_nil | exact W.bts_bytes | exact W.le_bytes | exact W.hand_bytes | exact W.padd_bytes | exact W.frm_bytes | apply W.bytes_app | apply W.bytes_take | apply W.bytes_drop) (by omega) (by omega) c0 c1) [.b 2 1 false [], .z 2 (.ints .u8 []), .b 3 3 true []] [none, some (2, 1), none] [(4, 180)] [] (by kernel_rfl) (by kernel_rfl) (by kernel_rfl) (by kernel_rfl) (by kernel_rfl), trivial⟩) [.b 1 1 false, .b 2 2 false, .b 3 3 true] [] [] [] (by kernel_rfl) (by kernel_rfl) (by kernel_rfl) (by kernel_rfl) (by kernel_rfl)


-- hopen: 4777 ms
end Go.Proofs.Ytmfnldkiaodkpaa.Vm

namespace Go.Proofs.Ytmfnldkiaodkpaa
open Classical in
/-- What is answered to a box that is opened: 0, or why not. -/
noncomputable def W.opErr (K n : Int) (l : List Int) (o q : Nat) : Int := if (q : Int) < 16 then 7 else if (List.take 16 (List.drop (o + (q - 16)) l) = List.take 16 (W.boxTag (W.bts K) (W.nonce n) (List.take 0 (List.drop 0 [])) (List.take (q - 16) (List.drop o l)))) then (if (W.upOk (W.apply (W.bts K) 1 (W.nonce n) (List.take (q - 16) (List.drop o l))) 0 (q - 16)) then 0 else 5) else 8
open Classical in
/-- The nonce behind a box that could not be opened. -/
noncomputable def W.opN (K n : Int) (l : List Int) (o q : Nat) : Int := if (q : Int) < 16 then n else if (List.take 16 (List.drop (o + (q - 16)) l) = List.take 16 (W.boxTag (W.bts K) (W.nonce n) (List.take 0 (List.drop 0 [])) (List.take (q - 16) (List.drop o l)))) then n + 1 else n
theorem W.opErr_0 {K n : Int} {l : List Int} {o q : Nat} (h : W.opErr K n l o q = 0) : (¬ (q : Int) < 16) ∧ (List.take 16 (List.drop (o + (q - 16)) l) = List.take 16 (W.boxTag (W.bts K) (W.nonce n) (List.take 0 (List.drop 0 [])) (List.take (q - 16) (List.drop o l)))) ∧ (W.upOk (W.apply (W.bts K) 1 (W.nonce n) (List.take (q - 16) (List.drop o l))) 0 (q - 16)) := by
  unfold W.opErr at h
  split at h
  · cases h
  · rename_i h1
    split at h
    · rename_i h2
      split at h
      · rename_i h3
        exact ⟨h1, h2, h3⟩
      · cases h
    · cases h
theorem W.opN_le {K n : Int} {l : List Int} {o q : Nat} : n ≤ W.opN K n l o q ∧ W.opN K n l o q ≤ n + 1 := by
  unfold W.opN; split
  · omega
  · split <;> omega
end Go.Proofs.Ytmfnldkiaodkpaa
namespace Go.Proofs.Ytmfnldkiaodkpaa.Vm
open Go Go.Proofs Go.Proofs.Ytmfnldkiaodkpaa
theorem hbroken_true (cnt : Int) (bad h : Bool) (n K : Int) (h0_ : bad = true) : Contract0 Try.prog 48 [(.c (.ptr 1 0 0))] [(1, (.one ⟨false, false, .cells [.ptr 2 0 0, .int .i64 cnt, .bool bad]⟩)), (2, (.one ⟨false, false, .cells ((W.bts K).map (C.int .u8) ++ [.bool h, .int .u64 n])⟩))] 3 (.c (.bool true)) [] [] := by
  subst h0_
  exact hbroken cnt true h n K
theorem hbroken_false (cnt : Int) (bad h : Bool) (n K : Int) (h0_ : bad = false) : Contract0 Try.prog 48 [(.c (.ptr 1 0 0))] [(1, (.one ⟨false, false, .cells [.ptr 2 0 0, .int .i64 cnt, .bool bad]⟩)), (2, (.one ⟨false, false, .cells ((W.bts K).map (C.int .u8) ++ [.bool h, .int .u64 n])⟩))] 3 (.c (.bool false)) [] [] := by
  subst h0_
  exact hbroken cnt false h n K
theorem hopenB (ex bad : Bool) (cnt n K : Int) (l : List Int) (o q : Nat) (h0_ : bad = true) : Contract0 Try.prog 50 [(.c (.ptr 1 0 0)), (.c (.sl 3 0 o q 1))] [(1, (.one ⟨true, ex, .cells [.ptr 2 0 0, .int .i64 cnt, .bool bad]⟩)), (2, (.one ⟨true, ex, .cells ((W.bts K).map (C.int .u8) ++ [.bool true, .int .u64 n])⟩)), (3, (.one ⟨false, false, (.ints .u8 l)⟩))] 4 (.tup [(.c .nils), (.c (.int .i64 4))]) [] [(1, (.one ⟨true, ex, .cells [.ptr 2 0 0, .int .i64 cnt, .bool bad]⟩)), (2, (.one ⟨true, ex, .cells ((W.bts K).map (C.int .u8) ++ [.bool true, .int .u64 n])⟩))] := by
  subst h0_
  exact hopen_bad ex cnt n K l o q
theorem hsealB (ex bad : Bool) (cnt n K : Int) (l : List Int) (o q : Nat) (h0_ : bad = true) : Contract0 Try.prog 37 [(.c (.ptr 1 0 0)), (.c (.sl 3 0 o q 1))] [(1, (.one ⟨true, ex, .cells [.ptr 2 0 0, .int .i64 cnt, .bool bad]⟩)), (2, (.one ⟨true, ex, .cells ((W.bts K).map (C.int .u8) ++ [.bool true, .int .u64 n])⟩)), (3, (.one ⟨false, false, (.ints .u8 l)⟩))] 4 (.tup [(.c .nils), (.c (.int .i64 4))]) [] [(1, (.one ⟨true, ex, .cells [.ptr 2 0 0, .int .i64 cnt, .bool bad]⟩)), (2, (.one ⟨true, ex, .cells ((W.bts K).map (C.int .u8) ++ [.bool true, .int .u64 n])⟩))] := by
  subst h0_
  exact hseal_bad ex cnt n K l o q
theorem hsealY_t (ex bad : Bool) (cnt n K : Int) (l : List Int) (o q : Nat) (h0_ : bad = false) (h1_ : o + q ≤ l.length) (h2_ : W.bytes l) (h3_ : q ≤ 3966) (h4_ : 0 ≤ n ∧ n < 18446744073709551616) (h5_ : ¬ n = 18446744073709551615) (h6_ : 0 ≤ cnt ∧ cnt < 1000000) (h7_ : (cnt + 1) % 16 = 0) : Contract0 Try.prog 37 [(.c (.ptr 1 0 0)), (.c (.sl 3 0 o q 1))] [(1, (.one ⟨true, ex, .cells [.ptr 2 0 0, .int .i64 cnt, .bool bad]⟩)), (2, (.one ⟨true, ex, .cells ((W.bts K).map (C.int .u8) ++ [.bool true, .int .u64 n])⟩)), (3, (.one ⟨false, false, (.ints .u8 l)⟩))] 4 (.tup [(.c (.sl 4 0 0 (W.bkt q + 18) 1)), (.c (.int .i64 0))]) [] [(1, (.one ⟨true, ex, .cells [.ptr 2 0 0, .int .i64 (cnt + 1), .bool false]⟩)), (2, (.one ⟨true, ex, .cells ((W.bts (W.rk K)).map (C.int .u8) ++ [.bool true, .int .u64 (n + 1)])⟩)), (4, (.one ⟨true, false, (.ints .u8 (W.rcd K n q (List.take q (List.drop o l))))⟩))] := by
  subst h0_
  exact hseal_t ex cnt n K l o q h1_ h2_ h3_ h4_ h5_ h6_ h7_
theorem hsealY_f (ex bad : Bool) (cnt n K : Int) (l : List Int) (o q : Nat) (h0_ : bad = false) (h1_ : o + q ≤ l.length) (h2_ : W.bytes l) (h3_ : q ≤ 3966) (h4_ : 0 ≤ n ∧ n < 18446744073709551616) (h5_ : ¬ n = 18446744073709551615) (h6_ : 0 ≤ cnt ∧ cnt < 1000000) (h7_ : ¬ (cnt + 1) % 16 = 0) : Contract0 Try.prog 37 [(.c (.ptr 1 0 0)), (.c (.sl 3 0 o q 1))] [(1, (.one ⟨true, ex, .cells [.ptr 2 0 0, .int .i64 cnt, .bool bad]⟩)), (2, (.one ⟨true, ex, .cells ((W.bts K).map (C.int .u8) ++ [.bool true, .int .u64 n])⟩)), (3, (.one ⟨false, false, (.ints .u8 l)⟩))] 4 (.tup [(.c (.sl 4 0 0 (W.bkt q + 18) 1)), (.c (.int .i64 0))]) [] [(1, (.one ⟨true, ex, .cells [.ptr 2 0 0, .int .i64 (cnt + 1), .bool false]⟩)), (2, (.one ⟨true, ex, .cells ((W.bts K).map (C.int .u8) ++ [.bool true, .int .u64 (n + 1)])⟩)), (4, (.one ⟨true, false, (.ints .u8 (W.rcd K n q (List.take q (List.drop o l))))⟩))] := by
  subst h0_
  exact hseal_f ex cnt n K l o q h1_ h2_ h3_ h4_ h5_ h6_ h7_
theorem hopenY_t (ex bad : Bool) (cnt n K : Int) (l : List Int) (o q : Nat) (h0_ : bad = false) (h1_ : o + q ≤ l.length) (h2_ : W.bytes l) (h3_ : q ≤ 1073741808) (h4_ : 0 ≤ n ∧ n < 18446744073709551616) (h5_ : ¬ n = 18446744073709551615) (h6_ : 0 ≤ cnt ∧ cnt < 1000000) (h7_ : W.opErr K n l o q = 0) (h8_ : (cnt + 1) % 16 = 0) : Contract0 Try.prog 50 [(.c (.ptr 1 0 0)), (.c (.sl 3 0 o q 1))] [(1, (.one ⟨true, ex, .cells [.ptr 2 0 0, .int .i64 cnt, .bool bad]⟩)), (2, (.one ⟨true, ex, .cells ((W.bts K).map (C.int .u8) ++ [.bool true, .int .u64 n])⟩)), (3, (.one ⟨false, false, (.ints .u8 l)⟩))] 4 (.tup [(.c (.sl 4 0 0 (W.be2 (W.apply (W.bts K) 1 (W.nonce n) (List.take (q - 16) (List.drop o l))) 0) 1)), (.c (.int .i64 0))]) [] [(1, (.one ⟨true, ex, .cells [.ptr 2 0 0, .int .i64 (cnt + 1), .bool false]⟩)), (2, (.one ⟨true, ex, .cells ((W.bts (W.rk K)).map (C.int .u8) ++ [.bool true, .int .u64 (n + 1)])⟩)), (4, (.one ⟨true, false, (.ints .u8 (List.take (W.be2 (W.apply (W.bts K) 1 (W.nonce n) (List.take (q - 16) (List.drop o l))) 0) (List.drop 2 (W.apply (W.bts K) 1 (W.nonce n) (List.take (q - 16) (List.drop o l))))))⟩))] := by
  subst h0_
  obtain ⟨a, b, d⟩ := W.opErr_0 h7_
  exact hopen_c2c0c0 ex cnt n K l o q h1_ h2_ h3_ h4_ h5_ h6_ a b d (by rw [Int.tmod_eq_emod_of_nonneg (by omega)]; exact h8_)
theorem hopenY_f (ex bad : Bool) (cnt n K : Int) (l : List Int) (o q : Nat) (h0_ : bad = false) (h1_ : o + q ≤ l.length) (h2_ : W.bytes l) (h3_ : q ≤ 1073741808) (h4_ : 0 ≤ n ∧ n < 18446744073709551616) (h5_ : ¬ n = 18446744073709551615) (h6_ : 0 ≤ cnt ∧ cnt < 1000000) (h7_ : W.opErr K n l o q = 0) (h8_ : ¬ (cnt + 1) % 16 = 0) : Contract0 Try.prog 50 [(.c (.ptr 1 0 0)), (.c (.sl 3 0 o q 1))] [(1, (.one ⟨true, ex, .cells [.ptr 2 0 0, .int .i64 cnt, .bool bad]⟩)), (2, (.one ⟨true, ex, .cells ((W.bts K).map (C.int .u8) ++ [.bool true, .int .u64 n])⟩)), (3, (.one ⟨false, false, (.ints .u8 l)⟩))] 4 (.tup [(.c (.sl 4 0 0 (W.be2 (W.apply (W.bts K) 1 (W.nonce n) (List.take (q - 16) (List.drop o l))) 0) 1)), (.c (.int .i64 0))]) [] [(1, (.one ⟨true, ex, .cells [.ptr 2 0 0, .int .i64 (cnt + 1), .bool false]⟩)), (2, (.one ⟨true, ex, .cells ((W.bts K).map (C.int .u8) ++ [.bool true, .int .u64 (n + 1)])⟩)), (4, (.one ⟨true, false, (.ints .u8 (List.take (W.be2 (W.apply (W.bts K) 1 (W.nonce n) (List.take (q - 16) (List.drop o l))) 0) (List.drop 2 (W.apply (W.bts K) 1 (W.nonce n) (List.take (q - 16) (List.drop o l))))))⟩))] := by
  subst h0_
  obtain ⟨a, b, d⟩ := W.opErr_0 h7_
  exact hopen_c2c0c1 ex cnt n K l o q h1_ h2_ h3_ h4_ h5_ h6_ a b d (by rw [Int.tmod_eq_emod_of_nonneg (by omega)]; exact h8_)
theorem hopenN (ex bad : Bool) (cnt n K : Int) (l : List Int) (o q : Nat) (h0_ : bad = false) (h1_ : o + q ≤ l.length) (h2_ : W.bytes l) (h3_ : q ≤ 1073741808) (h4_ : 0 ≤ n ∧ n < 18446744073709551616) (h5_ : ¬ n = 18446744073709551615) (h6_ : 0 ≤ cnt ∧ cnt < 1000000) (h7_ : ¬ W.opErr K n l o q = 0) : Contract0 Try.prog 50 [(.c (.ptr 1 0 0)), (.c (.sl 3 0 o q 1))] [(1, (.one ⟨true, ex, .cells [.ptr 2 0 0, .int .i64 cnt, .bool bad]⟩)), (2, (.one ⟨true, ex, .cells ((W.bts K).map (C.int .u8) ++ [.bool true, .int .u64 n])⟩)), (3, (.one ⟨false, false, (.ints .u8 l)⟩))] 4 (.tup [(.c .nils), (.c (.int .i64 (W.opErr K n l o q)))]) [] [(1, (.one ⟨true, ex, .cells [.ptr 2 0 0, .int .i64 cnt, .bool true]⟩)), (2, (.one ⟨true, ex, .cells ((W.bts K).map (C.int .u8) ++ [.bool true, .int .u64 (W.opN K n l o q)])⟩))] := by
  subst h0_
  by_cases h1 : (q : Int) < 16
  · have e1 : W.opErr K n l o q = 7 := by unfold W.opErr; rw [if_pos h1]
    have e2 : W.opN K n l o q = n := by unfold W.opN; rw [if_pos h1]
    rw [e1, e2]
    exact hopen_c0 ex cnt n K l o q h1_ h2_ h3_ h4_ h5_ h6_ h1
  · by_cases h2 : (List.take 16 (List.drop (o + (q - 16)) l) = List.take 16 (W.boxTag (W.bts K) (W.nonce n) (List.take 0 (List.drop 0 [])) (List.take (q - 16) (List.drop o l))))
    · by_cases h3 : (W.upOk (W.apply (W.bts K) 1 (W.nonce n) (List.take (q - 16) (List.drop o l))) 0 (q - 16))
      · exact absurd (by unfold W.opErr; rw [if_neg h1, if_pos h2, if_pos h3]) h7_
      · have e1 : W.opErr K n l o q = 5 := by unfold W.opErr; rw [if_neg h1, if_pos h2, if_neg h3]
        have e2 : W.opN K n l o q = n + 1 := by unfold W.opN; rw [if_neg h1, if_pos h2]
        rw [e1, e2]
        exact hopen_c2c1 ex cnt n K l o q h1_ h2_ h3_ h4_ h5_ h6_ h1 h2 h3
    · have e1 : W.opErr K n l o q = 8 := by unfold W.opErr; rw [if_neg h1, if_neg h2]
      have e2 : W.opN K n l o q = n := by unfold W.opN; rw [if_neg h1, if_neg h2]
      rw [e1, e2]
      exact hopen_c1 ex cnt n K l o q h1_ h2_ h3_ h4_ h5_ h6_ h1 h2
end Go.Proofs.Ytmfnldkiaodkpaa.Vm
