/- What functions of the program come to: parts of the walk (Pg). -/
import Derived.Test.YtmfnldkiaodkpaaPw
import Derived.KernelRfl
import Derived.Test.YtmfnldkiaodkpaaProg
import Derived.Test.YtmfnldkiaodkpaaPe
set_option linter.unusedSimpArgs false
set_option linter.unusedVariables false
namespace Go.Proofs.Ytmfnldkiaodkpaa.Vm
open Go Go.Proofs Go.Proofs.Ytmfnldkiaodkpaa
set_option maxRecDepth 100000
theorem run64 (a0 a1 a2 a3 a4 x1 x3 x5 x7 x9 x11 x13 x15 x17 x19 x21 x23 x25 x27 x29 x31 x33 x35 x37 x39 : Int)
    (h0 : ((a0 + 0) % 18446744073709551616) = x1)
    (h2 : (x1 / 67108864) = x3)
    (h4 : (bAnd IntKind.u64 x1 67108863) = x5)
    (h6 : ((a1 + x3) % 18446744073709551616) = x7)
    (h8 : (x7 / 67108864) = x9)
    (h10 : (bAnd IntKind.u64 x7 67108863) = x11)
    (h12 : ((a2 + x9) % 18446744073709551616) = x13)
    (h14 : (x13 / 67108864) = x15)
    (h16 : (bAnd IntKind.u64 x13 67108863) = x17)
    (h18 : ((a3 + x15) % 18446744073709551616) = x19)
    (h20 : (x19 / 67108864) = x21)
    (h22 : (bAnd IntKind.u64 x19 67108863) = x23)
    (h24 : ((a4 + x21) % 18446744073709551616) = x25)
    (h26 : (x25 / 67108864) = x27)
    (h28 : (bAnd IntKind.u64 x25 67108863) = x29)
    (h30 : (5 * x27 % 18446744073709551616) = x31)
    (h32 : ((x5 + x31) % 18446744073709551616) = x33)
    (h34 : (x33 / 67108864) = x35)
    (h36 : ((x11 + x35) % 18446744073709551616) = x37)
    (h38 : (bAnd IntKind.u64 x33 67108863) = x39)   :
    PureF Try.prog 84 [(.aggi .u64 [a0, a1, a2, a3, a4])] (.aggi .u64 [x39, x37, x17, x23, x29]) :=
  Contract0.of_frun (fn := Try.f84) (c := bodyOf Try.f84) (fuel := 300) (k := kOf Try.prog Try.f84) (outs := []) (hs := [(12, ⟨.auto, some (.c (.int .u64 x1))⟩), (18, ⟨.auto, some (.c (.int .u64 x3))⟩), (23, ⟨.auto, some (.c (.int .u64 x5))⟩), (36, ⟨.auto, some (.c (.int .u64 x7))⟩), (42, ⟨.auto, some (.c (.int .u64 x9))⟩), (47, ⟨.auto, some (.c (.int .u64 x11))⟩), (60, ⟨.auto, some (.c (.int .u64 x13))⟩), (66, ⟨.auto, some (.c (.int .u64 x15))⟩), (71, ⟨.auto, some (.c (.int .u64 x17))⟩), (84, ⟨.auto, some (.c (.int .u64 x19))⟩), (90, ⟨.auto, some (.c (.int .u64 x21))⟩), (95, ⟨.auto, some (.c (.int .u64 x23))⟩), (108, ⟨.auto, some (.c (.int .u64 x25))⟩), (114, ⟨.auto, some (.c (.int .u64 x27))⟩), (119, ⟨.auto, some (.c (.int .u64 x29))⟩), (129, ⟨.auto, some (.c (.int .u64 x31))⟩), (130, ⟨.auto, some (.c (.int .u64 x33))⟩), (137, ⟨.auto, some (.c (.int .u64 x35))⟩), (138, ⟨.auto, some (.c (.int .u64 x37))⟩), (143, ⟨.auto, some (.c (.int .u64 x39))⟩)])
    (cs := [EI .u64 (bAnd IntKind.u64 x33 67108863) x39,
      EI .u64 ((x11 + x35) % 18446744073709551616) x37,
      EI .u64 (x33 / 67108864) x35,
      EI .u64 ((x5 + x31) % 18446744073709551616) x33,
      EI .u64 (5 * x27 % 18446744073709551616) x31,
      EI .u64 (bAnd IntKind.u64 x25 67108863) x29,
      EI .u64 (x25 / 67108864) x27,
      EI .u64 ((a4 + x21) % 18446744073709551616) x25,
      EI .u64 (bAnd IntKind.u64 x19 67108863) x23,
      EI .u64 (x19 / 67108864) x21,
      EI .u64 ((a3 + x15) % 18446744073709551616) x19,
      EI .u64 (bAnd IntKind.u64 x13 67108863) x17,
      EI .u64 (x13 / 67108864) x15,
      EI .u64 ((a2 + x9) % 18446744073709551616) x13,
      EI .u64 (bAnd IntKind.u64 x7 67108863) x11,
      EI .u64 (x7 / 67108864) x9,
      EI .u64 ((a1 + x3) % 18446744073709551616) x7,
      EI .u64 (bAnd IntKind.u64 x1 67108863) x5,
      EI .u64 (x1 / 67108864) x3,
      EI .u64 ((a0 + 0) % 18446744073709551616) x1])
    mixed Try.func84 (by kernel_rfl) (by kernel_rfl) (by kernel_rfl) rfl (by kernel_rfl) ⟨.mk h38, .mk h36, .mk h34, .mk h32, .mk h30, .mk h28, .mk h26, .mk h24, .mk h22, .mk h20, .mk h18, .mk h16, .mk h14, .mk h12, .mk h10, .mk h8, .mk h6, .mk h4, .mk h2, .mk h0, trivial⟩
end Go.Proofs.Ytmfnldkiaodkpaa.Vm

namespace Go.Proofs.Ytmfnldkiaodkpaa.Vm
open Go Go.Proofs Go.Proofs.Ytmfnldkiaodkpaa
end Go.Proofs.Ytmfnldkiaodkpaa.Vm

namespace Go.Proofs.Ytmfnldkiaodkpaa.Vm
open Go Go.Proofs Go.Proofs.Ytmfnldkiaodkpaa
def addEl (a s : W.El) : W.El := ⟨(a.a0 + s.a0) % 18446744073709551616, (a.a1 + s.a1) % 18446744073709551616, (a.a2 + s.a2) % 18446744073709551616, (a.a3 + s.a3) % 18446744073709551616, (a.a4 + s.a4) % 18446744073709551616⟩
def blkA (l : List Int) (p t : Nat) : List Int := splice [(0 : Int), (0 : Int), (0 : Int), (0 : Int), (0 : Int), (0 : Int), (0 : Int), (0 : Int), (0 : Int), (0 : Int), (0 : Int), (0 : Int), (0 : Int), (0 : Int), (0 : Int), (0 : Int), (0 : Int)] (0 : Nat) (List.take (mulE (min (Int.toNat ((t : Int) - (0 : Int))) (17 : Nat)) (1 : Nat)) (List.drop (0 : Nat) (List.take (mulE (Int.toNat ((t : Int) - (0 : Int))) (1 : Nat)) (List.drop (addO p (0 : Nat)) l))))
def blkB (l : List Int) (p t : Nat) : List Int := splice (blkA l p t) (addO (0 : Nat) (mulE (Int.toNat (t : Int)) (1 : Nat))) [(1 : Int)]
def blk (l : List Int) (p t : Nat) : List Int := List.take 17 (List.drop 0 (blkB l p t))
theorem blkA_len {l : List Int} {p t : Nat} (ht : t ≤ 16) : (blkA l p t).length = 17 := by
  have e1 : (((t : Nat) : Int) - 0).toNat = t := by omega
  unfold blkA
  rw [splice_len]
  · rfl
  · rw [e1, mulE1]
    simp only [List.length_take, List.length_drop, List.length_cons, List.length_nil]
    omega
theorem blkB_len {l : List Int} {p t : Nat} (ht : t ≤ 16) : (blkB l p t).length = 17 := by
  unfold blkB
  rw [splice_len, blkA_len ht]
  rw [blkA_len ht, Int.toNat_natCast, off_eqP]
  simp only [List.length_cons, List.length_nil]
  omega
def cc (h s : Nat → Int) : Nat → Int
  | 0 => h 0 + s 0
  | i + 1 => cc h s i / 256 + h (i + 1) + s (i + 1)
def Bt (h : Nat → Int) : Prop := ∀ i, 0 ≤ h i ∧ h i < 256
theorem cc_bound {h s : Nat → Int} (hh : Bt h) (hs : Bt s) : ∀ i, 0 ≤ cc h s i ∧ cc h s i < 512
  | 0 => by have := hh 0; have := hs 0; show 0 ≤ h 0 + s 0 ∧ _; constructor; omega; show h 0 + s 0 < 512; omega
  | i + 1 => by
    have h1 := cc_bound hh hs i; have h2 := hh (i + 1); have h3 := hs (i + 1)
    have e : cc h s (i + 1) = cc h s i / 256 + h (i + 1) + s (i + 1) := rfl
    rw [e]; omega
theorem wA {a b : Int} (ha : 0 ≤ a ∧ a < 256) (hb : 0 ≤ b ∧ b < 256) : IntKind.wrap IntKind.i64 (a + b) = a + b := wrapP (by unfold I64p; omega)
theorem wB {a b : Int} (ha : 0 ≤ a ∧ a < 256) (hb : 0 ≤ b ∧ b < 256) : IntKind.wrap IntKind.i64 (0 + (a + b)) = a + b := by rw [Int.zero_add]; exact wA ha hb
theorem wC {c a b : Int} (hc : 0 ≤ c ∧ c < 512) (ha : 0 ≤ a ∧ a < 256) (hb : 0 ≤ b ∧ b < 256) : IntKind.wrap IntKind.i64 (c / 256 + (a + b)) = c / 256 + a + b := by
  rw [← Int.add_assoc]; exact wrapP (by unfold I64p; omega)
theorem bt_list {l : List Int} (h : ∀ x ∈ l, 0 ≤ x ∧ x < 256) : Bt fun i => l.getD i 0 := by
  intro i
  by_cases hi : i < l.length
  · show 0 ≤ l.getD i 0 ∧ l.getD i 0 < 256
    rw [List.getD_eq_getElem?_getD, List.getElem?_eq_getElem hi]
    exact h _ (List.getElem_mem hi)
  · show 0 ≤ l.getD i 0 ∧ l.getD i 0 < 256
    rw [List.getD_eq_getElem?_getD, List.getElem?_eq_none (Nat.le_of_not_lt hi)]
    decide
end Go.Proofs.Ytmfnldkiaodkpaa.Vm
