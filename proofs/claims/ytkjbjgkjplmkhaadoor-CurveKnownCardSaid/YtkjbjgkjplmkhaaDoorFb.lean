/- What functions of the program come to: parts of the walk (Fb). -/
import Derived.Test.YtkjbjgkjplmkhaaDoorVmb
import Derived.Test.YtkjbjgkjplmkhaaDoorFa
import Derived.Test.YtkjbjgkjplmkhaaDoorWa
import Derived.Laws.BitsLemmas
set_option linter.unusedSimpArgs false
set_option linter.unusedVariables false
namespace Go.Proofs.YtkjbjgkjplmkhaaDoor.Vm
open Go Go.Proofs Go.Proofs.YtkjbjgkjplmkhaaDoor
def U64 (a : Int) : Prop := 0 ≤ a ∧ a < 18446744073709551616
/-- carry: what it does to five limbs. -/
theorem carry_ok {a0 a1 a2 a3 a4 : Int} (g0 : U64 a0) (g1 : U64 a1) (g2 : U64 a2) (g3 : U64 a3) (g4 : U64 a4) :
    PureF Tryd.prog 39 [(.aggi .u64 [a0, a1, a2, a3, a4])] (.aggi .u64 [a0 % 2251799813685248 + a4 / 2251799813685248 * 19, a1 % 2251799813685248 + a0 / 2251799813685248, a2 % 2251799813685248 + a1 / 2251799813685248, a3 % 2251799813685248 + a2 / 2251799813685248, a4 % 2251799813685248 + a3 / 2251799813685248]) := by
  unfold U64 at *
  obtain ⟨x1, h0⟩ : ∃ z : Int, a4 / 2251799813685248 = z := ⟨_, rfl⟩
  obtain ⟨x3, h2⟩ : ∃ z : Int, x1 * 19 % 18446744073709551616 = z := ⟨_, rfl⟩
  obtain ⟨x5, h4⟩ : ∃ z : Int, bAnd IntKind.u64 a0 2251799813685247 = z := ⟨_, rfl⟩
  have m_h4 : a0 % 2251799813685248 = x5 := (mask51 (by omega) (by omega)).symm.trans h4
  obtain ⟨x7, h6⟩ : ∃ z : Int, (x5 + x3) % 18446744073709551616 = z := ⟨_, rfl⟩
  obtain ⟨x9, h8⟩ : ∃ z : Int, a0 / 2251799813685248 = z := ⟨_, rfl⟩
  obtain ⟨x11, h10⟩ : ∃ z : Int, bAnd IntKind.u64 a1 2251799813685247 = z := ⟨_, rfl⟩
  have m_h10 : a1 % 2251799813685248 = x11 := (mask51 (by omega) (by omega)).symm.trans h10
  obtain ⟨x13, h12⟩ : ∃ z : Int, (x11 + x9) % 18446744073709551616 = z := ⟨_, rfl⟩
  obtain ⟨x15, h14⟩ : ∃ z : Int, a1 / 2251799813685248 = z := ⟨_, rfl⟩
  obtain ⟨x17, h16⟩ : ∃ z : Int, bAnd IntKind.u64 a2 2251799813685247 = z := ⟨_, rfl⟩
  have m_h16 : a2 % 2251799813685248 = x17 := (mask51 (by omega) (by omega)).symm.trans h16
  obtain ⟨x19, h18⟩ : ∃ z : Int, (x17 + x15) % 18446744073709551616 = z := ⟨_, rfl⟩
  obtain ⟨x21, h20⟩ : ∃ z : Int, a2 / 2251799813685248 = z := ⟨_, rfl⟩
  obtain ⟨x23, h22⟩ : ∃ z : Int, bAnd IntKind.u64 a3 2251799813685247 = z := ⟨_, rfl⟩
  have m_h22 : a3 % 2251799813685248 = x23 := (mask51 (by omega) (by omega)).symm.trans h22
  obtain ⟨x25, h24⟩ : ∃ z : Int, (x23 + x21) % 18446744073709551616 = z := ⟨_, rfl⟩
  obtain ⟨x27, h26⟩ : ∃ z : Int, a3 / 2251799813685248 = z := ⟨_, rfl⟩
  obtain ⟨x29, h28⟩ : ∃ z : Int, bAnd IntKind.u64 a4 2251799813685247 = z := ⟨_, rfl⟩
  have m_h28 : a4 % 2251799813685248 = x29 := (mask51 (by omega) (by omega)).symm.trans h28
  obtain ⟨x31, h30⟩ : ∃ z : Int, (x29 + x27) % 18446744073709551616 = z := ⟨_, rfl⟩
  obtain ⟨x33, h32⟩ : ∃ z : Int, a4 / 2251799813685248 = z := ⟨_, rfl⟩
  have run := run36 a0 a1 a2 a3 a4 x1 x3 x5 x7 x9 x11 x13 x15 x17 x19 x21 x23 x25 x27 x29 x31 x33 h0 h2 h4 h6 h8 h10 h12 h14 h16 h18 h20 h22 h24 h26 h28 h30 h32
  have e0 : x7 = a0 % 2251799813685248 + a4 / 2251799813685248 * 19 := by omega
  have e1 : x13 = a1 % 2251799813685248 + a0 / 2251799813685248 := by omega
  have e2 : x19 = a2 % 2251799813685248 + a1 / 2251799813685248 := by omega
  have e3 : x25 = a3 % 2251799813685248 + a2 / 2251799813685248 := by omega
  have e4 : x31 = a4 % 2251799813685248 + a3 / 2251799813685248 := by omega
  rwa [e0, e1, e2, e3, e4] at run
/-- get: eight bytes, the lowest first. -/
theorem get_ok (ex : Bool) (l : List Int) (o n : Nat) (hn : 8 ≤ n) (hl : o + 8 ≤ l.length) (hb : ∀ j, 0 ≤ l.getD j 0 ∧ l.getD j 0 < 256) :
    Contract0 Tryd.prog 50 [(.c (.sl 1 0 o n 1)), (.c (.int .i64 8))] [(1, .one ⟨false, ex, .ints .u8 l⟩)] 2
      (.tup [(.c (.int .u64 (l.getD o 0 + l.getD (o + 1) 0 * 256 + l.getD (o + 2) 0 * 65536 + l.getD (o + 3) 0 * 16777216 + l.getD (o + 4) 0 * 4294967296 + l.getD (o + 5) 0 * 1099511627776 + l.getD (o + 6) 0 * 281474976710656 + l.getD (o + 7) 0 * 72057594037927936))), (.c (.bool true))]) [] [] := by
  have ha := addO_eq
  obtain ⟨x1, h0⟩ : ∃ z : Int, ↑n = z := ⟨_, rfl⟩
  obtain ⟨q3, h2⟩ : ∃ z : Bool, decide (x1 < 8) = z := ⟨_, rfl⟩
  have h4 : q3 = false := by rw [← h2]; simp; omega
  have c5 : ((0 : Int) ≤ (0 : Int) ∧ (0 : Int) < (↑n : Int)) := by omega
  obtain ⟨x7, h6⟩ : ∃ z : Int, List.getD l (addO o 0) 0 = z := ⟨_, rfl⟩
  have b7 : 0 ≤ x7 ∧ x7 < 256 := by rw [← h6]; exact hb _
  have c8 : (addO o (0 : Nat) + (1 : Nat) ≤ List.length l) := by rw [ha]; omega
  obtain ⟨x10, h9⟩ : ∃ z : Int, x7 % 18446744073709551616 = z := ⟨_, rfl⟩
  obtain ⟨x12, h11⟩ : ∃ z : Int, x10 * 1 % 18446744073709551616 = z := ⟨_, rfl⟩
  obtain ⟨x14, h13⟩ : ∃ z : Int, bOr IntKind.u64 0 x12 = z := ⟨_, rfl⟩
  have o14 : 0 + x12 = x14 := (or64_add 0 (by omega) (by omega) (by omega) (by omega) (by omega)).symm.trans h13
  have c15 : ((0 : Int) ≤ (1 : Int) ∧ (1 : Int) < (↑n : Int)) := by omega
  obtain ⟨x17, h16⟩ : ∃ z : Int, List.getD l (addO o 1) 0 = z := ⟨_, rfl⟩
  have b17 : 0 ≤ x17 ∧ x17 < 256 := by rw [← h16]; exact hb _
  have c18 : (addO o (1 : Nat) + (1 : Nat) ≤ List.length l) := by rw [ha]; omega
  obtain ⟨x20, h19⟩ : ∃ z : Int, x17 % 18446744073709551616 = z := ⟨_, rfl⟩
  obtain ⟨x22, h21⟩ : ∃ z : Int, x20 * 256 % 18446744073709551616 = z := ⟨_, rfl⟩
  obtain ⟨x24, h23⟩ : ∃ z : Int, bOr IntKind.u64 x14 x22 = z := ⟨_, rfl⟩
  have o24 : x14 + x22 = x24 := (or64_add 8 (by omega) (by omega) (by omega) (by omega) (by omega)).symm.trans h23
  have c25 : ((0 : Int) ≤ (2 : Int) ∧ (2 : Int) < (↑n : Int)) := by omega
  obtain ⟨x27, h26⟩ : ∃ z : Int, List.getD l (addO o 2) 0 = z := ⟨_, rfl⟩
  have b27 : 0 ≤ x27 ∧ x27 < 256 := by rw [← h26]; exact hb _
  have c28 : (addO o (2 : Nat) + (1 : Nat) ≤ List.length l) := by rw [ha]; omega
  obtain ⟨x30, h29⟩ : ∃ z : Int, x27 % 18446744073709551616 = z := ⟨_, rfl⟩
  obtain ⟨x32, h31⟩ : ∃ z : Int, x30 * 65536 % 18446744073709551616 = z := ⟨_, rfl⟩
  obtain ⟨x34, h33⟩ : ∃ z : Int, bOr IntKind.u64 x24 x32 = z := ⟨_, rfl⟩
  have o34 : x24 + x32 = x34 := (or64_add 16 (by omega) (by omega) (by omega) (by omega) (by omega)).symm.trans h33
  have c35 : ((0 : Int) ≤ (3 : Int) ∧ (3 : Int) < (↑n : Int)) := by omega
  obtain ⟨x37, h36⟩ : ∃ z : Int, List.getD l (addO o 3) 0 = z := ⟨_, rfl⟩
  have b37 : 0 ≤ x37 ∧ x37 < 256 := by rw [← h36]; exact hb _
  have c38 : (addO o (3 : Nat) + (1 : Nat) ≤ List.length l) := by rw [ha]; omega
  obtain ⟨x40, h39⟩ : ∃ z : Int, x37 % 18446744073709551616 = z := ⟨_, rfl⟩
  obtain ⟨x42, h41⟩ : ∃ z : Int, x40 * 16777216 % 18446744073709551616 = z := ⟨_, rfl⟩
  obtain ⟨x44, h43⟩ : ∃ z : Int, bOr IntKind.u64 x34 x42 = z := ⟨_, rfl⟩
  have o44 : x34 + x42 = x44 := (or64_add 24 (by omega) (by omega) (by omega) (by omega) (by omega)).symm.trans h43
  have c45 : ((0 : Int) ≤ (4 : Int) ∧ (4 : Int) < (↑n : Int)) := by omega
  obtain ⟨x47, h46⟩ : ∃ z : Int, List.getD l (addO o 4) 0 = z := ⟨_, rfl⟩
  have b47 : 0 ≤ x47 ∧ x47 < 256 := by rw [← h46]; exact hb _
  have c48 : (addO o (4 : Nat) + (1 : Nat) ≤ List.length l) := by rw [ha]; omega
  obtain ⟨x50, h49⟩ : ∃ z : Int, x47 % 18446744073709551616 = z := ⟨_, rfl⟩
  obtain ⟨x52, h51⟩ : ∃ z : Int, x50 * 4294967296 % 18446744073709551616 = z := ⟨_, rfl⟩
  obtain ⟨x54, h53⟩ : ∃ z : Int, bOr IntKind.u64 x44 x52 = z := ⟨_, rfl⟩
  have o54 : x44 + x52 = x54 := (or64_add 32 (by omega) (by omega) (by omega) (by omega) (by omega)).symm.trans h53
  have c55 : ((0 : Int) ≤ (5 : Int) ∧ (5 : Int) < (↑n : Int)) := by omega
  obtain ⟨x57, h56⟩ : ∃ z : Int, List.getD l (addO o 5) 0 = z := ⟨_, rfl⟩
  have b57 : 0 ≤ x57 ∧ x57 < 256 := by rw [← h56]; exact hb _
  have c58 : (addO o (5 : Nat) + (1 : Nat) ≤ List.length l) := by rw [ha]; omega
  obtain ⟨x60, h59⟩ : ∃ z : Int, x57 % 18446744073709551616 = z := ⟨_, rfl⟩
  obtain ⟨x62, h61⟩ : ∃ z : Int, x60 * 1099511627776 % 18446744073709551616 = z := ⟨_, rfl⟩
  obtain ⟨x64, h63⟩ : ∃ z : Int, bOr IntKind.u64 x54 x62 = z := ⟨_, rfl⟩
  have o64 : x54 + x62 = x64 := (or64_add 40 (by omega) (by omega) (by omega) (by omega) (by omega)).symm.trans h63
  have c65 : ((0 : Int) ≤ (6 : Int) ∧ (6 : Int) < (↑n : Int)) := by omega
  obtain ⟨x67, h66⟩ : ∃ z : Int, List.getD l (addO o 6) 0 = z := ⟨_, rfl⟩
  have b67 : 0 ≤ x67 ∧ x67 < 256 := by rw [← h66]; exact hb _
  have c68 : (addO o (6 : Nat) + (1 : Nat) ≤ List.length l) := by rw [ha]; omega
  obtain ⟨x70, h69⟩ : ∃ z : Int, x67 % 18446744073709551616 = z := ⟨_, rfl⟩
  obtain ⟨x72, h71⟩ : ∃ z : Int, x70 * 281474976710656 % 18446744073709551616 = z := ⟨_, rfl⟩
  obtain ⟨x74, h73⟩ : ∃ z : Int, bOr IntKind.u64 x64 x72 = z := ⟨_, rfl⟩
  have o74 : x64 + x72 = x74 := (or64_add 48 (by omega) (by omega) (by omega) (by omega) (by omega)).symm.trans h73
  have c75 : ((0 : Int) ≤ (7 : Int) ∧ (7 : Int) < (↑n : Int)) := by omega
  obtain ⟨x77, h76⟩ : ∃ z : Int, List.getD l (addO o 7) 0 = z := ⟨_, rfl⟩
  have b77 : 0 ≤ x77 ∧ x77 < 256 := by rw [← h76]; exact hb _
  have c78 : (addO o (7 : Nat) + (1 : Nat) ≤ List.length l) := by rw [ha]; omega
  obtain ⟨x80, h79⟩ : ∃ z : Int, x77 % 18446744073709551616 = z := ⟨_, rfl⟩
  obtain ⟨x82, h81⟩ : ∃ z : Int, x80 * 72057594037927936 % 18446744073709551616 = z := ⟨_, rfl⟩
  obtain ⟨x84, h83⟩ : ∃ z : Int, bOr IntKind.u64 x74 x82 = z := ⟨_, rfl⟩
  have o84 : x74 + x82 = x84 := (or64_add 56 (by omega) (by omega) (by omega) (by omega) (by omega)).symm.trans h83
  have run := run45 ex l o n x1 q3 x7 x10 x12 x14 x17 x20 x22 x24 x27 x30 x32 x34 x37 x40 x42 x44 x47 x50 x52 x54 x57 x60 x62 x64 x67 x70 x72 x74 x77 x80 x82 x84 h0 h2 h4 c5 h6 c8 h9 h11 h13 c15 h16 c18 h19 h21 h23 c25 h26 c28 h29 h31 h33 c35 h36 c38 h39 h41 h43 c45 h46 c48 h49 h51 h53 c55 h56 c58 h59 h61 h63 c65 h66 c68 h69 h71 h73 c75 h76 c78 h79 h81 h83
  rw [ha, Nat.add_zero] at h6
  rw [ha] at h16 h26 h36 h46 h56 h66 h76
  have e : x84 = l.getD o 0 + l.getD (o + 1) 0 * 256 + l.getD (o + 2) 0 * 65536 + l.getD (o + 3) 0 * 16777216 + l.getD (o + 4) 0 * 4294967296 + l.getD (o + 5) 0 * 1099511627776 + l.getD (o + 6) 0 * 281474976710656 + l.getD (o + 7) 0 * 72057594037927936 := by
    rw [h6, h16, h26, h36, h46, h56, h66, h76]; omega
  rwa [e] at run
theorem bts_mem (b : Int) : ∀ x ∈ W.bts b, 0 ≤ x ∧ x < 256 := by
  simp only [W.bts, List.forall_mem_cons]
  refine ⟨?_, ?_, ?_, ?_, ?_, ?_, ?_, ?_, ?_, ?_, ?_, ?_, ?_, ?_, ?_, ?_, ?_, ?_, ?_, ?_, ?_, ?_, ?_, ?_, ?_, ?_, ?_, ?_, ?_, ?_, ?_, ?_, by simp⟩ <;> exact ⟨Int.emod_nonneg _ (by decide), Int.emod_lt_of_pos _ (by decide)⟩
theorem bts_get (b : Int) (j : Nat) : 0 ≤ (W.bts b).getD j 0 ∧ (W.bts b).getD j 0 < 256 := by
  rw [List.getD_eq_getElem?_getD]
  cases h : (W.bts b)[j]? with
  | none => exact ⟨Int.le_refl _, by decide⟩
  | some x => exact bts_mem b x (List.mem_of_getElem? h)
theorem bts_len (b : Int) : (W.bts b).length = 32 := rfl
theorem load0 (b : Int) : PureF Tryd.prog 34 [(.aggi .u8 (W.bts b)), (.c (.int .i64 0))] (.c (.int .u64 (b % 18446744073709551616))) := by
  have g := run41 true (W.bts b) 0 32 _ (get_ok true (W.bts b) 0 32 (by decide) (by rw [bts_len]; decide) (bts_get b))
  have e : (W.bts b).getD 0 0 + (W.bts b).getD (0 + 1) 0 * 256 + (W.bts b).getD (0 + 2) 0 * 65536 + (W.bts b).getD (0 + 3) 0 * 16777216 + (W.bts b).getD (0 + 4) 0 * 4294967296 + (W.bts b).getD (0 + 5) 0 * 1099511627776 + (W.bts b).getD (0 + 6) 0 * 281474976710656 + (W.bts b).getD (0 + 7) 0 * 72057594037927936 = b % 18446744073709551616 := by
    show b % 256 + b / 256 % 256 * 256 + b / 65536 % 256 * 65536 + b / 16777216 % 256 * 16777216 + b / 4294967296 % 256 * 4294967296 + b / 1099511627776 % 256 * 1099511627776 + b / 281474976710656 % 256 * 281474976710656 + b / 72057594037927936 % 256 * 72057594037927936 = _
    omega
  rw [e] at g
  exact run35_0 b _ g
theorem load6 (b : Int) : PureF Tryd.prog 34 [(.aggi .u8 (W.bts b)), (.c (.int .i64 6))] (.c (.int .u64 (b / 281474976710656 % 18446744073709551616))) := by
  have g := run41 true (W.bts b) 6 26 _ (get_ok true (W.bts b) 6 26 (by decide) (by rw [bts_len]; decide) (bts_get b))
  have e : (W.bts b).getD 6 0 + (W.bts b).getD (6 + 1) 0 * 256 + (W.bts b).getD (6 + 2) 0 * 65536 + (W.bts b).getD (6 + 3) 0 * 16777216 + (W.bts b).getD (6 + 4) 0 * 4294967296 + (W.bts b).getD (6 + 5) 0 * 1099511627776 + (W.bts b).getD (6 + 6) 0 * 281474976710656 + (W.bts b).getD (6 + 7) 0 * 72057594037927936 = b / 281474976710656 % 18446744073709551616 := by
    show b / 281474976710656 % 256 + b / 72057594037927936 % 256 * 256 + b / 18446744073709551616 % 256 * 65536 + b / 4722366482869645213696 % 256 * 16777216 + b / 1208925819614629174706176 % 256 * 4294967296 + b / 309485009821345068724781056 % 256 * 1099511627776 + b / 79228162514264337593543950336 % 256 * 281474976710656 + b / 20282409603651670423947251286016 % 256 * 72057594037927936 = _
    omega
  rw [e] at g
  exact run35_6 b _ g
theorem load12 (b : Int) : PureF Tryd.prog 34 [(.aggi .u8 (W.bts b)), (.c (.int .i64 12))] (.c (.int .u64 (b / 79228162514264337593543950336 % 18446744073709551616))) := by
  have g := run41 true (W.bts b) 12 20 _ (get_ok true (W.bts b) 12 20 (by decide) (by rw [bts_len]; decide) (bts_get b))
  have e : (W.bts b).getD 12 0 + (W.bts b).getD (12 + 1) 0 * 256 + (W.bts b).getD (12 + 2) 0 * 65536 + (W.bts b).getD (12 + 3) 0 * 16777216 + (W.bts b).getD (12 + 4) 0 * 4294967296 + (W.bts b).getD (12 + 5) 0 * 1099511627776 + (W.bts b).getD (12 + 6) 0 * 281474976710656 + (W.bts b).getD (12 + 7) 0 * 72057594037927936 = b / 79228162514264337593543950336 % 18446744073709551616 := by
    show b / 79228162514264337593543950336 % 256 + b / 20282409603651670423947251286016 % 256 * 256 + b / 5192296858534827628530496329220096 % 256 * 65536 + b / 1329227995784915872903807060280344576 % 256 * 16777216 + b / 340282366920938463463374607431768211456 % 256 * 4294967296 + b / 87112285931760246646623899502532662132736 % 256 * 1099511627776 + b / 22300745198530623141535718272648361505980416 % 256 * 281474976710656 + b / 5708990770823839524233143877797980545530986496 % 256 * 72057594037927936 = _
    omega
  rw [e] at g
  exact run35_12 b _ g
theorem load19 (b : Int) : PureF Tryd.prog 34 [(.aggi .u8 (W.bts b)), (.c (.int .i64 19))] (.c (.int .u64 (b / 5708990770823839524233143877797980545530986496 % 18446744073709551616))) := by
  have g := run41 true (W.bts b) 19 13 _ (get_ok true (W.bts b) 19 13 (by decide) (by rw [bts_len]; decide) (bts_get b))
  have e : (W.bts b).getD 19 0 + (W.bts b).getD (19 + 1) 0 * 256 + (W.bts b).getD (19 + 2) 0 * 65536 + (W.bts b).getD (19 + 3) 0 * 16777216 + (W.bts b).getD (19 + 4) 0 * 4294967296 + (W.bts b).getD (19 + 5) 0 * 1099511627776 + (W.bts b).getD (19 + 6) 0 * 281474976710656 + (W.bts b).getD (19 + 7) 0 * 72057594037927936 = b / 5708990770823839524233143877797980545530986496 % 18446744073709551616 := by
    show b / 5708990770823839524233143877797980545530986496 % 256 + b / 1461501637330902918203684832716283019655932542976 % 256 * 256 + b / 374144419156711147060143317175368453031918731001856 % 256 * 65536 + b / 95780971304118053647396689196894323976171195136475136 % 256 * 16777216 + b / 24519928653854221733733552434404946937899825954937634816 % 256 * 4294967296 + b / 6277101735386680763835789423207666416102355444464034512896 % 256 * 1099511627776 + b / 1606938044258990275541962092341162602522202993782792835301376 % 256 * 281474976710656 + b / 411376139330301510538742295639337626245683966408394965837152256 % 256 * 72057594037927936 = _
    omega
  rw [e] at g
  exact run35_19 b _ g
theorem load24 (b : Int) : PureF Tryd.prog 34 [(.aggi .u8 (W.bts b)), (.c (.int .i64 24))] (.c (.int .u64 (b / 6277101735386680763835789423207666416102355444464034512896 % 18446744073709551616))) := by
  have g := run41 true (W.bts b) 24 8 _ (get_ok true (W.bts b) 24 8 (by decide) (by rw [bts_len]; decide) (bts_get b))
  have e : (W.bts b).getD 24 0 + (W.bts b).getD (24 + 1) 0 * 256 + (W.bts b).getD (24 + 2) 0 * 65536 + (W.bts b).getD (24 + 3) 0 * 16777216 + (W.bts b).getD (24 + 4) 0 * 4294967296 + (W.bts b).getD (24 + 5) 0 * 1099511627776 + (W.bts b).getD (24 + 6) 0 * 281474976710656 + (W.bts b).getD (24 + 7) 0 * 72057594037927936 = b / 6277101735386680763835789423207666416102355444464034512896 % 18446744073709551616 := by
    show b / 6277101735386680763835789423207666416102355444464034512896 % 256 + b / 1606938044258990275541962092341162602522202993782792835301376 % 256 * 256 + b / 411376139330301510538742295639337626245683966408394965837152256 % 256 * 65536 + b / 105312291668557186697918027683670432318895095400549111254310977536 % 256 * 16777216 + b / 26959946667150639794667015087019630673637144422540572481103610249216 % 256 * 4294967296 + b / 6901746346790563787434755862277025452451108972170386555162524223799296 % 256 * 1099511627776 + b / 1766847064778384329583297500742918515827483896875618958121606201292619776 % 256 * 281474976710656 + b / 452312848583266388373324160190187140051835877600158453279131187530910662656 % 256 * 72057594037927936 = _
    omega
  rw [e] at g
  exact run35_24 b _ g
/-- From: five limbs of 51 bits, the last bit left out. -/
theorem from_ok (b : Int) : PureF Tryd.prog 8 [(.aggi .u8 (W.bts b))] (.aggi .u64 [b % 2251799813685248, b / 2251799813685248 % 2251799813685248, b / 5070602400912917605986812821504 % 2251799813685248, b / 11417981541647679048466287755595961091061972992 % 2251799813685248, b / 25711008708143844408671393477458601640355247900524685364822016 % 2251799813685248]) := by
  obtain ⟨r35_0, v_r35_0⟩ : ∃ z : Int, b % 18446744073709551616 = z := ⟨_, rfl⟩
  have c1 : PureF Tryd.prog 34 [(.aggi .u8 (Go.Proofs.YtkjbjgkjplmkhaaDoor.W.bts b)), (.c (.int .i64 0))] (.c (.int .u64 r35_0)) := by subst v_r35_0; exact load0 b
  obtain ⟨x3, h2⟩ : ∃ z : Int, bAnd IntKind.u64 r35_0 2251799813685247 = z := ⟨_, rfl⟩
  have m_h2 : r35_0 % 2251799813685248 = x3 := (mask51 (by omega) (by omega)).symm.trans h2
  obtain ⟨r35_4, v_r35_4⟩ : ∃ z : Int, b / 281474976710656 % 18446744073709551616 = z := ⟨_, rfl⟩
  have c5 : PureF Tryd.prog 34 [(.aggi .u8 (Go.Proofs.YtkjbjgkjplmkhaaDoor.W.bts b)), (.c (.int .i64 6))] (.c (.int .u64 r35_4)) := by subst v_r35_4; exact load6 b
  obtain ⟨x7, h6⟩ : ∃ z : Int, r35_4 / 8 = z := ⟨_, rfl⟩
  obtain ⟨x9, h8⟩ : ∃ z : Int, bAnd IntKind.u64 x7 2251799813685247 = z := ⟨_, rfl⟩
  have m_h8 : x7 % 2251799813685248 = x9 := (mask51 (by omega) (by omega)).symm.trans h8
  obtain ⟨r35_10, v_r35_10⟩ : ∃ z : Int, b / 79228162514264337593543950336 % 18446744073709551616 = z := ⟨_, rfl⟩
  have c11 : PureF Tryd.prog 34 [(.aggi .u8 (Go.Proofs.YtkjbjgkjplmkhaaDoor.W.bts b)), (.c (.int .i64 12))] (.c (.int .u64 r35_10)) := by subst v_r35_10; exact load12 b
  obtain ⟨x13, h12⟩ : ∃ z : Int, r35_10 / 64 = z := ⟨_, rfl⟩
  obtain ⟨x15, h14⟩ : ∃ z : Int, bAnd IntKind.u64 x13 2251799813685247 = z := ⟨_, rfl⟩
  have m_h14 : x13 % 2251799813685248 = x15 := (mask51 (by omega) (by omega)).symm.trans h14
  obtain ⟨r35_16, v_r35_16⟩ : ∃ z : Int, b / 5708990770823839524233143877797980545530986496 % 18446744073709551616 = z := ⟨_, rfl⟩
  have c17 : PureF Tryd.prog 34 [(.aggi .u8 (Go.Proofs.YtkjbjgkjplmkhaaDoor.W.bts b)), (.c (.int .i64 19))] (.c (.int .u64 r35_16)) := by subst v_r35_16; exact load19 b
  obtain ⟨x19, h18⟩ : ∃ z : Int, r35_16 / 2 = z := ⟨_, rfl⟩
  obtain ⟨x21, h20⟩ : ∃ z : Int, bAnd IntKind.u64 x19 2251799813685247 = z := ⟨_, rfl⟩
  have m_h20 : x19 % 2251799813685248 = x21 := (mask51 (by omega) (by omega)).symm.trans h20
  obtain ⟨r35_22, v_r35_22⟩ : ∃ z : Int, b / 6277101735386680763835789423207666416102355444464034512896 % 18446744073709551616 = z := ⟨_, rfl⟩
  have c23 : PureF Tryd.prog 34 [(.aggi .u8 (Go.Proofs.YtkjbjgkjplmkhaaDoor.W.bts b)), (.c (.int .i64 24))] (.c (.int .u64 r35_22)) := by subst v_r35_22; exact load24 b
  obtain ⟨x25, h24⟩ : ∃ z : Int, r35_22 / 4096 = z := ⟨_, rfl⟩
  obtain ⟨x27, h26⟩ : ∃ z : Int, bAnd IntKind.u64 x25 2251799813685247 = z := ⟨_, rfl⟩
  have m_h26 : x25 % 2251799813685248 = x27 := (mask51 (by omega) (by omega)).symm.trans h26
  have run := run14 b r35_0 x3 r35_4 x7 x9 r35_10 x13 x15 r35_16 x19 x21 r35_22 x25 x27 c1 h2 c5 h6 h8 c11 h12 h14 c17 h18 h20 c23 h24 h26
  have e0 : x3 = b % 2251799813685248 := by omega
  have e1 : x9 = b / 2251799813685248 % 2251799813685248 := by omega
  have e2 : x15 = b / 5070602400912917605986812821504 % 2251799813685248 := by omega
  have e3 : x21 = b / 11417981541647679048466287755595961091061972992 % 2251799813685248 := by omega
  have e4 : x27 = b / 25711008708143844408671393477458601640355247900524685364822016 % 2251799813685248 := by omega
  rwa [e0, e1, e2, e3, e4] at run
end Go.Proofs.YtkjbjgkjplmkhaaDoor.Vm

namespace Go.Proofs.YtkjbjgkjplmkhaaDoor.Vm
open Go Go.Proofs Go.Proofs.YtkjbjgkjplmkhaaDoor
/-- The bytes that five limbs of 51 bits are told by. -/
theorem bytes_out {l0 l1 l2 l3 l4 : Int} (g0 : 0 ≤ l0 ∧ l0 < 2251799813685248) (g1 : 0 ≤ l1 ∧ l1 < 2251799813685248) (g2 : 0 ≤ l2 ∧ l2 < 2251799813685248) (g3 : 0 ≤ l3 ∧ l3 < 2251799813685248) (g4 : 0 ≤ l4 ∧ l4 < 2251799813685248) :
    [(l0 / 1) % 256,
      (l0 / 256) % 256,
      (l0 / 65536) % 256,
      (l0 / 16777216) % 256,
      (l0 / 4294967296) % 256,
      (l0 / 1099511627776) % 256,
      (bOr IntKind.u64 (l0 / 281474976710656) (l1 * 8 % 18446744073709551616)) % 256,
      (l1 / 32) % 256,
      (l1 / 8192) % 256,
      (l1 / 2097152) % 256,
      (l1 / 536870912) % 256,
      (l1 / 137438953472) % 256,
      (bOr IntKind.u64 (l1 / 35184372088832) (l2 * 64 % 18446744073709551616)) % 256,
      (l2 / 4) % 256,
      (l2 / 1024) % 256,
      (l2 / 262144) % 256,
      (l2 / 67108864) % 256,
      (l2 / 17179869184) % 256,
      (l2 / 4398046511104) % 256,
      (bOr IntKind.u64 (l2 / 1125899906842624) (l3 * 2 % 18446744073709551616)) % 256,
      (l3 / 128) % 256,
      (l3 / 32768) % 256,
      (l3 / 8388608) % 256,
      (l3 / 2147483648) % 256,
      (l3 / 549755813888) % 256,
      (bOr IntKind.u64 (l3 / 140737488355328) (l4 * 16 % 18446744073709551616)) % 256,
      (l4 / 16) % 256,
      (l4 / 4096) % 256,
      (l4 / 1048576) % 256,
      (l4 / 268435456) % 256,
      (l4 / 68719476736) % 256,
      (l4 / 17592186044416) % 256] = W.bts (valE l0 l1 l2 l3 l4) := by
  have o0 : bOr IntKind.u64 (l0 / 281474976710656) (l1 * 8 % 18446744073709551616) = l0 / 281474976710656 + l1 * 8 % 18446744073709551616 := or64_add 3 (by omega) (by omega) (by omega) (by omega) (by omega)
  have o1 : bOr IntKind.u64 (l1 / 35184372088832) (l2 * 64 % 18446744073709551616) = l1 / 35184372088832 + l2 * 64 % 18446744073709551616 := or64_add 6 (by omega) (by omega) (by omega) (by omega) (by omega)
  have o2 : bOr IntKind.u64 (l2 / 1125899906842624) (l3 * 2 % 18446744073709551616) = l2 / 1125899906842624 + l3 * 2 % 18446744073709551616 := or64_add 1 (by omega) (by omega) (by omega) (by omega) (by omega)
  have o3 : bOr IntKind.u64 (l3 / 140737488355328) (l4 * 16 % 18446744073709551616) = l3 / 140737488355328 + l4 * 16 % 18446744073709551616 := or64_add 4 (by omega) (by omega) (by omega) (by omega) (by omega)
  rw [o0, o1, o2, o3]
  unfold valE
  simp only [W.bts, List.cons.injEq, and_true]
  refine ⟨?_, ?_, ?_, ?_, ?_, ?_, ?_, ?_, ?_, ?_, ?_, ?_, ?_, ?_, ?_, ?_, ?_, ?_, ?_, ?_, ?_, ?_, ?_, ?_, ?_, ?_, ?_, ?_, ?_, ?_, ?_, ?_⟩ <;> omega
theorem cb1 {x y z : Int} (hy : 0 ≤ y ∧ y < 18446744073709551616) (h : x % 2251799813685248 + y / 2251799813685248 * 19 = z) : 0 ≤ z ∧ z < 2251799813840896 := by omega
theorem cb1' {x y z : Int} (hy : 0 ≤ y ∧ y < 18446744073709551616) (h : x % 2251799813685248 + y / 2251799813685248 = z) : 0 ≤ z ∧ z < 2251799813840896 := by omega
theorem cb2 {x y z : Int} (hy : 0 ≤ y ∧ y < 2251799813840896) (h : x % 2251799813685248 + y / 2251799813685248 * 19 = z) : 0 ≤ z ∧ z < 2251799813685348 := by omega
theorem cb2' {x y z : Int} (hy : 0 ≤ y ∧ y < 2251799813840896) (h : x % 2251799813685248 + y / 2251799813685248 = z) : 0 ≤ z ∧ z < 2251799813685348 := by omega
theorem cbU {z : Int} (h : 0 ≤ z ∧ z < 2251799813840896) : U64 z := ⟨h.1, Int.lt_trans h.2 (by decide)⟩
/-- Bytes: the number modulo the prime. -/
theorem bytes_ok {a0 a1 a2 a3 a4 : Int} (g0 : U64 a0) (g1 : U64 a1) (g2 : U64 a2) (g3 : U64 a3) (g4 : U64 a4) :
    PureF Tryd.prog 12 [(.aggi .u64 [a0, a1, a2, a3, a4])] (.aggi .u8 (W.bts (valE a0 a1 a2 a3 a4 % pP))) := by
  have k0 := carry_ok g0 g1 g2 g3 g4
  obtain ⟨r36_0, v_r36_0⟩ : ∃ z : Int, a0 % 2251799813685248 + a4 / 2251799813685248 * 19 = z := ⟨_, rfl⟩
  have b_r36_0 := cb1 g4 v_r36_0
  obtain ⟨r36_1, v_r36_1⟩ : ∃ z : Int, a1 % 2251799813685248 + a0 / 2251799813685248 = z := ⟨_, rfl⟩
  have b_r36_1 := cb1' g0 v_r36_1
  obtain ⟨r36_2, v_r36_2⟩ : ∃ z : Int, a2 % 2251799813685248 + a1 / 2251799813685248 = z := ⟨_, rfl⟩
  have b_r36_2 := cb1' g1 v_r36_2
  obtain ⟨r36_3, v_r36_3⟩ : ∃ z : Int, a3 % 2251799813685248 + a2 / 2251799813685248 = z := ⟨_, rfl⟩
  have b_r36_3 := cb1' g2 v_r36_3
  obtain ⟨r36_4, v_r36_4⟩ : ∃ z : Int, a4 % 2251799813685248 + a3 / 2251799813685248 = z := ⟨_, rfl⟩
  have b_r36_4 := cb1' g3 v_r36_4
  have c5 : PureF Tryd.prog 39 [(.aggi .u64 [a0, a1, a2, a3, a4])] (.aggi .u64 [r36_0, r36_1, r36_2, r36_3, r36_4]) := by subst v_r36_0; subst v_r36_1; subst v_r36_2; subst v_r36_3; subst v_r36_4; exact k0
  obtain ⟨r36_6, v_r36_6⟩ : ∃ z : Int, r36_0 % 2251799813685248 + r36_4 / 2251799813685248 * 19 = z := ⟨_, rfl⟩
  have b_r36_6 := cb2 b_r36_4 v_r36_6
  obtain ⟨r36_7, v_r36_7⟩ : ∃ z : Int, r36_1 % 2251799813685248 + r36_0 / 2251799813685248 = z := ⟨_, rfl⟩
  have b_r36_7 := cb2' b_r36_0 v_r36_7
  obtain ⟨r36_8, v_r36_8⟩ : ∃ z : Int, r36_2 % 2251799813685248 + r36_1 / 2251799813685248 = z := ⟨_, rfl⟩
  have b_r36_8 := cb2' b_r36_1 v_r36_8
  obtain ⟨r36_9, v_r36_9⟩ : ∃ z : Int, r36_3 % 2251799813685248 + r36_2 / 2251799813685248 = z := ⟨_, rfl⟩
  have b_r36_9 := cb2' b_r36_2 v_r36_9
  obtain ⟨r36_10, v_r36_10⟩ : ∃ z : Int, r36_4 % 2251799813685248 + r36_3 / 2251799813685248 = z := ⟨_, rfl⟩
  have b_r36_10 := cb2' b_r36_3 v_r36_10
  have c11 : PureF Tryd.prog 39 [(.aggi .u64 [r36_0, r36_1, r36_2, r36_3, r36_4])] (.aggi .u64 [r36_6, r36_7, r36_8, r36_9, r36_10]) := by subst v_r36_6; subst v_r36_7; subst v_r36_8; subst v_r36_9; subst v_r36_10; exact carry_ok (cbU b_r36_0) (cbU b_r36_1) (cbU b_r36_2) (cbU b_r36_3) (cbU b_r36_4)
  obtain ⟨x13, h12⟩ : ∃ z : Int, (r36_6 + 19) % 18446744073709551616 = z := ⟨_, rfl⟩
  obtain ⟨x15, h14⟩ : ∃ z : Int, x13 / 2251799813685248 = z := ⟨_, rfl⟩
  obtain ⟨x17, h16⟩ : ∃ z : Int, (r36_7 + x15) % 18446744073709551616 = z := ⟨_, rfl⟩
  obtain ⟨x19, h18⟩ : ∃ z : Int, x17 / 2251799813685248 = z := ⟨_, rfl⟩
  obtain ⟨x21, h20⟩ : ∃ z : Int, (r36_8 + x19) % 18446744073709551616 = z := ⟨_, rfl⟩
  obtain ⟨x23, h22⟩ : ∃ z : Int, x21 / 2251799813685248 = z := ⟨_, rfl⟩
  obtain ⟨x25, h24⟩ : ∃ z : Int, (r36_9 + x23) % 18446744073709551616 = z := ⟨_, rfl⟩
  obtain ⟨x27, h26⟩ : ∃ z : Int, x25 / 2251799813685248 = z := ⟨_, rfl⟩
  obtain ⟨x29, h28⟩ : ∃ z : Int, (r36_10 + x27) % 18446744073709551616 = z := ⟨_, rfl⟩
  obtain ⟨x31, h30⟩ : ∃ z : Int, x29 / 2251799813685248 = z := ⟨_, rfl⟩
  obtain ⟨x33, h32⟩ : ∃ z : Int, 19 * x31 % 18446744073709551616 = z := ⟨_, rfl⟩
  obtain ⟨x35, h34⟩ : ∃ z : Int, (r36_6 + x33) % 18446744073709551616 = z := ⟨_, rfl⟩
  obtain ⟨x37, h36⟩ : ∃ z : Int, x35 / 2251799813685248 = z := ⟨_, rfl⟩
  obtain ⟨x39, h38⟩ : ∃ z : Int, bAnd IntKind.u64 x35 2251799813685247 = z := ⟨_, rfl⟩
  have m_h38 : x35 % 2251799813685248 = x39 := (mask51 (mod64 h34).1 (mod64 h34).2).symm.trans h38
  obtain ⟨x41, h40⟩ : ∃ z : Int, (r36_7 + x37) % 18446744073709551616 = z := ⟨_, rfl⟩
  obtain ⟨x43, h42⟩ : ∃ z : Int, x41 / 2251799813685248 = z := ⟨_, rfl⟩
  obtain ⟨x45, h44⟩ : ∃ z : Int, bAnd IntKind.u64 x41 2251799813685247 = z := ⟨_, rfl⟩
  have m_h44 : x41 % 2251799813685248 = x45 := (mask51 (mod64 h40).1 (mod64 h40).2).symm.trans h44
  obtain ⟨x47, h46⟩ : ∃ z : Int, (r36_8 + x43) % 18446744073709551616 = z := ⟨_, rfl⟩
  obtain ⟨x49, h48⟩ : ∃ z : Int, x47 / 2251799813685248 = z := ⟨_, rfl⟩
  obtain ⟨x51, h50⟩ : ∃ z : Int, bAnd IntKind.u64 x47 2251799813685247 = z := ⟨_, rfl⟩
  have m_h50 : x47 % 2251799813685248 = x51 := (mask51 (mod64 h46).1 (mod64 h46).2).symm.trans h50
  obtain ⟨x53, h52⟩ : ∃ z : Int, (r36_9 + x49) % 18446744073709551616 = z := ⟨_, rfl⟩
  obtain ⟨x55, h54⟩ : ∃ z : Int, x53 / 2251799813685248 = z := ⟨_, rfl⟩
  obtain ⟨x57, h56⟩ : ∃ z : Int, bAnd IntKind.u64 x53 2251799813685247 = z := ⟨_, rfl⟩
  have m_h56 : x53 % 2251799813685248 = x57 := (mask51 (mod64 h52).1 (mod64 h52).2).symm.trans h56
  obtain ⟨x59, h58⟩ : ∃ z : Int, (r36_10 + x55) % 18446744073709551616 = z := ⟨_, rfl⟩
  obtain ⟨x61, h60⟩ : ∃ z : Int, x59 / 2251799813685248 = z := ⟨_, rfl⟩
  obtain ⟨x63, h62⟩ : ∃ z : Int, bAnd IntKind.u64 x59 2251799813685247 = z := ⟨_, rfl⟩
  have m_h62 : x59 % 2251799813685248 = x63 := (mask51 (mod64 h58).1 (mod64 h58).2).symm.trans h62
  have run := run16 a0 a1 a2 a3 a4 r36_0 r36_1 r36_2 r36_3 r36_4 r36_6 r36_7 r36_8 r36_9 r36_10 x13 x15 x17 x19 x21 x23 x25 x27 x29 x31 x33 x35 x37 x39 x41 x43 x45 x47 x49 x51 x53 x55 x57 x59 x61 x63 _ _ _ _ _ _ _ _ _ _ _ _ _ _ _ _ _ _ _ _ _ _ _ _ _ _ _ _ _ _ _ _ _ _ _ _ _ _ _ _ _ _ _ _ _ _ _ _ _ _ _ _ _ _ _ _ _ _ _ _ _ _ _ _ _ _ _ _ _ _ _ _ c5 c11 h12 h14 h16 h18 h20 h22 h24 h26 h28 h30 h32 h34 h36 h38 h40 h42 h44 h46 h48 h50 h52 h54 h56 h58 h60 h62 rfl rfl rfl rfl rfl rfl rfl rfl rfl rfl rfl rfl rfl rfl rfl rfl rfl rfl rfl rfl rfl rfl rfl rfl rfl rfl rfl rfl rfl rfl rfl rfl rfl rfl rfl rfl rfl rfl rfl rfl rfl rfl rfl rfl rfl rfl rfl rfl rfl rfl rfl rfl rfl rfl rfl rfl rfl rfl rfl rfl rfl rfl rfl rfl rfl rfl rfl rfl rfl rfl rfl rfl
  obtain ⟨q0, q1, q2, q3, q4, qe⟩ := bytes_chain b_r36_6 b_r36_7 b_r36_8 b_r36_9 b_r36_10 h12 h14 h16 h18 h20 h22 h24 h26 h28 h30 h32 h34 h36 m_h38 h40 h42 m_h44 h46 h48 m_h50 h52 h54 m_h56 h58 h60 m_h62
  rw [bytes_out q0 q1 q2 q3 q4, qe] at run
  have e : valE r36_6 r36_7 r36_8 r36_9 r36_10 % pP = valE a0 a1 a2 a3 a4 % pP := by
    rw [← v_r36_6, ← v_r36_7, ← v_r36_8, ← v_r36_9, ← v_r36_10, carry_val, Int.sub_mul_emod_self_left, ← v_r36_0, ← v_r36_1, ← v_r36_2, ← v_r36_3, ← v_r36_4, carry_val, Int.sub_mul_emod_self_left]
  rwa [e] at run
end Go.Proofs.YtkjbjgkjplmkhaaDoor.Vm

namespace Go.Proofs.YtkjbjgkjplmkhaaDoor.Vm
open Go Go.Proofs Go.Proofs.YtkjbjgkjplmkhaaDoor
/-- What Same reckons. -/
def sameF (x : Int) : List Int → List Int → Int
  | a :: l, b :: m => sameF (bOr .u8 x (bXor .u8 a b)) l m
  | _, _ => x
theorem sameF_ok : ∀ {l m : List Int} {x : Int}, l.length = m.length → (∀ z ∈ l, 0 ≤ z ∧ z < 256) → (∀ z ∈ m, 0 ≤ z ∧ z < 256) → 0 ≤ x ∧ x < 256 → (sameF x l m = 0 ↔ x = 0 ∧ l = m)
  | [], [], x, _, _, _, _ => by simp [sameF]
  | [], _ :: _, _, h, _, _, _ => by simp at h
  | _ :: _, [], _, h, _, _, _ => by simp at h
  | a :: l, b :: m, x, h, hl, hm, hx => by
    have ha := hl a (by simp)
    have hb := hm b (by simp)
    obtain ⟨k1, k2, k3⟩ := xor8_zero ha.1 ha.2 hb.1 hb.2
    obtain ⟨j1, j2, j3⟩ := or8_zero hx.1 hx.2 k1 k2
    rw [sameF, sameF_ok (by simpa using h) (fun z hz => hl z (by simp [hz])) (fun z hz => hm z (by simp [hz])) ⟨j1, j2⟩, j3, k3]
    simp [and_assoc]
/-- Same, of two rows of 32 bytes. -/
theorem same_ok (a b : Int) : Contract0 Tryd.prog 40 [(.c (.sl 1 0 0 32 1)), (.c (.sl 2 0 0 32 1))] [(1, .one ⟨false, true, .ints .u8 (W.bts a)⟩), (2, .one ⟨false, true, .ints .u8 (W.bts b)⟩)] 3 (.c (.bool (decide (W.bts a = W.bts b)))) [] [] := by
  have run := run37 a b _ _ _ _ _ _ _ _ _ _ _ _ _ _ _ _ _ _ _ _ _ _ _ _ _ _ _ _ _ _ _ _ _ _ _ _ _ _ _ _ _ _ _ _ _ _ _ _ _ _ _ _ _ _ _ _ _ _ _ _ _ _ _ _ _ _ _ _ _ _ _ _ _ _ _ _ _ _ _ _ _ _ _ _ _ _ _ _ _ _ _ _ _ _ _ _ _ _ _ _ _ _ _ _ _ _ _ _ _ _ _ _ _ _ _ _ _ _ _ _ _ _ _ _ _ _ _ _ _ rfl rfl rfl rfl rfl rfl rfl rfl rfl rfl rfl rfl rfl rfl rfl rfl rfl rfl rfl rfl rfl rfl rfl rfl rfl rfl rfl rfl rfl rfl rfl rfl rfl rfl rfl rfl rfl rfl rfl rfl rfl rfl rfl rfl rfl rfl rfl rfl rfl rfl rfl rfl rfl rfl rfl rfl rfl rfl rfl rfl rfl rfl rfl rfl rfl rfl rfl rfl rfl rfl rfl rfl rfl rfl rfl rfl rfl rfl rfl rfl rfl rfl rfl rfl rfl rfl rfl rfl rfl rfl rfl rfl rfl rfl rfl rfl rfl rfl rfl rfl rfl rfl rfl rfl rfl rfl rfl rfl rfl rfl rfl rfl rfl rfl rfl rfl rfl rfl rfl rfl rfl rfl rfl rfl rfl rfl rfl rfl rfl
  have e : (sameF 0 (W.bts a) (W.bts b) == 0) = decide (W.bts a = W.bts b) := by
    have := sameF_ok (x := 0) (l := W.bts a) (m := W.bts b) rfl (bts_mem a) (bts_mem b) (by decide)
    rw [Bool.eq_iff_iff]; simp [this]
  rw [← e]
  exact run
end Go.Proofs.YtkjbjgkjplmkhaaDoor.Vm

namespace Go.Proofs.YtkjbjgkjplmkhaaDoor.Vm
open Go
def btsK : Nat → Int → List Int
  | 0, _ => []
  | k + 1, n => n % 256 :: btsK k (n / 256)
def numL : List Int → Int
  | [] => 0
  | b :: r => b + 256 * numL r
theorem btsK_num : ∀ (l : List Int), (∀ x ∈ l, 0 ≤ x ∧ x < 256) → btsK l.length (numL l) = l
  | [], _ => rfl
  | b :: r, h => by
    have hb := h b (by simp)
    have ih := btsK_num r fun x hx => h x (by simp [hx])
    show (b + 256 * numL r) % 256 :: btsK r.length ((b + 256 * numL r) / 256) = _
    have e1 : (b + 256 * numL r) % 256 = b := by omega
    have e2 : (b + 256 * numL r) / 256 = numL r := by omega
    rw [e1, e2, ih]
theorem dd (n a b : Int) (h : 0 ≤ a) : n / a / b = n / (a * b) := Int.ediv_ediv_of_nonneg h
theorem bts_eq (n : Int) : W.bts n = btsK 32 n := by
  simp only [btsK, W.bts, dd _ _ _ (show (0 : Int) ≤ 256 by decide), Int.reduceMul]
  simp only [List.cons.injEq, and_true, true_and]
  simp [Int.ediv_ediv_of_nonneg]
/-- Any 32 bytes are those of a number. -/
theorem bts_num {l : List Int} (hl : l.length = 32) (h : ∀ x ∈ l, 0 ≤ x ∧ x < 256) : l = W.bts (numL l) := by
  rw [bts_eq, ← hl, btsK_num l h]
end Go.Proofs.YtkjbjgkjplmkhaaDoor.Vm

namespace Go.Proofs.YtkjbjgkjplmkhaaDoor.Vm
open Go Go.Proofs Go.Proofs.YtkjbjgkjplmkhaaDoor
theorem PureF.num {P : Program} {f : Nat} {args : List V} {l : List Int} (h : PureF P f args (.aggi .u8 l)) (hl : l.length = 32) (hb : ∀ x ∈ l, 0 ≤ x ∧ x < 256) : PureF P f args (.aggi .u8 (W.bts (numL l))) := by
  rwa [← bts_num hl hb]
def I64 (a : Int) : Prop := -9223372036854775808 ≤ a ∧ a < 9223372036854775808
theorem wrapI {a : Int} (h : I64 a) : IntKind.i64.wrap a = a := by
  rw [IntKind.wrap_i64]; unfold I64 at h; omega
theorem pick_ok {a b : Int} (hb : 0 < b ∧ b < 4294967296) : PureF Tryd.prog 23 [(.c (.int .i64 a)), (.c (.int .i64 b))] (.c (.int .i64 (a % b))) := by
  have h1 := Int.tmod_eq_emod (a := a) (b := b)
  have h2 := Int.emod_nonneg a (show b ≠ 0 by omega)
  have h3 := Int.emod_lt_of_pos a hb.1
  by_cases h : a.tmod b < 0
  · have run := run25a a b _ _ rfl (by omega) (by simpa using h) rfl
    have e : IntKind.i64.wrap (a.tmod b + b) = a % b := by
      rw [wrapI (by unfold I64; have := Int.lt_tmod_of_pos a hb.1; omega)]
      split at h1 <;> omega
    rwa [e] at run
  · have run := run25b a b _ rfl (by omega) (by simpa using h)
    have e : a.tmod b = a % b := by split at h1 <;> omega
    rwa [e] at run
end Go.Proofs.YtkjbjgkjplmkhaaDoor.Vm

namespace Go.Proofs.YtkjbjgkjplmkhaaDoor.Vm
open Go Go.Proofs Go.Proofs.YtkjbjgkjplmkhaaDoor
/-- A limb that a carry has gone over. -/
def L52 (a : Int) : Prop := 0 ≤ a ∧ a < 4503599627370496
theorem L52.u {a : Int} (h : L52 a) : U64 a := ⟨h.1, Int.lt_trans h.2 (by decide)⟩
theorem subw {a b x y : Int} (k : Int) (hk : 9007199254740000 < k ∧ k < 9007199254741000) (ha : L52 a) (hb : 0 ≤ b ∧ b < 2251799813840896) (h : (k - b) % 18446744073709551616 = x) (h' : (a + x) % 18446744073709551616 = y) : y = a + k - b ∧ 0 ≤ y ∧ y < 18014398509481984 := by
  unfold L52 at ha; omega
theorem L52_of {x y z : Int} (hy : 0 ≤ y ∧ y < 18014398509481984) (h : x % 2251799813685248 + y / 2251799813685248 * 19 = z) : L52 z := by unfold L52; omega
theorem L52_of' {x y z : Int} (hy : 0 ≤ y ∧ y < 18014398509481984) (h : x % 2251799813685248 + y / 2251799813685248 = z) : L52 z := by unfold L52; omega
/-- Sub: the difference modulo the prime, in limbs a carry has gone over. -/
theorem sub_ok {a0 a1 a2 a3 a4 b0 b1 b2 b3 b4 : Int} (g0 : L52 a0) (g1 : L52 a1) (g2 : L52 a2) (g3 : L52 a3) (g4 : L52 a4) (k0 : U64 b0) (k1 : U64 b1) (k2 : U64 b2) (k3 : U64 b3) (k4 : U64 b4) :
    ∃ c0 c1 c2 c3 c4, PureF Tryd.prog 19 [(.aggi .u64 [a0, a1, a2, a3, a4]), (.aggi .u64 [b0, b1, b2, b3, b4])] (.aggi .u64 [c0, c1, c2, c3, c4]) ∧ (L52 c0 ∧ L52 c1 ∧ L52 c2 ∧ L52 c3 ∧ L52 c4) ∧ valE c0 c1 c2 c3 c4 % pP = (valE a0 a1 a2 a3 a4 - valE b0 b1 b2 b3 b4) % pP := by
  obtain ⟨r36_0, v_r36_0⟩ : ∃ z : Int, b0 % 2251799813685248 + b4 / 2251799813685248 * 19 = z := ⟨_, rfl⟩
  obtain ⟨r36_1, v_r36_1⟩ : ∃ z : Int, b1 % 2251799813685248 + b0 / 2251799813685248 = z := ⟨_, rfl⟩
  obtain ⟨r36_2, v_r36_2⟩ : ∃ z : Int, b2 % 2251799813685248 + b1 / 2251799813685248 = z := ⟨_, rfl⟩
  obtain ⟨r36_3, v_r36_3⟩ : ∃ z : Int, b3 % 2251799813685248 + b2 / 2251799813685248 = z := ⟨_, rfl⟩
  obtain ⟨r36_4, v_r36_4⟩ : ∃ z : Int, b4 % 2251799813685248 + b3 / 2251799813685248 = z := ⟨_, rfl⟩
  have c5 : PureF Tryd.prog 39 [(.aggi .u64 [b0, b1, b2, b3, b4])] (.aggi .u64 [r36_0, r36_1, r36_2, r36_3, r36_4]) := by subst v_r36_0; subst v_r36_1; subst v_r36_2; subst v_r36_3; subst v_r36_4; exact carry_ok k0 k1 k2 k3 k4
  obtain ⟨x7, h6⟩ : ∃ z : Int, (9007199254740916 - r36_0) % 18446744073709551616 = z := ⟨_, rfl⟩
  obtain ⟨x9, h8⟩ : ∃ z : Int, (a0 + x7) % 18446744073709551616 = z := ⟨_, rfl⟩
  obtain ⟨w9, p9⟩ := subw _ (by decide) g0 (cb1 k4 v_r36_0) h6 h8
  obtain ⟨x11, h10⟩ : ∃ z : Int, (9007199254740988 - r36_1) % 18446744073709551616 = z := ⟨_, rfl⟩
  obtain ⟨x13, h12⟩ : ∃ z : Int, (a1 + x11) % 18446744073709551616 = z := ⟨_, rfl⟩
  obtain ⟨w13, p13⟩ := subw _ (by decide) g1 (cb1' k0 v_r36_1) h10 h12
  obtain ⟨x15, h14⟩ : ∃ z : Int, (9007199254740988 - r36_2) % 18446744073709551616 = z := ⟨_, rfl⟩
  obtain ⟨x17, h16⟩ : ∃ z : Int, (a2 + x15) % 18446744073709551616 = z := ⟨_, rfl⟩
  obtain ⟨w17, p17⟩ := subw _ (by decide) g2 (cb1' k1 v_r36_2) h14 h16
  obtain ⟨x19, h18⟩ : ∃ z : Int, (9007199254740988 - r36_3) % 18446744073709551616 = z := ⟨_, rfl⟩
  obtain ⟨x21, h20⟩ : ∃ z : Int, (a3 + x19) % 18446744073709551616 = z := ⟨_, rfl⟩
  obtain ⟨w21, p21⟩ := subw _ (by decide) g3 (cb1' k2 v_r36_3) h18 h20
  obtain ⟨x23, h22⟩ : ∃ z : Int, (9007199254740988 - r36_4) % 18446744073709551616 = z := ⟨_, rfl⟩
  obtain ⟨x25, h24⟩ : ∃ z : Int, (a4 + x23) % 18446744073709551616 = z := ⟨_, rfl⟩
  obtain ⟨w25, p25⟩ := subw _ (by decide) g4 (cb1' k3 v_r36_4) h22 h24
  obtain ⟨r36_26, v_r36_26⟩ : ∃ z : Int, x9 % 2251799813685248 + x25 / 2251799813685248 * 19 = z := ⟨_, rfl⟩
  obtain ⟨r36_27, v_r36_27⟩ : ∃ z : Int, x13 % 2251799813685248 + x9 / 2251799813685248 = z := ⟨_, rfl⟩
  obtain ⟨r36_28, v_r36_28⟩ : ∃ z : Int, x17 % 2251799813685248 + x13 / 2251799813685248 = z := ⟨_, rfl⟩
  obtain ⟨r36_29, v_r36_29⟩ : ∃ z : Int, x21 % 2251799813685248 + x17 / 2251799813685248 = z := ⟨_, rfl⟩
  obtain ⟨r36_30, v_r36_30⟩ : ∃ z : Int, x25 % 2251799813685248 + x21 / 2251799813685248 = z := ⟨_, rfl⟩
  have c31 : PureF Tryd.prog 39 [(.aggi .u64 [x9, x13, x17, x21, x25])] (.aggi .u64 [r36_26, r36_27, r36_28, r36_29, r36_30]) := by subst v_r36_26; subst v_r36_27; subst v_r36_28; subst v_r36_29; subst v_r36_30; exact carry_ok ⟨p9.1, Int.lt_trans p9.2 (by decide)⟩ ⟨p13.1, Int.lt_trans p13.2 (by decide)⟩ ⟨p17.1, Int.lt_trans p17.2 (by decide)⟩ ⟨p21.1, Int.lt_trans p21.2 (by decide)⟩ ⟨p25.1, Int.lt_trans p25.2 (by decide)⟩
  have run := run23 a0 a1 a2 a3 a4 b0 b1 b2 b3 b4 r36_0 r36_1 r36_2 r36_3 r36_4 x7 x9 x11 x13 x15 x17 x19 x21 x23 x25 r36_26 r36_27 r36_28 r36_29 r36_30 c5 h6 h8 h10 h12 h14 h16 h18 h20 h22 h24 c31
  refine ⟨_, _, _, _, _, run, ⟨L52_of p25 v_r36_26, L52_of' p9 v_r36_27, L52_of' p13 v_r36_28, L52_of' p17 v_r36_29, L52_of' p21 v_r36_30⟩, ?_⟩
  rw [← v_r36_26, ← v_r36_27, ← v_r36_28, ← v_r36_29, ← v_r36_30, carry_val, Int.sub_mul_emod_self_left]
  have e : valE x9 x13 x17 x21 x25 = valE a0 a1 a2 a3 a4 - valE r36_0 r36_1 r36_2 r36_3 r36_4 + pP * 4 := by
    rw [w9, w13, w17, w21, w25]; unfold valE pP; omega
  rw [e, Int.add_mul_emod_self_left, ← v_r36_0, ← v_r36_1, ← v_r36_2, ← v_r36_3, ← v_r36_4, carry_val]
  have e2 : valE a0 a1 a2 a3 a4 - (valE b0 b1 b2 b3 b4 - pP * (b4 / 2251799813685248)) = valE a0 a1 a2 a3 a4 - valE b0 b1 b2 b3 b4 + pP * (b4 / 2251799813685248) := by omega
  rw [e2, Int.add_mul_emod_self_left]
end Go.Proofs.YtkjbjgkjplmkhaaDoor.Vm

namespace Go.Proofs.YtkjbjgkjplmkhaaDoor.Vm
open Go Go.Proofs Go.Proofs.YtkjbjgkjplmkhaaDoor
theorem fromU (b : Int) : L52 (b % 2251799813685248) := ⟨Int.emod_nonneg _ (by decide), Int.lt_trans (Int.emod_lt_of_pos _ (by decide)) (by decide)⟩
theorem bytes_ok' {a0 a1 a2 a3 a4 n : Int} (g : L52 a0 ∧ L52 a1 ∧ L52 a2 ∧ L52 a3 ∧ L52 a4) (h : valE a0 a1 a2 a3 a4 % pP = n) :
    PureF Tryd.prog 12 [(.aggi .u64 [a0, a1, a2, a3, a4])] (.aggi .u8 (W.bts n)) := by
  rw [← h]; exact bytes_ok g.1.u g.2.1.u g.2.2.1.u g.2.2.2.1.u g.2.2.2.2.u
end Go.Proofs.YtkjbjgkjplmkhaaDoor.Vm
