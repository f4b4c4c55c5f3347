/- What functions of the program come to: parts of the walk (FieldBytesWalk). -/
import Derived.Test.YtkjbjgkjplmkhaaFb
namespace Go.Proofs.Ytkjbjgkjplmkhaa.Vm
open Go Go.Proofs Go.Proofs.Ytkjbjgkjplmkhaa
theorem btsK_get : ∀ (k i : Nat) (n : Int), i < k → (btsK k n).getD i 0 = n / 256 ^ i % 256
  | 0, i, n, h => by omega
  | k + 1, 0, n, _ => by simp [btsK]
  | k + 1, i + 1, n, h => by
    have := btsK_get k i (n / 256) (by omega)
    rw [btsK, List.getD_cons_succ, this, Int.ediv_ediv_of_nonneg (by decide), Int.pow_succ, Int.mul_comm]
theorem bts_at (n : Int) {i : Nat} (h : i < 32) : (W.bts n).getD i 0 = n / 256 ^ i % 256 := by rw [bts_eq, btsK_get 32 i n h]
theorem off_eq (i : Nat) : addO 0 (mulE i 1) = i := by
  rw [addO_eq]; simp [mulE]
theorem pow0 (i : Nat) : (0 : Int) < 256 ^ i := Int.pow_pos (by decide)
/-- The law's loop: the one number's bytes are below the other's. -/
theorem loop3 (r0 r1 r2 r3 r4 c p : Int) (hc : 0 ≤ c) (hcp : c < p) (hp : p < 256 ^ 32) :
    CodeOk Try.prog 52 273 (kAt (kOf Try.prog Try.f3) [true, true, true, true, true, false, true, false]) (L3I r0 r1 r2 r3 r4 c p 31) (.exit 0) (L3J r0 r1 r2 r3 r4 c p) := by
  have key := CodeOk.loop (P := Try.prog) (nt := 52) (n0 := 273) (k := kAt (kOf Try.prog Try.f3) [true, true, true, true, true, false, true, false, false]) (ex := .exit 0) (s' := L3J r0 r1 r2 r3 r4 c p)
    (fun i : Nat => L3I r0 r1 r2 r3 r4 c p (i : Int)) (fun i => i < 32 ∧ c / 256 ^ (i + 1) = p / 256 ^ (i + 1)) (fun i => i) (by simp) ?_ 31 ⟨by decide, by
      rw [Int.ediv_eq_zero_of_lt hc (by have : (256 : Int) ^ (31 + 1) = 256 ^ 32 := rfl; omega), Int.ediv_eq_zero_of_lt (by omega) (by have : (256 : Int) ^ (31 + 1) = 256 ^ 32 := rfl; omega)]⟩
  · exact key
  · rintro i ⟨hi, hInv⟩
    have gc : (W.bts c).getD (addO 0 (mulE (Int.toNat (i : Int)) 1)) 0 = c / 256 ^ i % 256 := by rw [Int.toNat_natCast, off_eq, bts_at c hi]
    have gp : (W.bts p).getD (addO 0 (mulE (Int.toNat (i : Int)) 1)) 0 = p / 256 ^ i % 256 := by rw [Int.toNat_natCast, off_eq, bts_at p hi]
    have ho : addO (0 : Nat) (mulE (Int.toNat (i : Int)) (1 : Nat)) + (1 : Nat) ≤ (32 : Nat) := by rw [Int.toNat_natCast, off_eq]; omega
    have hle : c / 256 ^ i ≤ p / 256 ^ i := Int.ediv_le_ediv (pow0 i) (by omega)
    rw [Int.pow_succ, ← Int.ediv_ediv_of_nonneg (Int.le_of_lt (pow0 i)), ← Int.ediv_ediv_of_nonneg (Int.le_of_lt (pow0 i))] at hInv
    have hr : (0 : Int) ≤ i ∧ (i : Int) < 32 := by omega
    by_cases h : c / 256 ^ i % 256 = p / 256 ^ i % 256
    · left
      have heq : c / 256 ^ i = p / 256 ^ i := by
        generalize c / 256 ^ i = a at *
        generalize p / 256 ^ i = b at *
        omega
      cases i with
      | zero => simp at heq; omega
      | succ i =>
        refine ⟨i, ⟨by omega, heq⟩, by omega, ?_⟩
        have e : (((i + 1 : Nat) : Int) - 1) = (i : Int) := by omega
        have run := run3_go r0 r1 r2 r3 r4 c p ((i + 1 : Nat) : Int) _ _ i (by simp; omega) hr gc ho hr gp ho (by simp [h]) (by rw [e, wrapI (by unfold I64; omega)])
        exact run
    · right
      have hlt : c / 256 ^ i % 256 < p / 256 ^ i % 256 := by
        generalize c / 256 ^ i = a at *
        generalize p / 256 ^ i = b at *
        omega
      exact run3_out r0 r1 r2 r3 r4 c p i _ _ _ _ (by simp) hr gc ho hr gp ho (by simp [h]) hr gc ho hr gp ho (by simpa using hlt)
end Go.Proofs.Ytkjbjgkjplmkhaa.Vm

namespace Go.Proofs.Ytkjbjgkjplmkhaa.Vm
open Go Go.Proofs Go.Proofs.Ytkjbjgkjplmkhaa
theorem from_val (b : Int) (h : 0 ≤ b ∧ b < 57896044618658097711785492504343953926634992332820282019728792003956564819968) :
    valE (b % 2251799813685248) (b / 2251799813685248 % 2251799813685248) (b / 5070602400912917605986812821504 % 2251799813685248) (b / 11417981541647679048466287755595961091061972992 % 2251799813685248) (b / 25711008708143844408671393477458601640355247900524685364822016 % 2251799813685248) = b := by
  unfold valE; omega
theorem fieldBytes_ok (b : Int) {e : Int} (he : I64 e) : PureF Try.prog 3 [(.aggi .u8 (W.bts b)), (.c (.int .i64 e))] (.c (.bool true)) := by
  obtain ⟨n, hn⟩ := edge_ok b he
  have f := from_ok n
  have hb := bytes_ok (fromU n).u (fromU (n / 2251799813685248)).u (fromU (n / 5070602400912917605986812821504)).u (fromU (n / 11417981541647679048466287755595961091061972992)).u (fromU (n / 25711008708143844408671393477458601640355247900524685364822016)).u
  have p0 := prime_ok 0
  rw [prime0] at p0
  generalize hv : valE (n % 2251799813685248) (n / 2251799813685248 % 2251799813685248) (n / 5070602400912917605986812821504 % 2251799813685248) (n / 11417981541647679048466287755595961091061972992 % 2251799813685248) (n / 25711008708143844408671393477458601640355247900524685364822016 % 2251799813685248) = v at hb
  have hc0 : 0 ≤ v % pP := Int.emod_nonneg _ (by decide)
  have hc1 : v % pP < pP := Int.emod_lt_of_pos _ (by decide)
  have hv2 := from_val (v % pP) ⟨hc0, Int.lt_trans hc1 (by decide)⟩
  have f2 := from_ok (v % pP)
  have e2 : v % pP % pP = v % pP := Int.emod_emod_of_dvd v (Int.dvd_refl pP)
  have b2 := bytes_ok' ⟨fromU _, fromU _, fromU _, fromU _, fromU _⟩ ((congrArg (· % pP) hv2).trans e2)
  have q := equal_ok (fromU (v % pP)).u (fromU (v % pP / 2251799813685248)).u (fromU (v % pP / 5070602400912917605986812821504)).u (fromU (v % pP / 11417981541647679048466287755595961091061972992)).u (fromU (v % pP / 25711008708143844408671393477458601640355247900524685364822016)).u (fromU n).u (fromU (n / 2251799813685248)).u (fromU (n / 5070602400912917605986812821504)).u (fromU (n / 11417981541647679048466287755595961091061972992)).u (fromU (n / 25711008708143844408671393477458601640355247900524685364822016)).u
  rw [hv2, hv, e2] at q
  simp only [decide_true] at q
  exact run3 b e n _ _ _ _ _ (v % pP) pP _ _ _ _ _ (v % pP) _ _ _ _ _ hn f hb p0 (loop3 _ _ _ _ _ _ _ hc0 hc1 (by decide)) known_ok f2 b2 (by simp [W.bts]) f2 q
end Go.Proofs.Ytkjbjgkjplmkhaa.Vm
