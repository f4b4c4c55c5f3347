/- What functions of the program come to: parts of the walk (Gd). -/
import Derived.Test.YtohleiikedpmkaaGc
import Derived.KernelRfl
import Derived.Test.YtohleiikedpmkaaProg
import Derived.Test.YtohleiikedpmkaaVmc
set_option linter.unusedSimpArgs false
set_option linter.unusedVariables false
namespace Go.Proofs.Ytohleiikedpmkaa.Vm
open Go Go.Proofs Go.Proofs.Ytohleiikedpmkaa
set_option maxRecDepth 100000
end Go.Proofs.Ytohleiikedpmkaa.Vm

namespace Go.Proofs.Ytohleiikedpmkaa.Vm
open Go Go.Proofs Go.Proofs.Ytohleiikedpmkaa
end Go.Proofs.Ytohleiikedpmkaa.Vm

namespace Go.Proofs.Ytohleiikedpmkaa.Vm
open Go Go.Proofs Go.Proofs.Ytohleiikedpmkaa
set_option maxRecDepth 100000
end Go.Proofs.Ytohleiikedpmkaa.Vm

namespace Go.Proofs.Ytohleiikedpmkaa.W
open Go Go.Proofs.Ytohleiikedpmkaa.Vm
end Go.Proofs.Ytohleiikedpmkaa.W
namespace Go.Proofs.Ytohleiikedpmkaa.Vm
open Go Go.Proofs Go.Proofs.Ytohleiikedpmkaa
end Go.Proofs.Ytohleiikedpmkaa.Vm

namespace Go.Proofs.Ytohleiikedpmkaa.Vm
open Go Go.Proofs Go.Proofs.Ytohleiikedpmkaa
set_option maxRecDepth 100000
def LEaI (rr cw : Nat) (ro co : Int) (hi : Bool) (L : W.Rn) (Y : Nat → Nat → Int) (z i : Nat) : S0 :=
  ⟨[(1, (.c (.ptr 3 0 0))), (2, (.c .nils)), (3, (.c (.int .i64 0))), (14, (.c (.sl 1 0 0 (List.length L) 3))), (15, (.c (.int .i64 (↑(List.length L))))), (4, (.c (.int .i64 (z : Int)))), (16, (.c (.int .i64 (i : Int))))], [(1, (.one ⟨false, false, (.row (List.length L * 3) 3 (fun j_ => [(.int .i64 (↑(W.ra L j_))), (.int .i64 (↑(W.rb L j_))), (.sl 2 j_ 0 (W.rn L j_) 4)]))⟩)), (2, (.many (fun j_ => some ⟨false, false, (.ig (W.rn L j_ * 4) W.ck (fun p_ => (Y (W.ra L j_) (p_ + W.rb L j_ * 4))))⟩))), (3, (.one ⟨true, true, (.cells [(.int .i64 (↑rr)), (.int .i64 (↑cw)), (.int .i64 ro), (.int .i64 co), (.bool hi), (.sl 1 0 0 (List.length L) 3)])⟩))], 131⟩
theorem LEa_by {α : Type} (I : α → S0) (Inv : α → Prop) (μ : α → Nat) {ex : Ex} {s' : S0} (hex : ex ≠ .normal)
    (step : ∀ x, Inv x → (∃ y, Inv y ∧ μ y < μ x ∧ CodeOk Try.prog 161 131 (kAt (kOf Try.prog Try.f24) [true, true, false, true, false, false]) (I x) .normal (I y)) ∨ CodeOk Try.prog 161 131 (kAt (kOf Try.prog Try.f24) [true, true, false, true, false, false]) (I x) ex s') (x : α) (hx : Inv x) :
    CodeOk Try.prog 161 131 (kAt (kOf Try.prog Try.f24) [true, true, false, true, false]) (I x) ex s' := by
  have hk : (kAt (kOf Try.prog Try.f24) [true, true, false, true, false]) = .loop (kAt (kOf Try.prog Try.f24) [true, true, false, true, false, false]) := by kernel_rfl
  rw [hk]
  exact CodeOk.loop I Inv μ hex step x hx
def LEa0 (rr cw : Nat) (ro co : Int) (hi : Bool) (L : W.Rn) (Y : Nat → Nat → Int) : S0 :=
  ⟨[(1, (.c (.ptr 3 0 0))), (2, (.c .nils)), (3, (.c (.int .i64 0))), (14, (.c (.sl 1 0 0 (List.length L) 3))), (15, (.c (.int .i64 (↑(List.length L))))), (4, (.c (.int .i64 11))), (16, (.c (.int .i64 0)))], [(1, (.one ⟨false, false, (.row (List.length L * 3) 3 (fun j_ => [(.int .i64 (↑(W.ra L j_))), (.int .i64 (↑(W.rb L j_))), (.sl 2 j_ 0 (W.rn L j_) 4)]))⟩)), (2, (.many (fun j_ => some ⟨false, false, (.ig (W.rn L j_ * 4) W.ck (fun p_ => (Y (W.ra L j_) (p_ + W.rb L j_ * 4))))⟩))), (3, (.one ⟨true, true, (.cells [(.int .i64 (↑rr)), (.int .i64 (↑cw)), (.int .i64 ro), (.int .i64 co), (.bool hi), (.sl 1 0 0 (List.length L) 3)])⟩))], 131⟩
theorem LEa_rt (rr cw : Nat) (ro co : Int) (hi : Bool) (L : W.Rn) (Y : Nat → Nat → Int) (z i : Nat)
    (hrr : 1 ≤ rr ∧ rr ≤ 60)
    (hcw : 1 ≤ cw ∧ cw ≤ 120)
    (hro : 0 ≤ ro ∧ ro < rr)
    (hco : 0 ≤ co ∧ co < cw)
    (hT : 11 + 6 * L.length + 6 * W.sN L L.length ≤ 1048576)
    (hL : L.length ≤ 4000)
    (hok : ∀ q, q < L.length → W.ra L q < rr ∧ W.rb L q + W.rn L q ≤ cw)
    (hY : ∀ j, j < rr → W.okRow (Y j) cw)
    (hil : i ≤ L.length)
    (hz : i < L.length → z + 6 + 6 * W.rn L i ≤ 1048576)
    (h0 : ((↑i : Int) < (↑(List.length L) : Int))) :
    CodeOk Try.prog 161 131 (kAt (kOf Try.prog Try.f24) [true, true, false, true, false, false]) (LEaI rr cw ro co hi L Y z i) .normal (LEaI rr cw ro co hi L Y (z + (6 + 6 * W.rn L i)) (i + 1)) :=
  CodeOk.of_runs (fuel := 300) (v := ⟨[1, 2, 3, 14, 15, 4, 16], [1, 2, 3], [], 131⟩) (hs := [(0, ⟨.auto, some (.c (.bool (true)))⟩), (2, ⟨.ask, none⟩), (3, ⟨.ask, some (.agg [(.int .i64 (↑(W.ra L i))), (.int .i64 (↑(W.rb L i))), (.sl 2 i 0 (W.rn L i) 4)])⟩), (10, ⟨.auto, some (.c (.int .i64 (↑(6 * W.rn L i))))⟩), (11, ⟨.auto, some (.c (.int .i64 (↑(6 + 6 * W.rn L i))))⟩), (12, ⟨.auto, some (.c (.int .i64 (↑(z + (6 + 6 * W.rn L i)))))⟩), (14, ⟨.auto, some (.c (.int .i64 (↑(i + 1))))⟩)])
    (cs := [EI .i64 (IntKind.wrap IntKind.i64 ((↑i : Int) + 1)) ((↑(i + 1) : Int)),
      EI .i64 (IntKind.wrap IntKind.i64 ((↑z : Int) + (↑(6 + 6 * W.rn L i) : Int))) ((↑(z + (6 + 6 * W.rn L i)) : Int)),
      EI .i64 (IntKind.wrap IntKind.i64 (6 + (↑(6 * W.rn L i) : Int))) ((↑(6 + 6 * W.rn L i) : Int)),
      EI .i64 (IntKind.wrap IntKind.i64 (6 * (↑(W.rn L i) : Int))) ((↑(6 * W.rn L i) : Int)),
      ((.agg ((List.range 3).map (fun j_ => recGet 3 (fun j_ => [(.int .i64 (↑(W.ra L j_))), (.int .i64 (↑(W.rb L j_))), (.sl 2 j_ 0 (W.rn L j_) 4)]) (i * 3 + j_)))) : V) = (.agg [(.int .i64 (↑(W.ra L i))), (.int .i64 (↑(W.rb L i))), (.sl 2 i 0 (W.rn L i) 4)]),
      (i * (3 : Nat) + (3 : Nat) ≤ List.length L * (3 : Nat)),
      ((0 : Int) ≤ (↑i : Int) ∧ (↑i : Int) < (↑(List.length L) : Int)),
      EB (decide ((↑i : Int) < (↑(List.length L) : Int))) true])
    mixed (by kernel_rfl) ⟨.mk (by simp only [addO_eq, mulE_eq, mulE_one, Int.toNat_natCast, IntKind.wrap_i64, mmin, mmax]; omega), .mk (by simp only [addO_eq, mulE_eq, mulE_one, Int.toNat_natCast, IntKind.wrap_i64, mmin, mmax]; omega), .mk (by simp only [addO_eq, mulE_eq, mulE_one, Int.toNat_natCast, IntKind.wrap_i64, mmin, mmax]; omega), .mk (by simp only [addO_eq, mulE_eq, mulE_one, Int.toNat_natCast, IntKind.wrap_i64, mmin, mmax]; omega), EV.recs rfl, (by omega), (by omega), .mk (decide_eq_true h0), trivial⟩
theorem LEa_xf (rr cw : Nat) (ro co : Int) (hi : Bool) (L : W.Rn) (Y : Nat → Nat → Int) (z i : Nat)
    (hrr : 1 ≤ rr ∧ rr ≤ 60)
    (hcw : 1 ≤ cw ∧ cw ≤ 120)
    (hro : 0 ≤ ro ∧ ro < rr)
    (hco : 0 ≤ co ∧ co < cw)
    (hT : 11 + 6 * L.length + 6 * W.sN L L.length ≤ 1048576)
    (hL : L.length ≤ 4000)
    (hok : ∀ q, q < L.length → W.ra L q < rr ∧ W.rb L q + W.rn L q ≤ cw)
    (hY : ∀ j, j < rr → W.okRow (Y j) cw)
    (hil : i ≤ L.length)
    (hz : i < L.length → z + 6 + 6 * W.rn L i ≤ 1048576)
    (h0 : (¬(↑i : Int) < (↑(List.length L) : Int))) :
    CodeOk Try.prog 161 131 (kAt (kOf Try.prog Try.f24) [true, true, false, true, false, false]) (LEaI rr cw ro co hi L Y z i) (.exit 0) (LEaI rr cw ro co hi L Y z i) :=
  CodeOk.of_runs (fuel := 300) (v := ⟨[1, 2, 3, 14, 15, 4, 16], [1, 2, 3], [], 131⟩) (hs := [(0, ⟨.auto, some (.c (.bool (false)))⟩)])
    (cs := [EB (decide ((↑i : Int) < (↑(List.length L) : Int))) false])
    mixed (by kernel_rfl) ⟨.mk (decide_eq_false h0), trivial⟩
end Go.Proofs.Ytohleiikedpmkaa.Vm

namespace Go.Proofs.Ytohleiikedpmkaa.W
theorem sN_mono {L : Rn} {i : Nat} : ∀ d, sN L i ≤ sN L (i + d)
  | 0 => Nat.le_refl _
  | d + 1 => Nat.le_trans (sN_mono d) (Nat.le_add_right _ _)
theorem sN_up {L : Rn} {i j : Nat} (h : i ≤ j) : sN L i ≤ sN L j := by
  obtain ⟨d, rfl⟩ := Nat.le.dest h
  exact sN_mono d
end Go.Proofs.Ytohleiikedpmkaa.W
namespace Go.Proofs.Ytohleiikedpmkaa.Vm
open Go Go.Proofs Go.Proofs.Ytohleiikedpmkaa
theorem enc_size (rr cw : Nat) (ro co : Int) (hi : Bool) (L : W.Rn) (Y : Nat → Nat → Int)
    (hrr : 1 ≤ rr ∧ rr ≤ 60) (hcw : 1 ≤ cw ∧ cw ≤ 120) (hro : 0 ≤ ro ∧ ro < rr) (hco : 0 ≤ co ∧ co < cw) (hT : 11 + 6 * L.length + 6 * W.sN L L.length ≤ 1048576) (hL : L.length ≤ 4000)
    (hok : ∀ q, q < L.length → W.ra L q < rr ∧ W.rb L q + W.rn L q ≤ cw) (hY : ∀ j, j < rr → W.okRow (Y j) cw) :
    CodeOk Try.prog 161 131 (kAt (kOf Try.prog Try.f24) [true, true, false, true, false]) (LEa0 rr cw ro co hi L Y) (.exit 0) (LEaI rr cw ro co hi L Y (11 + 6 * L.length + 6 * W.sN L L.length) L.length) := by
  refine LEa_by (fun i => LEaI rr cw ro co hi L Y (11 + 6 * i + 6 * W.sN L i) i) (fun i => i ≤ L.length) (fun i => L.length - i) (by simp) ?_ 0 (Nat.zero_le _)
  intro i hil
  have hz : i < L.length → 11 + 6 * i + 6 * W.sN L i + 6 + 6 * W.rn L i ≤ 1048576 := by
    intro h
    have h1 : W.sN L (i + 1) ≤ W.sN L L.length := W.sN_up (by omega)
    have h2 : W.sN L (i + 1) = W.sN L i + W.rn L i := rfl
    omega
  by_cases h0 : (i : Int) < (L.length : Int)
  · refine .inl ⟨i + 1, by omega, by omega, ?_⟩
    have h := LEa_rt rr cw ro co hi L Y (11 + 6 * i + 6 * W.sN L i) i hrr hcw hro hco hT hL hok hY hil hz h0
    have e : 11 + 6 * i + 6 * W.sN L i + (6 + 6 * W.rn L i) = 11 + 6 * (i + 1) + 6 * W.sN L (i + 1) := by
      have h2 : W.sN L (i + 1) = W.sN L i + W.rn L i := rfl
      omega
    rw [e] at h
    exact h
  · have e : i = L.length := by omega
    subst e
    exact .inr (LEa_xf rr cw ro co hi L Y _ L.length hrr hcw hro hco hT hL hok hY hil hz h0)
end Go.Proofs.Ytohleiikedpmkaa.Vm

namespace Go.Proofs.Ytohleiikedpmkaa.Vm
open Go Go.Proofs Go.Proofs.Ytohleiikedpmkaa
set_option maxRecDepth 100000
def LEbI (L : W.Rn) (Y : Nat → Nat → Int) (e : List Int) (n i k : Nat) : S0 :=
  ⟨[(70, (.c (.sl 1 0 0 (List.length L) 3))), (71, (.c (.int .i64 (↑(List.length L))))), (72, (.c (.int .i64 (i : Int)))), (101, (.c (.sl 2 i 0 (W.rn L i) 4))), (102, (.c (.int .i64 (W.rn L i : Int)))), (2, (.c .nils)), (3, (.c (.int .i64 0))), (8, (.c (.sl 100008 0 0 n 1))), (103, (.c (.int .i64 (k : Int))))], [(1, (.one ⟨false, false, (.row (List.length L * 3) 3 (fun j_ => [(.int .i64 (↑(W.ra L j_))), (.int .i64 (↑(W.rb L j_))), (.sl 2 j_ 0 (W.rn L j_) 4)]))⟩)), (2, (.many (fun j_ => some ⟨false, false, (.ig (W.rn L j_ * 4) W.ck (fun p_ => (Y (W.ra L j_) (p_ + W.rb L j_ * 4))))⟩))), (100008, (.one ⟨true, false, .ints .u8 e⟩))], 100016⟩
theorem LEb_by {α : Type} (I : α → S0) (Inv : α → Prop) (μ : α → Nat) {ex : Ex} {s' : S0} (hex : ex ≠ .normal)
    (step : ∀ x, Inv x → (∃ y, Inv y ∧ μ y < μ x ∧ CodeOk Try.prog 161 100000 (kAt (kOf Try.prog Try.f24) [true, true, true, true, true, true, true, true, false, true, false, false, true, true, false, false, true, true, true, true, false, false]) (I x) .normal (I y)) ∨ CodeOk Try.prog 161 100000 (kAt (kOf Try.prog Try.f24) [true, true, true, true, true, true, true, true, false, true, false, false, true, true, false, false, true, true, true, true, false, false]) (I x) ex s') (x : α) (hx : Inv x) :
    CodeOk Try.prog 161 100000 (kAt (kOf Try.prog Try.f24) [true, true, true, true, true, true, true, true, false, true, false, false, true, true, false, false, true, true, true, true, false]) (I x) ex s' := by
  have hk : (kAt (kOf Try.prog Try.f24) [true, true, true, true, true, true, true, true, false, true, false, false, true, true, false, false, true, true, true, true, false]) = .loop (kAt (kOf Try.prog Try.f24) [true, true, true, true, true, true, true, true, false, true, false, false, true, true, false, false, true, true, true, true, false, false]) := by kernel_rfl
  rw [hk]
  exact CodeOk.loop I Inv μ hex step x hx
theorem LEb_rt (rr cw : Nat) (ro co : Int) (L : W.Rn) (Y : Nat → Nat → Int) (e : List Int) (n i k : Nat)
    (hrr : 1 ≤ rr ∧ rr ≤ 60)
    (hcw : 1 ≤ cw ∧ cw ≤ 120)
    (hro : 0 ≤ ro ∧ ro < rr)
    (hco : 0 ≤ co ∧ co < cw)
    (hT : 11 + 6 * L.length + 6 * W.sN L L.length ≤ 1048576)
    (hL : L.length ≤ 4000)
    (hok : ∀ q, q < L.length → W.ra L q < rr ∧ W.rb L q + W.rn L q ≤ cw)
    (hY : ∀ j, j < rr → W.okRow (Y j) cw)
    (hil : i < L.length)
    (hk : k ≤ W.rn L i)
    (hri : W.ra L i < 60 ∧ W.rb L i + W.rn L i ≤ 120)
    (hoc : k < W.rn L i → (0 ≤ Y (W.ra L i) (k * 4 + W.rb L i * 4) ∧ Y (W.ra L i) (k * 4 + W.rb L i * 4) ≤ 1114111 ∧ 0 ≤ Y (W.ra L i) (k * 4 + 1 + W.rb L i * 4) ∧ Y (W.ra L i) (k * 4 + 1 + W.rb L i * 4) ≤ 8 ∧ 0 ≤ Y (W.ra L i) (k * 4 + 2 + W.rb L i * 4) ∧ Y (W.ra L i) (k * 4 + 2 + W.rb L i * 4) ≤ 8 ∧ 0 ≤ Y (W.ra L i) (k * 4 + 3 + W.rb L i * 4) ∧ Y (W.ra L i) (k * 4 + 3 + W.rb L i * 4) ≤ 8))
    (he : e.length ≤ 1048576)
    (hn : n = e.length)
    (h0 : ((↑k : Int) < (↑(W.rn L i) : Int))) :
    CodeOk Try.prog 161 100000 (kAt (kOf Try.prog Try.f24) [true, true, true, true, true, true, true, true, false, true, false, false, true, true, false, false, true, true, true, true, false, false]) (LEbI L Y e n i k) .normal ⟨[(70, (.c (.sl 1 0 0 (List.length L) 3))), (71, (.c (.int .i64 (↑(List.length L))))), (72, (.c (.int .i64 (↑i)))), (101, (.c (.sl 2 i 0 (W.rn L i) 4))), (102, (.c (.int .i64 (↑(W.rn L i))))), (2, (.c .nils)), (3, (.c (.int .i64 0))), (8, (.c (.sl 100000 0 0 (n + 6) 1))), (103, (.c (.int .i64 (↑(k + 1)))))], [(1, (.one ⟨false, false, (.row (List.length L * 3) 3 (fun j_ => [(.int .i64 (↑(W.ra L j_))), (.int .i64 (↑(W.rb L j_))), (.sl 2 j_ 0 (W.rn L j_) 4)]))⟩)), (2, (.many (fun j_ => some ⟨false, false, (.ig (W.rn L j_ * 4) W.ck (fun p_ => (Y (W.ra L j_) (p_ + W.rb L j_ * 4))))⟩))), (100000, (.one ⟨true, false, (.ints .u8 (List.take n e ++ [Y (W.ra L i) (k * 4 + W.rb L i * 4) / 65536, Y (W.ra L i) (k * 4 + W.rb L i * 4) / 256 % 256, Y (W.ra L i) (k * 4 + W.rb L i * 4) % 256, Y (W.ra L i) (k * 4 + 1 + W.rb L i * 4), Y (W.ra L i) (k * 4 + 2 + W.rb L i * 4), Y (W.ra L i) (k * 4 + 3 + W.rb L i * 4)]))⟩))], 100016⟩ :=
  CodeOk.of_runs (fuel := 300) (v := ⟨[70, 71, 72, 101, 102, 2, 3, 8, 103], [1, 2, 100008, 100896], [(100008, 100008), (100896, 100000)], 100016⟩) (hs := [(0, ⟨.auto, some (.c (.bool (true)))⟩), (2, ⟨.ask, none⟩), (3, ⟨.ask, some (.agg [(.int .i32 (Y (W.ra L i) (k * 4 + W.rb L i * 4))), (.int .i64 (Y (W.ra L i) (k * 4 + 1 + W.rb L i * 4))), (.int .i64 (Y (W.ra L i) (k * 4 + 2 + W.rb L i * 4))), (.int .i64 (Y (W.ra L i) (k * 4 + 3 + W.rb L i * 4)))])⟩), (8, ⟨.auto, some (.c (.bool (false)))⟩), (12, ⟨.auto, some (.c (.bool (false)))⟩), (21, ⟨.auto, some (.c (.int .i64 (min (min (Y (W.ra L i) (k * 4 + 1 + W.rb L i * 4)) (Y (W.ra L i) (k * 4 + 2 + W.rb L i * 4))) (Y (W.ra L i) (k * 4 + 3 + W.rb L i * 4)))))⟩), (22, ⟨.auto, some (.c (.bool (false)))⟩), (31, ⟨.auto, some (.c (.int .i64 (max (max (Y (W.ra L i) (k * 4 + 1 + W.rb L i * 4)) (Y (W.ra L i) (k * 4 + 2 + W.rb L i * 4))) (Y (W.ra L i) (k * 4 + 3 + W.rb L i * 4)))))⟩), (32, ⟨.auto, some (.c (.bool (false)))⟩), (39, ⟨.auto, some (.c (.int .u8 (Y (W.ra L i) (k * 4 + W.rb L i * 4) / 65536)))⟩), (49, ⟨.auto, some (.c (.int .u8 (Y (W.ra L i) (k * 4 + 1 + W.rb L i * 4))))⟩), (52, ⟨.auto, some (.c (.int .u8 (Y (W.ra L i) (k * 4 + 2 + W.rb L i * 4))))⟩), (55, ⟨.auto, some (.c (.int .u8 (Y (W.ra L i) (k * 4 + 3 + W.rb L i * 4))))⟩), (57, ⟨.ask, some (.c (.sl 100896 0 0 (n + 6) 1))⟩), (59, ⟨.auto, some (.c (.int .i64 (↑(k + 1))))⟩)])
    (cs := [EI .i64 (IntKind.wrap IntKind.i64 ((↑k : Int) + 1)) ((↑(k + 1) : Int)),
      ((.c (.sl 100896 0 0 (addO n 6) 1)) : V) = (.c (.sl 100896 0 0 (n + 6) 1)),
      ((6 : Nat) ≤ (6 : Nat) ∧ (2 : Nat) * (n + (6 : Nat)) ≤ (4398046511104 : Nat) ∧ (0 : Nat) + n * (1 : Nat) ≤ List.length e),
      EI .u8 (Y (W.ra L i) (k * 4 + 3 + W.rb L i * 4) % 256) (Y (W.ra L i) (k * 4 + 3 + W.rb L i * 4)),
      EI .u8 (Y (W.ra L i) (k * 4 + 2 + W.rb L i * 4) % 256) (Y (W.ra L i) (k * 4 + 2 + W.rb L i * 4)),
      EI .u8 (Y (W.ra L i) (k * 4 + 1 + W.rb L i * 4) % 256) (Y (W.ra L i) (k * 4 + 1 + W.rb L i * 4)),
      EI .u8 (Y (W.ra L i) (k * 4 + W.rb L i * 4) / 65536 % 256) (Y (W.ra L i) (k * 4 + W.rb L i * 4) / 65536),
      EB (decide (max (max (Y (W.ra L i) (k * 4 + 1 + W.rb L i * 4)) (Y (W.ra L i) (k * 4 + 2 + W.rb L i * 4))) (Y (W.ra L i) (k * 4 + 3 + W.rb L i * 4)) > 255)) false,
      EI .i64 (bif decide (Y (W.ra L i) (k * 4 + 3 + W.rb L i * 4) > bif decide (Y (W.ra L i) (k * 4 + 2 + W.rb L i * 4) > Y (W.ra L i) (k * 4 + 1 + W.rb L i * 4)) then Y (W.ra L i) (k * 4 + 2 + W.rb L i * 4) else Y (W.ra L i) (k * 4 + 1 + W.rb L i * 4)) then Y (W.ra L i) (k * 4 + 3 + W.rb L i * 4) else bif decide (Y (W.ra L i) (k * 4 + 2 + W.rb L i * 4) > Y (W.ra L i) (k * 4 + 1 + W.rb L i * 4)) then Y (W.ra L i) (k * 4 + 2 + W.rb L i * 4) else Y (W.ra L i) (k * 4 + 1 + W.rb L i * 4)) (max (max (Y (W.ra L i) (k * 4 + 1 + W.rb L i * 4)) (Y (W.ra L i) (k * 4 + 2 + W.rb L i * 4))) (Y (W.ra L i) (k * 4 + 3 + W.rb L i * 4))),
      EB (decide (min (min (Y (W.ra L i) (k * 4 + 1 + W.rb L i * 4)) (Y (W.ra L i) (k * 4 + 2 + W.rb L i * 4))) (Y (W.ra L i) (k * 4 + 3 + W.rb L i * 4)) < 0)) false,
      EI .i64 (bif decide (Y (W.ra L i) (k * 4 + 3 + W.rb L i * 4) < bif decide (Y (W.ra L i) (k * 4 + 2 + W.rb L i * 4) < Y (W.ra L i) (k * 4 + 1 + W.rb L i * 4)) then Y (W.ra L i) (k * 4 + 2 + W.rb L i * 4) else Y (W.ra L i) (k * 4 + 1 + W.rb L i * 4)) then Y (W.ra L i) (k * 4 + 3 + W.rb L i * 4) else bif decide (Y (W.ra L i) (k * 4 + 2 + W.rb L i * 4) < Y (W.ra L i) (k * 4 + 1 + W.rb L i * 4)) then Y (W.ra L i) (k * 4 + 2 + W.rb L i * 4) else Y (W.ra L i) (k * 4 + 1 + W.rb L i * 4)) (min (min (Y (W.ra L i) (k * 4 + 1 + W.rb L i * 4)) (Y (W.ra L i) (k * 4 + 2 + W.rb L i * 4))) (Y (W.ra L i) (k * 4 + 3 + W.rb L i * 4))),
      EB (decide (Y (W.ra L i) (k * 4 + W.rb L i * 4) > 1114111)) false,
      EB (decide (Y (W.ra L i) (k * 4 + W.rb L i * 4) < 0)) false,
      ((.agg ((List.range 4).map (fun p_ => .int (W.ck (p_ + k * 4)) (Y (W.ra L i) (p_ + k * 4 + W.rb L i * 4))))) : V) = (.agg [(.int .i32 (Y (W.ra L i) (k * 4 + W.rb L i * 4))), (.int .i64 (Y (W.ra L i) (k * 4 + 1 + W.rb L i * 4))), (.int .i64 (Y (W.ra L i) (k * 4 + 2 + W.rb L i * 4))), (.int .i64 (Y (W.ra L i) (k * 4 + 3 + W.rb L i * 4)))]),
      (k * (4 : Nat) + (4 : Nat) ≤ W.rn L i * (4 : Nat)),
      ((0 : Int) ≤ (↑k : Int) ∧ (↑k : Int) < (↑(W.rn L i) : Int)),
      EB (decide ((↑k : Int) < (↑(W.rn L i) : Int))) true])
    mixed (by kernel_rfl) ⟨.mk (by simp only [addO_eq, mulE_eq, mulE_one, Int.toNat_natCast, IntKind.wrap_i64, mmin, mmax]; omega), EV.sl (by rfl) (by simp only [addO_eq, mulE_eq, mulE_one, Int.toNat_natCast, IntKind.wrap_i64, mmin, mmax]), (by omega), .mk (by omega), .mk (by omega), .mk (by omega), .mk (by omega), .mk (decide_eq_false (by omega)), .mk (by simp only [addO_eq, mulE_eq, mulE_one, Int.toNat_natCast, IntKind.wrap_i64, mmin, mmax]), .mk (decide_eq_false (by omega)), .mk (by simp only [addO_eq, mulE_eq, mulE_one, Int.toNat_natCast, IntKind.wrap_i64, mmin, mmax]), .mk (decide_eq_false (by omega)), .mk (decide_eq_false (by omega)), EV.ck4 (g := (fun p_ => (Y (W.ra L i) (p_ + W.rb L i * 4)))) (o := (k * 4)) (by omega) (by omega), (by omega), (by omega), .mk (decide_eq_true h0), trivial⟩
theorem LEb_xf (rr cw : Nat) (ro co : Int) (L : W.Rn) (Y : Nat → Nat → Int) (e : List Int) (n i k : Nat)
    (hrr : 1 ≤ rr ∧ rr ≤ 60)
    (hcw : 1 ≤ cw ∧ cw ≤ 120)
    (hro : 0 ≤ ro ∧ ro < rr)
    (hco : 0 ≤ co ∧ co < cw)
    (hT : 11 + 6 * L.length + 6 * W.sN L L.length ≤ 1048576)
    (hL : L.length ≤ 4000)
    (hok : ∀ q, q < L.length → W.ra L q < rr ∧ W.rb L q + W.rn L q ≤ cw)
    (hY : ∀ j, j < rr → W.okRow (Y j) cw)
    (hil : i < L.length)
    (hk : k ≤ W.rn L i)
    (hri : W.ra L i < 60 ∧ W.rb L i + W.rn L i ≤ 120)
    (hoc : k < W.rn L i → (0 ≤ Y (W.ra L i) (k * 4 + W.rb L i * 4) ∧ Y (W.ra L i) (k * 4 + W.rb L i * 4) ≤ 1114111 ∧ 0 ≤ Y (W.ra L i) (k * 4 + 1 + W.rb L i * 4) ∧ Y (W.ra L i) (k * 4 + 1 + W.rb L i * 4) ≤ 8 ∧ 0 ≤ Y (W.ra L i) (k * 4 + 2 + W.rb L i * 4) ∧ Y (W.ra L i) (k * 4 + 2 + W.rb L i * 4) ≤ 8 ∧ 0 ≤ Y (W.ra L i) (k * 4 + 3 + W.rb L i * 4) ∧ Y (W.ra L i) (k * 4 + 3 + W.rb L i * 4) ≤ 8))
    (he : e.length ≤ 1048576)
    (hn : n = e.length)
    (h0 : (¬(↑k : Int) < (↑(W.rn L i) : Int))) :
    CodeOk Try.prog 161 100000 (kAt (kOf Try.prog Try.f24) [true, true, true, true, true, true, true, true, false, true, false, false, true, true, false, false, true, true, true, true, false, false]) (LEbI L Y e n i k) (.exit 4) (LEbI L Y e n i k) :=
  CodeOk.of_runs (fuel := 300) (v := ⟨[70, 71, 72, 101, 102, 2, 3, 8, 103], [1, 2, 100008], [(100008, 100008)], 100016⟩) (hs := [(0, ⟨.auto, some (.c (.bool (false)))⟩)])
    (cs := [EB (decide ((↑k : Int) < (↑(W.rn L i) : Int))) false])
    mixed (by kernel_rfl) ⟨.mk (decide_eq_false h0), trivial⟩
end Go.Proofs.Ytohleiikedpmkaa.Vm

namespace Go.Proofs.Ytohleiikedpmkaa.W
def encC (Y : Nat → Nat → Int) (a b : Nat) : Nat → List Int
  | 0 => []
  | k + 1 => encC Y a b k ++ [Y a (k * 4 + b * 4) / 65536, Y a (k * 4 + b * 4) / 256 % 256, Y a (k * 4 + b * 4) % 256, Y a (k * 4 + 1 + b * 4), Y a (k * 4 + 2 + b * 4), Y a (k * 4 + 3 + b * 4)]
theorem encC_len (Y : Nat → Nat → Int) (a b : Nat) : ∀ k, (encC Y a b k).length = 6 * k
  | 0 => rfl
  | k + 1 => by unfold encC; rw [List.length_append, encC_len Y a b k]; rfl
end Go.Proofs.Ytohleiikedpmkaa.W
namespace Go.Proofs.Ytohleiikedpmkaa.Vm
open Go Go.Proofs Go.Proofs.Ytohleiikedpmkaa
theorem BR.ints {ρ : Rho} {D : Nat → Nat → Bool} {me : Mem} {b i b0 i0 : Nat} {o e e0 : Bool} {kd : IntKind} {l l' : List Int} (hρ : ρ b i = some (b0, i0)) (hl : look me b0 i0 = some ⟨o, e0, .ints kd l⟩) (he : e = true → e0 = true) (h : l' = l) : BR ρ D me b i ⟨o, e, .ints kd l'⟩ := by
  subst h
  exact .inl ⟨b0, i0, _, hρ, hl, rfl, he, rfl, fun j hj => ⟨rfl, rfl⟩⟩
theorem BR.runs {ρ : Rho} {D : Nat → Nat → Bool} {me : Mem} {b b0 i0 F : Nat} {o e e0 : Bool} {L : W.Rn} (hρ : ρ b 0 = some (b0, i0)) (hl : look me b0 i0 = some ⟨o, e0, .row (List.length L * 3) 3 (fun j_ => [C.int .i64 (↑(W.ra L j_) : Int), C.int .i64 (↑(W.rb L j_) : Int), C.sl F j_ 0 (W.rn L j_) 4])⟩) (he : e = true → e0 = true) (hF : ∀ j, ρ F j = some (F, j)) : BR ρ D me b 0 ⟨o, e, .row (List.length L * 3) 3 (fun j_ => [C.int .i64 (↑(W.ra L j_) : Int), C.int .i64 (↑(W.rb L j_) : Int), C.sl F j_ 0 (W.rn L j_) 4])⟩ := by
  refine .inl ⟨b0, i0, _, hρ, hl, rfl, he, rfl, fun j hj => ?_⟩
  show CR _ (recGet 3 (fun j_ => [C.int .i64 (↑(W.ra L j_) : Int), C.int .i64 (↑(W.rb L j_) : Int), C.sl F j_ 0 (W.rn L j_) 4]) j) (recGet 3 (fun j_ => [C.int .i64 (↑(W.ra L j_) : Int), C.int .i64 (↑(W.rb L j_) : Int), C.sl F j_ 0 (W.rn L j_) 4]) j)
  unfold recGet
  rcases (by omega : j % 3 = 0 ∨ j % 3 = 1 ∨ j % 3 = 2) with e | e | e <;> rw [e]
  · exact ⟨rfl, rfl⟩
  · exact ⟨rfl, rfl⟩
  · exact ⟨hF _, rfl, rfl, rfl⟩
theorem enc_cells (rr cw : Nat) (ro co : Int) (L : W.Rn) (Y : Nat → Nat → Int) (e : List Int) (n i : Nat)
    (hrr : 1 ≤ rr ∧ rr ≤ 60) (hcw : 1 ≤ cw ∧ cw ≤ 120) (hro : 0 ≤ ro ∧ ro < rr) (hco : 0 ≤ co ∧ co < cw) (hT : 11 + 6 * L.length + 6 * W.sN L L.length ≤ 1048576) (hL : L.length ≤ 4000)
    (hok : ∀ q, q < L.length → W.ra L q < rr ∧ W.rb L q + W.rn L q ≤ cw) (hY : ∀ j, j < rr → W.okRow (Y j) cw) (hil : i < L.length) (he : e.length + 6 * W.rn L i ≤ 1048576) (hn : n = e.length) :
    CodeOk Try.prog 161 100000 (kAt (kOf Try.prog Try.f24) [true, true, true, true, true, true, true, true, false, true, false, false, true, true, false, false, true, true, true, true, false]) (LEbI L Y e n i 0) (.exit 4) (LEbI L Y (e ++ W.encC Y (W.ra L i) (W.rb L i) (W.rn L i)) (n + 6 * W.rn L i) i (W.rn L i)) := by
  have h : CodeOk Try.prog 161 100000 (kAt (kOf Try.prog Try.f24) [true, true, true, true, true, true, true, true, false, true, false, false, true, true, false, false, true, true, true, true, false]) (LEbI L Y (e ++ W.encC Y (W.ra L i) (W.rb L i) 0) (n + 6 * 0) i 0) (.exit 4) (LEbI L Y (e ++ W.encC Y (W.ra L i) (W.rb L i) (W.rn L i)) (n + 6 * W.rn L i) i (W.rn L i)) := by
    refine LEb_by (fun k => LEbI L Y (e ++ W.encC Y (W.ra L i) (W.rb L i) k) (n + 6 * k) i k) (fun k => k ≤ W.rn L i) (fun k => W.rn L i - k) (by simp) ?_ 0 (Nat.zero_le _)
    intro k hk
    have hq := hok i hil
    have hri : W.ra L i < 60 ∧ W.rb L i + W.rn L i ≤ 120 := by omega
    have hln : (e ++ W.encC Y (W.ra L i) (W.rb L i) k).length ≤ 1048576 := by rw [List.length_append, W.encC_len]; omega
    have hoc : k < W.rn L i → (0 ≤ Y (W.ra L i) (k * 4 + W.rb L i * 4) ∧ Y (W.ra L i) (k * 4 + W.rb L i * 4) ≤ 1114111 ∧ 0 ≤ Y (W.ra L i) (k * 4 + 1 + W.rb L i * 4) ∧ Y (W.ra L i) (k * 4 + 1 + W.rb L i * 4) ≤ 8 ∧ 0 ≤ Y (W.ra L i) (k * 4 + 2 + W.rb L i * 4) ∧ Y (W.ra L i) (k * 4 + 2 + W.rb L i * 4) ≤ 8 ∧ 0 ≤ Y (W.ra L i) (k * 4 + 3 + W.rb L i * 4) ∧ Y (W.ra L i) (k * 4 + 3 + W.rb L i * 4) ≤ 8) := by
      intro hlt
      have := hY (W.ra L i) hq.1 (k + W.rb L i) (by omega)
      unfold W.okC at this
      rw [show (k + W.rb L i) * 4 = k * 4 + W.rb L i * 4 by omega, show k * 4 + W.rb L i * 4 + 1 = k * 4 + 1 + W.rb L i * 4 by omega, show k * 4 + W.rb L i * 4 + 2 = k * 4 + 2 + W.rb L i * 4 by omega, show k * 4 + W.rb L i * 4 + 3 = k * 4 + 3 + W.rb L i * 4 by omega] at this
      omega
    have hnn : n + 6 * k = (e ++ W.encC Y (W.ra L i) (W.rb L i) k).length := by rw [List.length_append, W.encC_len]; omega
    by_cases h0 : (k : Int) < (W.rn L i : Int)
    · refine .inl ⟨k + 1, by omega, by omega, ?_⟩
      refine (LEb_rt rr cw ro co L Y (e ++ W.encC Y (W.ra L i) (W.rb L i) k) (n + 6 * k) i k hrr hcw hro hco hT hL hok hY hil hk hri hoc hln hnn h0).move (Move.ren (H := 100008) (h' := 100000) (F := 100009) (f' := 100001) (by decide) (show 100000 ≤ 100016 ∧ 100008 < 100016 ∧ 100009 < 100016 by decide) (by decide) (by decide) ?_ ?_)
      · refine ⟨BR.runs (renRho_low (by decide)) rfl (fun h => h) (fun j => renRho_low (by decide)), ?_, ?_, trivial⟩
        · intro j k hk; injection hk with hk; subst hk
          exact BR.ig (renRho_low (by decide)) rfl (fun h => h) rfl (fun _ _ => rfl) (fun _ _ => rfl)
        · refine BR.ints (renRho_H (by decide)) rfl (fun h => h) ?_
          rw [List.take_of_length_le (by omega)]
          exact (List.append_assoc _ _ _).symm
      · refine ⟨rfl, ⟨renRho_low (by decide), rfl, rfl, rfl⟩, rfl, ⟨rfl, rfl⟩, rfl, ⟨rfl, rfl⟩, rfl, ⟨renRho_low (by decide), rfl, rfl, rfl⟩, rfl, ⟨rfl, rfl⟩, rfl, trivial, rfl, ⟨rfl, rfl⟩, rfl, ⟨renRho_H (by decide), rfl, ?_, rfl⟩, rfl, ⟨rfl, rfl⟩, trivial⟩
        omega
    · have e' : k = W.rn L i := by omega
      subst e'
      exact .inr (LEb_xf rr cw ro co L Y _ _ i _ hrr hcw hro hco hT hL hok hY hil hk hri hoc hln hnn h0)
  rw [show e ++ W.encC Y (W.ra L i) (W.rb L i) 0 = e from List.append_nil e] at h
  exact h
end Go.Proofs.Ytohleiikedpmkaa.Vm

namespace Go.Proofs.Ytohleiikedpmkaa.Vm
open Go Go.Proofs Go.Proofs.Ytohleiikedpmkaa
set_option maxRecDepth 100000
def LEcI (L : W.Rn) (Y : Nat → Nat → Int) (e : List Int) (n i : Nat) : S0 :=
  ⟨[(70, (.c (.sl 1 0 0 (List.length L) 3))), (71, (.c (.int .i64 (↑(List.length L))))), (2, (.c .nils)), (3, (.c (.int .i64 0))), (8, (.c (.sl 907 0 0 n 1))), (72, (.c (.int .i64 (i : Int))))], [(1, (.one ⟨false, false, (.row (List.length L * 3) 3 (fun j_ => [(.int .i64 (↑(W.ra L j_))), (.int .i64 (↑(W.rb L j_))), (.sl 2 j_ 0 (W.rn L j_) 4)]))⟩)), (2, (.many (fun j_ => some ⟨false, false, (.ig (W.rn L j_ * 4) W.ck (fun p_ => (Y (W.ra L j_) (p_ + W.rb L j_ * 4))))⟩))), (907, (.one ⟨true, false, .ints .u8 e⟩))], 915⟩
theorem LEc_by {α : Type} (I : α → S0) (Inv : α → Prop) (μ : α → Nat) {ex : Ex} {s' : S0} (hex : ex ≠ .normal)
    (step : ∀ x, Inv x → (∃ y, Inv y ∧ μ y < μ x ∧ CodeOk Try.prog 161 899 (kAt (kOf Try.prog Try.f24) [true, true, true, true, true, true, true, true, false, true, false, false]) (I x) .normal (I y)) ∨ CodeOk Try.prog 161 899 (kAt (kOf Try.prog Try.f24) [true, true, true, true, true, true, true, true, false, true, false, false]) (I x) ex s') (x : α) (hx : Inv x) :
    CodeOk Try.prog 161 899 (kAt (kOf Try.prog Try.f24) [true, true, true, true, true, true, true, true, false, true, false]) (I x) ex s' := by
  have hk : (kAt (kOf Try.prog Try.f24) [true, true, true, true, true, true, true, true, false, true, false]) = .loop (kAt (kOf Try.prog Try.f24) [true, true, true, true, true, true, true, true, false, true, false, false]) := by kernel_rfl
  rw [hk]
  exact CodeOk.loop I Inv μ hex step x hx
theorem LEc_rt (rr cw : Nat) (ro co : Int) (L : W.Rn) (Y : Nat → Nat → Int) (e : List Int) (n i : Nat)
    (hrr : 1 ≤ rr ∧ rr ≤ 60)
    (hcw : 1 ≤ cw ∧ cw ≤ 120)
    (hro : 0 ≤ ro ∧ ro < rr)
    (hco : 0 ≤ co ∧ co < cw)
    (hT : 11 + 6 * L.length + 6 * W.sN L L.length ≤ 1048576)
    (hL : L.length ≤ 4000)
    (hok : ∀ q, q < L.length → W.ra L q < rr ∧ W.rb L q + W.rn L q ≤ cw)
    (hY : ∀ j, j < rr → W.okRow (Y j) cw)
    (hil : i ≤ L.length)
    (hri : i < L.length → (W.ra L i < 60 ∧ W.rb L i + W.rn L i ≤ 120))
    (he : i < L.length → e.length + 6 + 6 * W.rn L i ≤ 1048576)
    (hn : n = e.length)
    (h0 : ((↑i : Int) < (↑(List.length L) : Int))) :
    CodeOk Try.prog 161 899 (kAt (kOf Try.prog Try.f24) [true, true, true, true, true, true, true, true, false, true, false, false]) (LEcI L Y e n i) .normal ⟨[(70, (.c (.sl 1 0 0 (List.length L) 3))), (71, (.c (.int .i64 (↑(List.length L))))), (2, (.c .nils)), (3, (.c (.int .i64 0))), (8, (.c (.sl 899 0 0 (n + 6 + 6 * W.rn L i) 1))), (72, (.c (.int .i64 (↑(i + 1)))))], [(1, (.one ⟨false, false, (.row (List.length L * 3) 3 (fun j_ => [(.int .i64 (↑(W.ra L j_))), (.int .i64 (↑(W.rb L j_))), (.sl 2 j_ 0 (W.rn L j_) 4)]))⟩)), (2, (.many (fun j_ => some ⟨false, false, (.ig (W.rn L j_ * 4) W.ck (fun p_ => (Y (W.ra L j_) (p_ + W.rb L j_ * 4))))⟩))), (899, (.one ⟨true, false, (.ints .u8 (List.take n e ++ List.take 6 [(↑(W.ra L i) : Int) / 256, (↑(W.ra L i) : Int) % 256, (↑(W.rb L i) : Int) / 256, (↑(W.rb L i) : Int) % 256, (↑(W.rn L i) : Int) / 256, (↑(W.rn L i) : Int) % 256] ++ W.encC Y (W.ra L i) (W.rb L i) (W.rn L i)))⟩))], 915⟩ :=
  CodeOk.of_runs (fuel := 300) (v := ⟨[70, 71, 2, 3, 8, 72], [1, 2, 907, 100008], [(907, 907), (100008, 899)], 915⟩) (hs := [(0, ⟨.auto, some (.c (.bool (true)))⟩), (2, ⟨.ask, none⟩), (3, ⟨.ask, some (.agg [(.int .i64 (↑(W.ra L i))), (.int .i64 (↑(W.rb L i))), (.sl 2 i 0 (W.rn L i) 4)])⟩), (14, ⟨.call [1107] (.c (.bool (true))) [] [], none⟩), (20, ⟨.call [] (.c (.sl 1203 0 0 2 1)) [] [(1203, (.one ⟨true, true, (.ints .u8 [((↑(W.ra L i) / 256) : Int), ((↑(W.ra L i) % 256) : Int)])⟩))], none⟩), (23, ⟨.call [] (.c (.sl 1251 0 0 2 1)) [] [(1251, (.one ⟨true, true, (.ints .u8 [((↑(W.rb L i) / 256) : Int), ((↑(W.rb L i) % 256) : Int)])⟩))], none⟩), (27, ⟨.call [] (.c (.sl 1315 0 0 2 1)) [] [(1315, (.one ⟨true, true, (.ints .u8 [((↑(W.rn L i) / 256) : Int), ((↑(W.rn L i) % 256) : Int)])⟩))], none⟩), (29, ⟨.call [1331, 1203, 1251, 1315] (.c (.sl 1347 0 0 6 1)) [] [(1347, (.one ⟨true, false, (.ints .u8 [((↑(W.ra L i) / 256) : Int), ((↑(W.ra L i) % 256) : Int), ((↑(W.rb L i) / 256) : Int), ((↑(W.rb L i) % 256) : Int), ((↑(W.rn L i) / 256) : Int), ((↑(W.rn L i) % 256) : Int)])⟩))], none⟩), (30, ⟨.ask, some (.c (.sl 1363 0 0 (n + 6) 1))⟩), (36, ⟨.sum ⟨[70, 71, 72, 101, 102, 2, 3, 8, 103], [1, 2, 1363], [(1363, 100008)], 100016⟩ (.exit 4) (LEbI L Y (List.take n e ++ List.take 6 [(↑(W.ra L i) : Int) / 256, (↑(W.ra L i) : Int) % 256, (↑(W.rb L i) : Int) / 256, (↑(W.rb L i) : Int) % 256, (↑(W.rn L i) : Int) / 256, (↑(W.rn L i) : Int) % 256] ++ W.encC Y (W.ra L i) (W.rb L i) (W.rn L i)) (n + 6 + 6 * W.rn L i) i (W.rn L i)), none⟩), (37, ⟨.auto, some (.c (.int .i64 (↑(i + 1))))⟩)])
    (cs := [EI .i64 (IntKind.wrap IntKind.i64 ((↑i : Int) + 1)) ((↑(i + 1) : Int)),
      CodeOk Try.prog 161 1459 (kAt (kOf Try.prog Try.f24) [true, true, true, true, true, true, true, true, false, true, false, false, true, true, false, false, true, true, true, true, false]) (LEbI L Y (List.take n e ++ List.take 6 [(↑(W.ra L i) : Int) / 256, (↑(W.ra L i) : Int) % 256, (↑(W.rb L i) : Int) / 256, (↑(W.rb L i) : Int) % 256, (↑(W.rn L i) : Int) / 256, (↑(W.rn L i) : Int) % 256]) (n + 6) i 0) (.exit 4) (LEbI L Y (List.take n e ++ List.take 6 [(↑(W.ra L i) : Int) / 256, (↑(W.ra L i) : Int) % 256, (↑(W.rb L i) : Int) / 256, (↑(W.rb L i) : Int) % 256, (↑(W.rn L i) : Int) / 256, (↑(W.rn L i) : Int) % 256] ++ W.encC Y (W.ra L i) (W.rb L i) (W.rn L i)) (n + 6 + 6 * W.rn L i) i (W.rn L i)),
      ((.c (.sl 1363 0 0 (addO n 6) 1)) : V) = (.c (.sl 1363 0 0 (n + 6) 1)),
      ((6 : Nat) ≤ (6 : Nat) ∧ (2 : Nat) * (n + (6 : Nat)) ≤ (4398046511104 : Nat) ∧ (0 : Nat) + n * (1 : Nat) ≤ List.length e),
      Contract Try.prog 42 [(.c (.sl 1331 0 0 3 1))] [(1331, (.one ⟨true, true, (.cells [(.sl 1203 0 0 2 1), (.sl 1251 0 0 2 1), (.sl 1315 0 0 2 1)])⟩)), (1203, (.one ⟨true, true, (.ints .u8 [((↑(W.ra L i) / 256) : Int), ((↑(W.ra L i) % 256) : Int)])⟩)), (1251, (.one ⟨true, true, (.ints .u8 [((↑(W.rb L i) / 256) : Int), ((↑(W.rb L i) % 256) : Int)])⟩)), (1315, (.one ⟨true, true, (.ints .u8 [((↑(W.rn L i) / 256) : Int), ((↑(W.rn L i) % 256) : Int)])⟩))] 1347 (.c (.sl 1347 0 0 6 1)) [] [(1347, (.one ⟨true, false, (.ints .u8 [((↑(W.ra L i) / 256) : Int), ((↑(W.ra L i) % 256) : Int), ((↑(W.rb L i) / 256) : Int), ((↑(W.rb L i) % 256) : Int), ((↑(W.rn L i) / 256) : Int), ((↑(W.rn L i) % 256) : Int)])⟩))],
      Contract Try.prog 43 [(.c (.int .i64 (↑(W.rn L i))))] [] 1315 (.c (.sl 1315 0 0 2 1)) [] [(1315, (.one ⟨true, true, (.ints .u8 [((↑(W.rn L i) / 256) : Int), ((↑(W.rn L i) % 256) : Int)])⟩))],
      Contract Try.prog 43 [(.c (.int .i64 (↑(W.rb L i))))] [] 1251 (.c (.sl 1251 0 0 2 1)) [] [(1251, (.one ⟨true, true, (.ints .u8 [((↑(W.rb L i) / 256) : Int), ((↑(W.rb L i) % 256) : Int)])⟩))],
      Contract Try.prog 43 [(.c (.int .i64 (↑(W.ra L i))))] [] 1203 (.c (.sl 1203 0 0 2 1)) [] [(1203, (.one ⟨true, true, (.ints .u8 [((↑(W.ra L i) / 256) : Int), ((↑(W.ra L i) % 256) : Int)])⟩))],
      Contract Try.prog 41 [(.c (.sl 1107 0 0 3 1))] [(1107, (.one ⟨true, true, (.cells [(.int .i64 (↑(W.ra L i))), (.int .i64 (↑(W.rb L i))), (.int .i64 (↑(W.rn L i)))])⟩))] 1123 (.c (.bool (true))) [] [],
      ((.agg ((List.range 3).map (fun j_ => recGet 3 (fun j_ => [(.int .i64 (↑(W.ra L j_))), (.int .i64 (↑(W.rb L j_))), (.sl 2 j_ 0 (W.rn L j_) 4)]) (i * 3 + j_)))) : V) = (.agg [(.int .i64 (↑(W.ra L i))), (.int .i64 (↑(W.rb L i))), (.sl 2 i 0 (W.rn L i) 4)]),
      (i * (3 : Nat) + (3 : Nat) ≤ List.length L * (3 : Nat)),
      ((0 : Int) ≤ (↑i : Int) ∧ (↑i : Int) < (↑(List.length L) : Int)),
      EB (decide ((↑i : Int) < (↑(List.length L) : Int))) true])
    mixed (by kernel_rfl) ⟨.mk (by simp only [addO_eq, mulE_eq, mulE_one, Int.toNat_natCast, IntKind.wrap_i64, mmin, mmax]; omega), (CodeOk.mono (enc_cells rr cw ro co L Y (List.take n e ++ List.take 6 [(↑(W.ra L i) : Int) / 256, (↑(W.ra L i) : Int) % 256, (↑(W.rb L i) : Int) / 256, (↑(W.rb L i) : Int) % 256, (↑(W.rn L i) : Int) / 256, (↑(W.rn L i) : Int) % 256]) (n + 6) i (by omega) (by omega) (by omega) (by omega) (by omega) (by omega) (by omega) (by omega) (by omega) (by simp only [and_true, List.length_set, List.length_append, List.length_replicate, List.length_take, List.length_drop, List.length_map, List.length_cons, List.length_nil, List.length_zipWith, splice_len1, W.le_len, W.bts_len, Int.toNat_natCast, addO_eq, mulE_eq, mulE_one]; omega) (by simp only [and_true, List.length_set, List.length_append, List.length_replicate, List.length_take, List.length_drop, List.length_map, List.length_cons, List.length_nil, List.length_zipWith, splice_len1, W.le_len, W.bts_len, Int.toNat_natCast, addO_eq, mulE_eq, mulE_one]; omega)) (by decide)), EV.sl (by rfl) (by simp only [addO_eq, mulE_eq, mulE_one, Int.toNat_natCast, IntKind.wrap_i64, mmin, mmax]), (by omega), Contract0.in1 (join3 ((↑(W.ra L i) : Int) / 256) ((↑(W.ra L i) : Int) % 256) ((↑(W.rb L i) : Int) / 256) ((↑(W.rb L i) : Int) % 256) ((↑(W.rn L i) : Int) / 256) ((↑(W.rn L i) : Int) % 256)) [.b 1331 1 true [], .b 1203 2 true [], .b 1251 3 true [], .b 1315 4 true []] [none] [(5, 1347)] [] (by kernel_rfl), Contract0.in1 (two_ok ((↑(W.rn L i) : Int)) (by omega)) [] [none] [(1, 1315)] [] (by kernel_rfl), Contract0.in1 (two_ok ((↑(W.rb L i) : Int)) (by omega)) [] [none] [(1, 1251)] [] (by kernel_rfl), Contract0.in1 (two_ok ((↑(W.ra L i) : Int)) (by omega)) [] [none] [(1, 1203)] [] (by kernel_rfl), Contract0.in1 (short3 ((↑(W.ra L i) : Int)) ((↑(W.rb L i) : Int)) ((↑(W.rn L i) : Int)) (by omega) (by omega) (by omega)) [.b 1107 1 true []] [none] [] [] (by kernel_rfl), EV.recs rfl, (by omega), (by omega), .mk (decide_eq_true h0), trivial⟩
theorem LEc_xf (rr cw : Nat) (ro co : Int) (L : W.Rn) (Y : Nat → Nat → Int) (e : List Int) (n i : Nat)
    (hrr : 1 ≤ rr ∧ rr ≤ 60)
    (hcw : 1 ≤ cw ∧ cw ≤ 120)
    (hro : 0 ≤ ro ∧ ro < rr)
    (hco : 0 ≤ co ∧ co < cw)
    (hT : 11 + 6 * L.length + 6 * W.sN L L.length ≤ 1048576)
    (hL : L.length ≤ 4000)
    (hok : ∀ q, q < L.length → W.ra L q < rr ∧ W.rb L q + W.rn L q ≤ cw)
    (hY : ∀ j, j < rr → W.okRow (Y j) cw)
    (hil : i ≤ L.length)
    (hri : i < L.length → (W.ra L i < 60 ∧ W.rb L i + W.rn L i ≤ 120))
    (he : i < L.length → e.length + 6 + 6 * W.rn L i ≤ 1048576)
    (hn : n = e.length)
    (h0 : (¬(↑i : Int) < (↑(List.length L) : Int))) :
    CodeOk Try.prog 161 899 (kAt (kOf Try.prog Try.f24) [true, true, true, true, true, true, true, true, false, true, false, false]) (LEcI L Y e n i) (.exit 2) (LEcI L Y e n i) :=
  CodeOk.of_runs (fuel := 300) (v := ⟨[70, 71, 2, 3, 8, 72], [1, 2, 907], [(907, 907)], 915⟩) (hs := [(0, ⟨.auto, some (.c (.bool (false)))⟩)])
    (cs := [EB (decide ((↑i : Int) < (↑(List.length L) : Int))) false])
    mixed (by kernel_rfl) ⟨.mk (decide_eq_false h0), trivial⟩
end Go.Proofs.Ytohleiikedpmkaa.Vm

namespace Go.Proofs.Ytohleiikedpmkaa.W
def encR (Y : Nat → Nat → Int) (L : Rn) : Nat → List Int
  | 0 => []
  | i + 1 => encR Y L i ++ ([(ra L i : Int) / 256, (ra L i : Int) % 256, (rb L i : Int) / 256, (rb L i : Int) % 256, (rn L i : Int) / 256, (rn L i : Int) % 256] ++ encC Y (ra L i) (rb L i) (rn L i))
theorem encR_len (Y : Nat → Nat → Int) (L : Rn) : ∀ i, (encR Y L i).length = 6 * i + 6 * sN L i
  | 0 => rfl
  | i + 1 => by
    have h : sN L (i + 1) = sN L i + rn L i := rfl
    unfold encR
    rw [List.length_append, encR_len Y L i, List.length_append, encC_len]
    simp only [List.length_cons, List.length_nil]
    omega
end Go.Proofs.Ytohleiikedpmkaa.W
namespace Go.Proofs.Ytohleiikedpmkaa.Vm
open Go Go.Proofs Go.Proofs.Ytohleiikedpmkaa
theorem enc_runs (rr cw : Nat) (ro co : Int) (L : W.Rn) (Y : Nat → Nat → Int) (e : List Int) (n : Nat)
    (hrr : 1 ≤ rr ∧ rr ≤ 60) (hcw : 1 ≤ cw ∧ cw ≤ 120) (hro : 0 ≤ ro ∧ ro < rr) (hco : 0 ≤ co ∧ co < cw) (hT : 11 + 6 * L.length + 6 * W.sN L L.length ≤ 1048576) (hL : L.length ≤ 4000)
    (hok : ∀ q, q < L.length → W.ra L q < rr ∧ W.rb L q + W.rn L q ≤ cw) (hY : ∀ j, j < rr → W.okRow (Y j) cw) (he : n + 6 * L.length + 6 * W.sN L L.length ≤ 1048576) (hn : n = e.length) :
    CodeOk Try.prog 161 899 (kAt (kOf Try.prog Try.f24) [true, true, true, true, true, true, true, true, false, true, false]) (LEcI L Y e n 0) (.exit 2) (LEcI L Y (e ++ W.encR Y L L.length) (n + (6 * L.length + 6 * W.sN L L.length)) L.length) := by
  have h : CodeOk Try.prog 161 899 (kAt (kOf Try.prog Try.f24) [true, true, true, true, true, true, true, true, false, true, false]) (LEcI L Y (e ++ W.encR Y L 0) (n + (6 * 0 + 6 * W.sN L 0)) 0) (.exit 2) (LEcI L Y (e ++ W.encR Y L L.length) (n + (6 * L.length + 6 * W.sN L L.length)) L.length) := by
    refine LEc_by (fun i => LEcI L Y (e ++ W.encR Y L i) (n + (6 * i + 6 * W.sN L i)) i) (fun i => i ≤ L.length) (fun i => L.length - i) (by simp) ?_ 0 (Nat.zero_le _)
    intro i hil
    have hri : i < L.length → (W.ra L i < 60 ∧ W.rb L i + W.rn L i ≤ 120) := fun h => by
      have := hok i h
      omega
    have hnn : n + (6 * i + 6 * W.sN L i) = (e ++ W.encR Y L i).length := by rw [List.length_append, W.encR_len]; omega
    have hs : W.sN L (i + 1) = W.sN L i + W.rn L i := rfl
    have hln : i < L.length → (e ++ W.encR Y L i).length + 6 + 6 * W.rn L i ≤ 1048576 := by
      intro h
      have h1 : W.sN L (i + 1) ≤ W.sN L L.length := W.sN_up (by omega)
      omega
    by_cases h0 : (i : Int) < (L.length : Int)
    · refine .inl ⟨i + 1, by omega, by omega, ?_⟩
      refine (LEc_rt rr cw ro co L Y (e ++ W.encR Y L i) (n + (6 * i + 6 * W.sN L i)) i hrr hcw hro hco hT hL hok hY hil hri hln hnn h0).move (Move.ren (H := 907) (h' := 899) (F := 908) (f' := 900) (by decide) (show 899 ≤ 915 ∧ 907 < 915 ∧ 908 < 915 by decide) (by decide) (by decide) ?_ ?_)
      · refine ⟨BR.runs (renRho_low (by decide)) rfl (fun h => h) (fun j => renRho_low (by decide)), ?_, ?_, trivial⟩
        · intro j k hk; injection hk with hk; subst hk
          exact BR.ig (renRho_low (by decide)) rfl (fun h => h) rfl (fun _ _ => rfl) (fun _ _ => rfl)
        · refine BR.ints (renRho_H (by decide)) rfl (fun h => h) ?_
          rw [List.take_of_length_le (by omega)]
          show e ++ (W.encR Y L i ++ (_ ++ _)) = _
          simp only [List.append_assoc]
          rfl
      · refine ⟨rfl, ⟨renRho_low (by decide), rfl, rfl, rfl⟩, rfl, ⟨rfl, rfl⟩, rfl, trivial, rfl, ⟨rfl, rfl⟩, rfl, ⟨renRho_H (by decide), rfl, ?_, rfl⟩, rfl, ⟨rfl, rfl⟩, trivial⟩
        omega
    · have e' : i = L.length := by omega
      subst e'
      exact .inr (LEc_xf rr cw ro co L Y _ _ _ hrr hcw hro hco hT hL hok hY hil hri hln hnn h0)
  rw [show e ++ W.encR Y L 0 = e from List.append_nil e] at h
  exact h
end Go.Proofs.Ytohleiikedpmkaa.Vm

namespace Go.Proofs.Ytohleiikedpmkaa.Vm
open Go Go.Proofs Go.Proofs.Ytohleiikedpmkaa
set_option maxRecDepth 100000
theorem enc_t (rr cw : Nat) (ro co : Int) (L : W.Rn) (Y : Nat → Nat → Int)
    (hrr : 1 ≤ rr ∧ rr ≤ 60)
    (hcw : 1 ≤ cw ∧ cw ≤ 120)
    (hro : 0 ≤ ro ∧ ro < rr)
    (hco : 0 ≤ co ∧ co < cw)
    (hT : 11 + 6 * L.length + 6 * W.sN L L.length ≤ 1048576)
    (hL : L.length ≤ 4000)
    (hok : ∀ q, q < L.length → W.ra L q < rr ∧ W.rb L q + W.rn L q ≤ cw)
    (hY : ∀ j, j < rr → W.okRow (Y j) cw) :
    Contract0 Try.prog 24 [(.agg [(.int .i64 (↑rr)), (.int .i64 (↑cw)), (.int .i64 ro), (.int .i64 co), (.bool (true)), (.sl 1 0 0 (List.length L) 3)])] [(1, (.one ⟨false, false, (.row (List.length L * 3) 3 (fun j_ => [(.int .i64 (↑(W.ra L j_))), (.int .i64 (↑(W.rb L j_))), (.sl 2 j_ 0 (W.rn L j_) 4)]))⟩)), (2, (.many (fun j_ => some ⟨false, false, (.ig (W.rn L j_ * 4) W.ck (fun p_ => (Y (W.ra L j_) (p_ + W.rb L j_ * 4))))⟩)))] 3 (.tup [(.c (.sl 3 0 0 (11 + (6 * List.length L + 6 * W.sN L (List.length L))) 1)), (.c (.int .i64 0))]) [] [(3, (.one ⟨true, false, (.ints .u8 ([(↑rr : Int) / 256, (↑rr : Int) % 256, (↑cw : Int) / 256, (↑cw : Int) % 256, ro / 256, ro % 256, co / 256, co % 256, 1, (↑(List.length L) : Int) / 256, (↑(List.length L) : Int) % 256] ++ W.encR Y L (List.length L)))⟩))] :=
  Contract0.renum (Contract0.of_frunF (res := (.tup [(.c (.sl 907 0 0 (11 + (6 * List.length L + 6 * W.sN L (List.length L))) 1)), (.c (.int .i64 0))])) (up := [(907, (.one ⟨true, false, (.ints .u8 ([(↑rr : Int) / 256, (↑rr : Int) % 256, (↑cw : Int) / 256, (↑cw : Int) % 256, ro / 256, ro % 256, co / 256, co % 256, 1, (↑(List.length L) : Int) / 256, (↑(List.length L) : Int) % 256] ++ W.encR Y L (List.length L)))⟩))]) (kill := []) (n0 := 3) (m := [(1, (.one ⟨false, false, (.row (List.length L * 3) 3 (fun j_ => [(.int .i64 (↑(W.ra L j_))), (.int .i64 (↑(W.rb L j_))), (.sl 2 j_ 0 (W.rn L j_) 4)]))⟩)), (2, (.many (fun j_ => some ⟨false, false, (.ig (W.rn L j_ * 4) W.ck (fun p_ => (Y (W.ra L j_) (p_ + W.rb L j_ * 4))))⟩)))]) (args := [(.agg [(.int .i64 (↑rr)), (.int .i64 (↑cw)), (.int .i64 ro), (.int .i64 co), (.bool (true)), (.sl 1 0 0 (List.length L) 3)])]) (fn := Try.f24) (c := bodyOf Try.f24) (fuel := 300) (k := kOf Try.prog Try.f24) (outs := [907]) (hs := [(8, ⟨.sum ⟨[1, 2, 3, 14, 15, 4, 16], [1, 2, 3], [], 131⟩ (.exit 0) (LEaI rr cw ro co true L Y (11 + 6 * List.length L + 6 * W.sN L (List.length L)) (List.length L)), none⟩), (12, ⟨.auto, some (.c (.bool (false)))⟩), (15, ⟨.auto, some (.c (.bool (false)))⟩), (27, ⟨.call [387] (.c (.bool (true))) [] [], none⟩), (37, ⟨.call [] (.c (.sl 531 0 0 2 1)) [] [(531, (.one ⟨true, true, (.ints .u8 [((↑rr / 256) : Int), ((↑rr % 256) : Int)])⟩))], none⟩), (40, ⟨.call [] (.c (.sl 579 0 0 2 1)) [] [(579, (.one ⟨true, true, (.ints .u8 [((↑cw / 256) : Int), ((↑cw % 256) : Int)])⟩))], none⟩), (43, ⟨.call [] (.c (.sl 627 0 0 2 1)) [] [(627, (.one ⟨true, true, (.ints .u8 [(ro / 256), (ro % 256)])⟩))], none⟩), (46, ⟨.call [] (.c (.sl 675 0 0 2 1)) [] [(675, (.one ⟨true, true, (.ints .u8 [(co / 256), (co % 256)])⟩))], none⟩), (52, ⟨.call [] (.c (.sl 771 0 0 2 1)) [] [(771, (.one ⟨true, true, (.ints .u8 [((↑(List.length L) / 256) : Int), ((↑(List.length L) % 256) : Int)])⟩))], none⟩), (54, ⟨.call [787, 531, 579, 627, 675, 707, 771] (.c (.sl 803 0 0 11 1)) [] [(803, (.one ⟨true, false, (.ints .u8 [((↑rr / 256) : Int), ((↑rr % 256) : Int), ((↑cw / 256) : Int), ((↑cw % 256) : Int), (ro / 256), (ro % 256), (co / 256), (co % 256), 1, ((↑(List.length L) / 256) : Int), ((↑(List.length L) % 256) : Int)])⟩))], none⟩), (60, ⟨.sum ⟨[70, 71, 2, 3, 8, 72], [1, 2, 803], [(803, 907)], 915⟩ (.exit 2) (LEcI L Y ([(↑rr : Int) / 256, (↑rr : Int) % 256, (↑cw : Int) / 256, (↑cw : Int) % 256, ro / 256, ro % 256, co / 256, co % 256, 1, (↑(List.length L) : Int) / 256, (↑(List.length L) : Int) % 256] ++ W.encR Y L (List.length L)) (11 + (6 * List.length L + 6 * W.sN L (List.length L))) (List.length L)), none⟩)])
    (cs := [CodeOk Try.prog 161 899 (kAt (kOf Try.prog Try.f24) [true, true, true, true, true, true, true, true, false, true, false]) (LEcI L Y [(↑rr : Int) / 256, (↑rr : Int) % 256, (↑cw : Int) / 256, (↑cw : Int) % 256, ro / 256, ro % 256, co / 256, co % 256, 1, (↑(List.length L) : Int) / 256, (↑(List.length L) : Int) % 256] 11 0) (.exit 2) (LEcI L Y ([(↑rr : Int) / 256, (↑rr : Int) % 256, (↑cw : Int) / 256, (↑cw : Int) % 256, ro / 256, ro % 256, co / 256, co % 256, 1, (↑(List.length L) : Int) / 256, (↑(List.length L) : Int) % 256] ++ W.encR Y L (List.length L)) (11 + (6 * List.length L + 6 * W.sN L (List.length L))) (List.length L)),
      Contract Try.prog 42 [(.c (.sl 787 0 0 6 1))] [(787, (.one ⟨true, true, (.cells [(.sl 531 0 0 2 1), (.sl 579 0 0 2 1), (.sl 627 0 0 2 1), (.sl 675 0 0 2 1), (.sl 707 0 0 1 1), (.sl 771 0 0 2 1)])⟩)), (531, (.one ⟨true, true, (.ints .u8 [((↑rr / 256) : Int), ((↑rr % 256) : Int)])⟩)), (579, (.one ⟨true, true, (.ints .u8 [((↑cw / 256) : Int), ((↑cw % 256) : Int)])⟩)), (627, (.one ⟨true, true, (.ints .u8 [(ro / 256), (ro % 256)])⟩)), (675, (.one ⟨true, true, (.ints .u8 [(co / 256), (co % 256)])⟩)), (707, (.one ⟨true, true, (.cells [(.int .u8 1)])⟩)), (771, (.one ⟨true, true, (.ints .u8 [((↑(List.length L) / 256) : Int), ((↑(List.length L) % 256) : Int)])⟩))] 803 (.c (.sl 803 0 0 11 1)) [] [(803, (.one ⟨true, false, (.ints .u8 [((↑rr / 256) : Int), ((↑rr % 256) : Int), ((↑cw / 256) : Int), ((↑cw % 256) : Int), (ro / 256), (ro % 256), (co / 256), (co % 256), 1, ((↑(List.length L) / 256) : Int), ((↑(List.length L) % 256) : Int)])⟩))],
      Contract Try.prog 43 [(.c (.int .i64 (↑(List.length L))))] [] 771 (.c (.sl 771 0 0 2 1)) [] [(771, (.one ⟨true, true, (.ints .u8 [((↑(List.length L) / 256) : Int), ((↑(List.length L) % 256) : Int)])⟩))],
      Contract Try.prog 43 [(.c (.int .i64 co))] [] 675 (.c (.sl 675 0 0 2 1)) [] [(675, (.one ⟨true, true, (.ints .u8 [(co / 256), (co % 256)])⟩))],
      Contract Try.prog 43 [(.c (.int .i64 ro))] [] 627 (.c (.sl 627 0 0 2 1)) [] [(627, (.one ⟨true, true, (.ints .u8 [(ro / 256), (ro % 256)])⟩))],
      Contract Try.prog 43 [(.c (.int .i64 (↑cw)))] [] 579 (.c (.sl 579 0 0 2 1)) [] [(579, (.one ⟨true, true, (.ints .u8 [((↑cw / 256) : Int), ((↑cw % 256) : Int)])⟩))],
      Contract Try.prog 43 [(.c (.int .i64 (↑rr)))] [] 531 (.c (.sl 531 0 0 2 1)) [] [(531, (.one ⟨true, true, (.ints .u8 [((↑rr / 256) : Int), ((↑rr % 256) : Int)])⟩))],
      Contract Try.prog 41 [(.c (.sl 387 0 0 4 1))] [(387, (.one ⟨true, true, (.cells [(.int .i64 (↑rr)), (.int .i64 (↑cw)), (.int .i64 ro), (.int .i64 co)])⟩))] 403 (.c (.bool (true))) [] [],
      EB (decide ((↑(11 + 6 * List.length L + 6 * W.sN L (List.length L)) : Int) > 1048576)) false,
      EB (decide ((↑(List.length L) : Int) > 4000)) false,
      CodeOk Try.prog 161 131 (kAt (kOf Try.prog Try.f24) [true, true, false, true, false]) (LEa0 rr cw ro co true L Y) (.exit 0) (LEaI rr cw ro co true L Y (11 + 6 * List.length L + 6 * W.sN L (List.length L)) (List.length L))])
    mixed Try.func24 (by kernel_rfl) (by kernel_rfl) (by kernel_rfl) ⟨rfl, (.inr (RoF.of (fun _ => rfl))), trivial⟩ (by kernel_rfl) ⟨(enc_runs rr cw ro co L Y ([(↑rr : Int) / 256, (↑rr : Int) % 256, (↑cw : Int) / 256, (↑cw : Int) % 256, ro / 256, ro % 256, co / 256, co % 256, 1, (↑(List.length L) : Int) / 256, (↑(List.length L) : Int) % 256]) 11 (by omega) (by omega) (by omega) (by omega) (by omega) (by omega) (by omega) (by omega) (by omega) (by simp only [and_true, List.length_set, List.length_append, List.length_replicate, List.length_take, List.length_drop, List.length_map, List.length_cons, List.length_nil, List.length_zipWith, splice_len1, W.le_len, W.bts_len, Int.toNat_natCast, addO_eq, mulE_eq, mulE_one])), Contract0.in1 (join6 ((↑rr : Int) / 256) ((↑rr : Int) % 256) ((↑cw : Int) / 256) ((↑cw : Int) % 256) (ro / 256) (ro % 256) (co / 256) (co % 256) 1 ((↑(List.length L) : Int) / 256) ((↑(List.length L) : Int) % 256)) [.b 787 1 true [], .b 531 2 true [], .b 579 3 true [], .b 627 4 true [], .b 675 5 true [], .b 707 6 true [], .b 771 7 true []] [none] [(8, 803)] [] (by kernel_rfl), Contract0.in1 (two_ok ((↑(List.length L) : Int)) (by omega)) [] [none] [(1, 771)] [] (by kernel_rfl), Contract0.in1 (two_ok co (by omega)) [] [none] [(1, 675)] [] (by kernel_rfl), Contract0.in1 (two_ok ro (by omega)) [] [none] [(1, 627)] [] (by kernel_rfl), Contract0.in1 (two_ok ((↑cw : Int)) (by omega)) [] [none] [(1, 579)] [] (by kernel_rfl), Contract0.in1 (two_ok ((↑rr : Int)) (by omega)) [] [none] [(1, 531)] [] (by kernel_rfl), Contract0.in1 (short4 ((↑rr : Int)) ((↑cw : Int)) ro co (by omega) (by omega) (by omega) (by omega)) [.b 387 1 true []] [none] [] [] (by kernel_rfl), .mk (decide_eq_false (by omega)), .mk (decide_eq_false (by omega)), (enc_size rr cw ro co true L Y (by omega) (by omega) (by omega) (by omega) (by omega) (by omega) (by omega) (by omega)), trivial⟩) [.b 1 1 true, .b 2 2 true] [] [(907, 3)] [] (by kernel_rfl) (by kernel_rfl) (by kernel_rfl) (by kernel_rfl) (by kernel_rfl)
theorem enc_f (rr cw : Nat) (ro co : Int) (L : W.Rn) (Y : Nat → Nat → Int)
    (hrr : 1 ≤ rr ∧ rr ≤ 60)
    (hcw : 1 ≤ cw ∧ cw ≤ 120)
    (hro : 0 ≤ ro ∧ ro < rr)
    (hco : 0 ≤ co ∧ co < cw)
    (hT : 11 + 6 * L.length + 6 * W.sN L L.length ≤ 1048576)
    (hL : L.length ≤ 4000)
    (hok : ∀ q, q < L.length → W.ra L q < rr ∧ W.rb L q + W.rn L q ≤ cw)
    (hY : ∀ j, j < rr → W.okRow (Y j) cw) :
    Contract0 Try.prog 24 [(.agg [(.int .i64 (↑rr)), (.int .i64 (↑cw)), (.int .i64 ro), (.int .i64 co), (.bool (false)), (.sl 1 0 0 (List.length L) 3)])] [(1, (.one ⟨false, false, (.row (List.length L * 3) 3 (fun j_ => [(.int .i64 (↑(W.ra L j_))), (.int .i64 (↑(W.rb L j_))), (.sl 2 j_ 0 (W.rn L j_) 4)]))⟩)), (2, (.many (fun j_ => some ⟨false, false, (.ig (W.rn L j_ * 4) W.ck (fun p_ => (Y (W.ra L j_) (p_ + W.rb L j_ * 4))))⟩)))] 3 (.tup [(.c (.sl 3 0 0 (11 + (6 * List.length L + 6 * W.sN L (List.length L))) 1)), (.c (.int .i64 0))]) [] [(3, (.one ⟨true, false, (.ints .u8 ([(↑rr : Int) / 256, (↑rr : Int) % 256, (↑cw : Int) / 256, (↑cw : Int) % 256, ro / 256, ro % 256, co / 256, co % 256, 0, (↑(List.length L) : Int) / 256, (↑(List.length L) : Int) % 256] ++ W.encR Y L (List.length L)))⟩))] :=
  Contract0.renum (Contract0.of_frunF (res := (.tup [(.c (.sl 907 0 0 (11 + (6 * List.length L + 6 * W.sN L (List.length L))) 1)), (.c (.int .i64 0))])) (up := [(907, (.one ⟨true, false, (.ints .u8 ([(↑rr : Int) / 256, (↑rr : Int) % 256, (↑cw : Int) / 256, (↑cw : Int) % 256, ro / 256, ro % 256, co / 256, co % 256, 0, (↑(List.length L) : Int) / 256, (↑(List.length L) : Int) % 256] ++ W.encR Y L (List.length L)))⟩))]) (kill := []) (n0 := 3) (m := [(1, (.one ⟨false, false, (.row (List.length L * 3) 3 (fun j_ => [(.int .i64 (↑(W.ra L j_))), (.int .i64 (↑(W.rb L j_))), (.sl 2 j_ 0 (W.rn L j_) 4)]))⟩)), (2, (.many (fun j_ => some ⟨false, false, (.ig (W.rn L j_ * 4) W.ck (fun p_ => (Y (W.ra L j_) (p_ + W.rb L j_ * 4))))⟩)))]) (args := [(.agg [(.int .i64 (↑rr)), (.int .i64 (↑cw)), (.int .i64 ro), (.int .i64 co), (.bool (false)), (.sl 1 0 0 (List.length L) 3)])]) (fn := Try.f24) (c := bodyOf Try.f24) (fuel := 300) (k := kOf Try.prog Try.f24) (outs := [907]) (hs := [(8, ⟨.sum ⟨[1, 2, 3, 14, 15, 4, 16], [1, 2, 3], [], 131⟩ (.exit 0) (LEaI rr cw ro co false L Y (11 + 6 * List.length L + 6 * W.sN L (List.length L)) (List.length L)), none⟩), (12, ⟨.auto, some (.c (.bool (false)))⟩), (15, ⟨.auto, some (.c (.bool (false)))⟩), (27, ⟨.call [387] (.c (.bool (true))) [] [], none⟩), (36, ⟨.call [] (.c (.sl 515 0 0 2 1)) [] [(515, (.one ⟨true, true, (.ints .u8 [((↑rr / 256) : Int), ((↑rr % 256) : Int)])⟩))], none⟩), (39, ⟨.call [] (.c (.sl 563 0 0 2 1)) [] [(563, (.one ⟨true, true, (.ints .u8 [((↑cw / 256) : Int), ((↑cw % 256) : Int)])⟩))], none⟩), (42, ⟨.call [] (.c (.sl 611 0 0 2 1)) [] [(611, (.one ⟨true, true, (.ints .u8 [(ro / 256), (ro % 256)])⟩))], none⟩), (45, ⟨.call [] (.c (.sl 659 0 0 2 1)) [] [(659, (.one ⟨true, true, (.ints .u8 [(co / 256), (co % 256)])⟩))], none⟩), (51, ⟨.call [] (.c (.sl 755 0 0 2 1)) [] [(755, (.one ⟨true, true, (.ints .u8 [((↑(List.length L) / 256) : Int), ((↑(List.length L) % 256) : Int)])⟩))], none⟩), (53, ⟨.call [771, 515, 563, 611, 659, 691, 755] (.c (.sl 787 0 0 11 1)) [] [(787, (.one ⟨true, false, (.ints .u8 [((↑rr / 256) : Int), ((↑rr % 256) : Int), ((↑cw / 256) : Int), ((↑cw % 256) : Int), (ro / 256), (ro % 256), (co / 256), (co % 256), 0, ((↑(List.length L) / 256) : Int), ((↑(List.length L) % 256) : Int)])⟩))], none⟩), (59, ⟨.sum ⟨[70, 71, 2, 3, 8, 72], [1, 2, 787], [(787, 907)], 915⟩ (.exit 2) (LEcI L Y ([(↑rr : Int) / 256, (↑rr : Int) % 256, (↑cw : Int) / 256, (↑cw : Int) % 256, ro / 256, ro % 256, co / 256, co % 256, 0, (↑(List.length L) : Int) / 256, (↑(List.length L) : Int) % 256] ++ W.encR Y L (List.length L)) (11 + (6 * List.length L + 6 * W.sN L (List.length L))) (List.length L)), none⟩)])
    (cs := [CodeOk Try.prog 161 883 (kAt (kOf Try.prog Try.f24) [true, true, true, true, true, true, true, true, false, true, false]) (LEcI L Y [(↑rr : Int) / 256, (↑rr : Int) % 256, (↑cw : Int) / 256, (↑cw : Int) % 256, ro / 256, ro % 256, co / 256, co % 256, 0, (↑(List.length L) : Int) / 256, (↑(List.length L) : Int) % 256] 11 0) (.exit 2) (LEcI L Y ([(↑rr : Int) / 256, (↑rr : Int) % 256, (↑cw : Int) / 256, (↑cw : Int) % 256, ro / 256, ro % 256, co / 256, co % 256, 0, (↑(List.length L) : Int) / 256, (↑(List.length L) : Int) % 256] ++ W.encR Y L (List.length L)) (11 + (6 * List.length L + 6 * W.sN L (List.length L))) (List.length L)),
      Contract Try.prog 42 [(.c (.sl 771 0 0 6 1))] [(771, (.one ⟨true, true, (.cells [(.sl 515 0 0 2 1), (.sl 563 0 0 2 1), (.sl 611 0 0 2 1), (.sl 659 0 0 2 1), (.sl 691 0 0 1 1), (.sl 755 0 0 2 1)])⟩)), (515, (.one ⟨true, true, (.ints .u8 [((↑rr / 256) : Int), ((↑rr % 256) : Int)])⟩)), (563, (.one ⟨true, true, (.ints .u8 [((↑cw / 256) : Int), ((↑cw % 256) : Int)])⟩)), (611, (.one ⟨true, true, (.ints .u8 [(ro / 256), (ro % 256)])⟩)), (659, (.one ⟨true, true, (.ints .u8 [(co / 256), (co % 256)])⟩)), (691, (.one ⟨true, true, (.cells [(.int .u8 0)])⟩)), (755, (.one ⟨true, true, (.ints .u8 [((↑(List.length L) / 256) : Int), ((↑(List.length L) % 256) : Int)])⟩))] 787 (.c (.sl 787 0 0 11 1)) [] [(787, (.one ⟨true, false, (.ints .u8 [((↑rr / 256) : Int), ((↑rr % 256) : Int), ((↑cw / 256) : Int), ((↑cw % 256) : Int), (ro / 256), (ro % 256), (co / 256), (co % 256), 0, ((↑(List.length L) / 256) : Int), ((↑(List.length L) % 256) : Int)])⟩))],
      Contract Try.prog 43 [(.c (.int .i64 (↑(List.length L))))] [] 755 (.c (.sl 755 0 0 2 1)) [] [(755, (.one ⟨true, true, (.ints .u8 [((↑(List.length L) / 256) : Int), ((↑(List.length L) % 256) : Int)])⟩))],
      Contract Try.prog 43 [(.c (.int .i64 co))] [] 659 (.c (.sl 659 0 0 2 1)) [] [(659, (.one ⟨true, true, (.ints .u8 [(co / 256), (co % 256)])⟩))],
      Contract Try.prog 43 [(.c (.int .i64 ro))] [] 611 (.c (.sl 611 0 0 2 1)) [] [(611, (.one ⟨true, true, (.ints .u8 [(ro / 256), (ro % 256)])⟩))],
      Contract Try.prog 43 [(.c (.int .i64 (↑cw)))] [] 563 (.c (.sl 563 0 0 2 1)) [] [(563, (.one ⟨true, true, (.ints .u8 [((↑cw / 256) : Int), ((↑cw % 256) : Int)])⟩))],
      Contract Try.prog 43 [(.c (.int .i64 (↑rr)))] [] 515 (.c (.sl 515 0 0 2 1)) [] [(515, (.one ⟨true, true, (.ints .u8 [((↑rr / 256) : Int), ((↑rr % 256) : Int)])⟩))],
      Contract Try.prog 41 [(.c (.sl 387 0 0 4 1))] [(387, (.one ⟨true, true, (.cells [(.int .i64 (↑rr)), (.int .i64 (↑cw)), (.int .i64 ro), (.int .i64 co)])⟩))] 403 (.c (.bool (true))) [] [],
      EB (decide ((↑(11 + 6 * List.length L + 6 * W.sN L (List.length L)) : Int) > 1048576)) false,
      EB (decide ((↑(List.length L) : Int) > 4000)) false,
      CodeOk Try.prog 161 131 (kAt (kOf Try.prog Try.f24) [true, true, false, true, false]) (LEa0 rr cw ro co false L Y) (.exit 0) (LEaI rr cw ro co false L Y (11 + 6 * List.length L + 6 * W.sN L (List.length L)) (List.length L))])
    mixed Try.func24 (by kernel_rfl) (by kernel_rfl) (by kernel_rfl) ⟨rfl, (.inr (RoF.of (fun _ => rfl))), trivial⟩ (by kernel_rfl) ⟨(CodeOk.mono (enc_runs rr cw ro co L Y ([(↑rr : Int) / 256, (↑rr : Int) % 256, (↑cw : Int) / 256, (↑cw : Int) % 256, ro / 256, ro % 256, co / 256, co % 256, 0, (↑(List.length L) : Int) / 256, (↑(List.length L) : Int) % 256]) 11 (by omega) (by omega) (by omega) (by omega) (by omega) (by omega) (by omega) (by omega) (by omega) (by simp only [and_true, List.length_set, List.length_append, List.length_replicate, List.length_take, List.length_drop, List.length_map, List.length_cons, List.length_nil, List.length_zipWith, splice_len1, W.le_len, W.bts_len, Int.toNat_natCast, addO_eq, mulE_eq, mulE_one])) (by decide)), Contract0.in1 (join6 ((↑rr : Int) / 256) ((↑rr : Int) % 256) ((↑cw : Int) / 256) ((↑cw : Int) % 256) (ro / 256) (ro % 256) (co / 256) (co % 256) 0 ((↑(List.length L) : Int) / 256) ((↑(List.length L) : Int) % 256)) [.b 771 1 true [], .b 515 2 true [], .b 563 3 true [], .b 611 4 true [], .b 659 5 true [], .b 691 6 true [], .b 755 7 true []] [none] [(8, 787)] [] (by kernel_rfl), Contract0.in1 (two_ok ((↑(List.length L) : Int)) (by omega)) [] [none] [(1, 755)] [] (by kernel_rfl), Contract0.in1 (two_ok co (by omega)) [] [none] [(1, 659)] [] (by kernel_rfl), Contract0.in1 (two_ok ro (by omega)) [] [none] [(1, 611)] [] (by kernel_rfl), Contract0.in1 (two_ok ((↑cw : Int)) (by omega)) [] [none] [(1, 563)] [] (by kernel_rfl), Contract0.in1 (two_ok ((↑rr : Int)) (by omega)) [] [none] [(1, 515)] [] (by kernel_rfl), Contract0.in1 (short4 ((↑rr : Int)) ((↑cw : Int)) ro co (by omega) (by omega) (by omega) (by omega)) [.b 387 1 true []] [none] [] [] (by kernel_rfl), .mk (decide_eq_false (by omega)), .mk (decide_eq_false (by omega)), (enc_size rr cw ro co false L Y (by omega) (by omega) (by omega) (by omega) (by omega) (by omega) (by omega) (by omega)), trivial⟩) [.b 1 1 true, .b 2 2 true] [] [(907, 3)] [] (by kernel_rfl) (by kernel_rfl) (by kernel_rfl) (by kernel_rfl) (by kernel_rfl)
end Go.Proofs.Ytohleiikedpmkaa.Vm

namespace Go.Proofs.Ytohleiikedpmkaa.W
def encP (rr cw : Nat) (ro co : Int) (hi : Bool) (L : Rn) (Y : Nat → Nat → Int) : List Int :=
  [(rr : Int) / 256, (rr : Int) % 256, (cw : Int) / 256, (cw : Int) % 256, ro / 256, ro % 256, co / 256, co % 256, (bif hi then 1 else 0), (L.length : Int) / 256, (L.length : Int) % 256] ++ encR Y L L.length
theorem encP_len (rr cw : Nat) (ro co : Int) (hi : Bool) (L : Rn) (Y : Nat → Nat → Int) : (encP rr cw ro co hi L Y).length = 11 + (6 * L.length + 6 * sN L L.length) := by
  unfold encP
  rw [List.length_append, encR_len]
  rfl
end Go.Proofs.Ytohleiikedpmkaa.W
namespace Go.Proofs.Ytohleiikedpmkaa.Vm
open Go Go.Proofs Go.Proofs.Ytohleiikedpmkaa
theorem enc_ok (rr cw : Nat) (ro co : Int) (hi : Bool) (L : W.Rn) (Y : Nat → Nat → Int)
    (hrr : 1 ≤ rr ∧ rr ≤ 60) (hcw : 1 ≤ cw ∧ cw ≤ 120) (hro : 0 ≤ ro ∧ ro < rr) (hco : 0 ≤ co ∧ co < cw) (hT : 11 + 6 * L.length + 6 * W.sN L L.length ≤ 1048576) (hL : L.length ≤ 4000)
    (hok : ∀ q, q < L.length → W.ra L q < rr ∧ W.rb L q + W.rn L q ≤ cw) (hY : ∀ j, j < rr → W.okRow (Y j) cw) :
    Contract0 Try.prog 24 [(.agg [(.int .i64 (↑rr)), (.int .i64 (↑cw)), (.int .i64 ro), (.int .i64 co), (.bool hi), (.sl 1 0 0 (List.length L) 3)])] [(1, (.one ⟨false, false, (.row (List.length L * 3) 3 (fun j_ => [(.int .i64 (↑(W.ra L j_))), (.int .i64 (↑(W.rb L j_))), (.sl 2 j_ 0 (W.rn L j_) 4)]))⟩)), (2, (.many (fun j_ => some ⟨false, false, (.ig (W.rn L j_ * 4) W.ck (fun p_ => (Y (W.ra L j_) (p_ + W.rb L j_ * 4))))⟩)))] 3 (.tup [(.c (.sl 3 0 0 (11 + (6 * List.length L + 6 * W.sN L (List.length L))) 1)), (.c (.int .i64 0))]) [] [(3, (.one ⟨true, false, (.ints .u8 (W.encP rr cw ro co hi L Y))⟩))] := by
  cases hi
  · exact enc_f rr cw ro co L Y hrr hcw hro hco hT hL hok hY
  · exact enc_t rr cw ro co L Y hrr hcw hro hco hT hL hok hY
end Go.Proofs.Ytohleiikedpmkaa.Vm

namespace Go.Proofs.Ytohleiikedpmkaa.Vm
open Go Go.Proofs Go.Proofs.Ytohleiikedpmkaa
set_option maxRecDepth 100000
def LVbI (l : List Int) (c0 c1 c2 c3 : Int) (hb : Bool) (hv cn : Int) (M : W.Rn) (Y : Nat → Nat → Int) (q m z : Nat) (x y : Int) (n : Nat) (f : Nat → Int) : S0 :=
  ⟨[(2, (.c (.ptr 2 0 0))), (3, (.c (.int .i64 0))), (4, (.c (.ptr 66 0 0))), (5, (.c (.ptr 242 0 0))), (6, (.c (.int .i64 hv))), (7, (.c (.int .i64 cn))), (8, (.c (.int .i64 (M.length : Int)))), (9, (.c (.ptr 90690 0 0))), (10, (.c (.int .i64 (z : Int))))], [(1, (.one ⟨true, false, (.ints .u8 l)⟩)), (2, (.one ⟨true, true, (.cells [(.int .i64 0), (.int .i64 0), (.int .i64 0), (.int .i64 0), (.bool (false)), .nils])⟩)), (66, (.one ⟨true, true, .cells [.sl 1 0 q m 1, .bool false]⟩)), (242, (.one ⟨true, true, .cells [.int .i64 c0, .int .i64 c1, .int .i64 c2, .int .i64 c3, .bool hb, .sl 458 0 0 M.length 3]⟩)), (458, (.one ⟨true, false, .row (M.length * 3) 3 (fun k_ => [.int .i64 (W.ra M k_ : Int), .int .i64 (W.rb M k_ : Int), .sl 459 k_ 0 (W.rn M k_) 4])⟩)), (459, (.many (fun j_ => some ⟨true, false, .ig (W.rn M j_ * 4) W.ck (fun p_ => Y (W.ra M j_) (p_ + W.rb M j_ * 4))⟩))), (90690, (.one ⟨true, true, .cells [.int .i64 x, .int .i64 y, .sl 100008 0 0 n 4]⟩)), (100008, (.one ⟨true, false, .ig (n * 4) W.ck f⟩))], 100016⟩
theorem LVb_by {α : Type} (I : α → S0) (Inv : α → Prop) (μ : α → Nat) {ex : Ex} {s' : S0} (hex : ex ≠ .normal)
    (step : ∀ x, Inv x → (∃ y, Inv y ∧ μ y < μ x ∧ CodeOk Try.prog 104 100000 (kAt (kOf Try.prog Try.f27) [true, true, true, true, true, true, false, true, false, false, true, false, false, true, false, true, false, false]) (I x) .normal (I y)) ∨ CodeOk Try.prog 104 100000 (kAt (kOf Try.prog Try.f27) [true, true, true, true, true, true, false, true, false, false, true, false, false, true, false, true, false, false]) (I x) ex s') (x : α) (hx : Inv x) :
    CodeOk Try.prog 104 100000 (kAt (kOf Try.prog Try.f27) [true, true, true, true, true, true, false, true, false, false, true, false, false, true, false, true, false]) (I x) ex s' := by
  have hk : (kAt (kOf Try.prog Try.f27) [true, true, true, true, true, true, false, true, false, false, true, false, false, true, false, true, false]) = .loop (kAt (kOf Try.prog Try.f27) [true, true, true, true, true, true, false, true, false, false, true, false, false, true, false, true, false, false]) := by kernel_rfl
  rw [hk]
  exact CodeOk.loop I Inv μ hex step x hx
theorem LVb_rt (l : List Int) (c0 c1 c2 c3 : Int) (hb : Bool) (hv cn : Int) (M : W.Rn) (Y : Nat → Nat → Int) (q m z : Nat) (x y : Int) (n : Nat) (f : Nat → Int)
    (hn : 11 ≤ l.length ∧ l.length ≤ 1048576)
    (hby : W.bytes l)
    (hq : q + m ≤ l.length)
    (hz : 6 * z ≤ m)
    (hv3 : 0 ≤ W.be3 l q ∧ W.be3 l q < 16777216)
    (hnn : n ≤ 200000)
    (h0 : ((↑z : Int) > (0 : Int))) :
    CodeOk Try.prog 104 100000 (kAt (kOf Try.prog Try.f27) [true, true, true, true, true, true, false, true, false, false, true, false, false, true, false, true, false, false]) (LVbI l c0 c1 c2 c3 hb hv cn M Y q m z x y n f) .normal ⟨[(2, (.c (.ptr 2 0 0))), (3, (.c (.int .i64 0))), (4, (.c (.ptr 66 0 0))), (5, (.c (.ptr 242 0 0))), (6, (.c (.int .i64 hv))), (7, (.c (.int .i64 cn))), (8, (.c (.int .i64 (↑(List.length M))))), (9, (.c (.ptr 90690 0 0))), (10, (.c (.int .i64 (↑(z - 1)))))], [(1, (.one ⟨true, false, (.ints .u8 l)⟩)), (2, (.one ⟨true, true, (.cells [(.int .i64 0), (.int .i64 0), (.int .i64 0), (.int .i64 0), (.bool (false)), .nils])⟩)), (66, (.one ⟨true, true, (.cells [(.sl 1 0 (q + 3 + 1 + 1 + 1) (m - 3 - 1 - 1 - 1) 1), (.bool (false))])⟩)), (242, (.one ⟨true, true, (.cells [(.int .i64 c0), (.int .i64 c1), (.int .i64 c2), (.int .i64 c3), (.bool hb), (.sl 458 0 0 (List.length M) 3)])⟩)), (458, (.one ⟨true, false, (.row (List.length M * 3) 3 (fun j_ => [(.int .i64 (↑(W.ra M j_))), (.int .i64 (↑(W.rb M j_))), (.sl 459 j_ 0 (W.rn M j_) 4)]))⟩)), (459, (.many (fun j_ => some ⟨true, false, (.ig (W.rn M j_ * 4) W.ck (fun p_ => (Y (W.ra M j_) (p_ + W.rb M j_ * 4))))⟩))), (90690, (.one ⟨true, true, (.cells [(.int .i64 x), (.int .i64 y), (.sl 100000 0 0 (n + 1) 4)])⟩)), (100000, (.one ⟨true, false, (.ig (mulE n 4 + 4) (fun p_ => (bif Nat.blt p_ (n * 4) then W.ck (p_ + 0) else igK [(IntKind.i32, IntKind.wrap IntKind.i32 (W.be3 l q)), (IntKind.i64, List.getD l (q + 3) 0), (IntKind.i64, List.getD l (q + 3 + 1) 0), (IntKind.i64, List.getD l (q + 3 + 1 + 1) 0)] (p_ - n * 4))) (fun p_ => (bif Nat.blt p_ (n * 4) then f (p_ + 0) else igG [(IntKind.i32, IntKind.wrap IntKind.i32 (W.be3 l q)), (IntKind.i64, List.getD l (q + 3) 0), (IntKind.i64, List.getD l (q + 3 + 1) 0), (IntKind.i64, List.getD l (q + 3 + 1 + 1) 0)] (p_ - n * 4))))⟩))], 100016⟩ :=
  CodeOk.of_runs (fuel := 300) (v := ⟨[2, 3, 4, 5, 6, 7, 8, 9, 10], [1, 2, 66, 242, 458, 459, 90690, 100008, 100368], [(100008, 100008), (100368, 100000)], 100016⟩) (hs := [(2, ⟨.auto, some (.c (.bool (true)))⟩), (13, ⟨.call [66, 1] (.c (.int .i64 (W.be3 l q))) [] [(66, (.one ⟨true, true, (.cells [(.sl 1 0 (q + 3) (m - 3) 1), (.bool (false))])⟩)), (1, (.one ⟨true, false, (.ints .u8 l)⟩))], none⟩), (16, ⟨.call [66, 1] (.c (.int .i64 (List.getD l (q + 3) 0))) [] [(66, (.one ⟨true, true, (.cells [(.sl 1 0 (q + 3 + 1) (m - 3 - 1) 1), (.bool (false))])⟩)), (1, (.one ⟨true, false, (.ints .u8 l)⟩))], none⟩), (18, ⟨.call [66, 1] (.c (.int .i64 (List.getD l (q + 3 + 1) 0))) [] [(66, (.one ⟨true, true, (.cells [(.sl 1 0 (q + 3 + 1 + 1) (m - 3 - 1 - 1) 1), (.bool (false))])⟩)), (1, (.one ⟨true, false, (.ints .u8 l)⟩))], none⟩), (20, ⟨.call [66, 1] (.c (.int .i64 (List.getD l (q + 3 + 1 + 1) 0))) [] [(66, (.one ⟨true, true, (.cells [(.sl 1 0 (q + 3 + 1 + 1 + 1) (m - 3 - 1 - 1 - 1) 1), (.bool (false))])⟩)), (1, (.one ⟨true, false, (.ints .u8 l)⟩))], none⟩), (23, ⟨.ask, some (.c (.sl 100368 0 0 (n + 1) 4))⟩), (27, ⟨.auto, some (.c (.int .i64 (↑(z - 1))))⟩)])
    (cs := [EI .i64 (IntKind.wrap IntKind.i64 ((↑z : Int) - 1)) ((↑(z - 1) : Int)),
      ((.c (.sl 100368 0 0 (addO n 1) 4)) : V) = (.c (.sl 100368 0 0 (n + 1) 4)),
      ((4 : Nat) ≤ (4 : Nat) ∧ (33 : Nat) * (n + (1 : Nat)) ≤ (4398046511104 : Nat) ∧ (0 : Nat) + n * (4 : Nat) ≤ n * (4 : Nat)),
      Contract Try.prog 46 [(.c (.ptr 66 0 0)), (.c (.int .i64 1))] [(66, (.one ⟨true, true, (.cells [(.sl 1 0 (q + 3 + 1 + 1) (m - 3 - 1 - 1) 1), (.bool (false))])⟩)), (1, (.one ⟨true, false, (.ints .u8 l)⟩))] 100320 (.c (.int .i64 (List.getD l (q + 3 + 1 + 1) 0))) [] [(66, (.one ⟨true, true, (.cells [(.sl 1 0 (q + 3 + 1 + 1 + 1) (m - 3 - 1 - 1 - 1) 1), (.bool (false))])⟩)), (1, (.one ⟨true, false, (.ints .u8 l)⟩))],
      Contract Try.prog 46 [(.c (.ptr 66 0 0)), (.c (.int .i64 1))] [(66, (.one ⟨true, true, (.cells [(.sl 1 0 (q + 3 + 1) (m - 3 - 1) 1), (.bool (false))])⟩)), (1, (.one ⟨true, false, (.ints .u8 l)⟩))] 100288 (.c (.int .i64 (List.getD l (q + 3 + 1) 0))) [] [(66, (.one ⟨true, true, (.cells [(.sl 1 0 (q + 3 + 1 + 1) (m - 3 - 1 - 1) 1), (.bool (false))])⟩)), (1, (.one ⟨true, false, (.ints .u8 l)⟩))],
      Contract Try.prog 46 [(.c (.ptr 66 0 0)), (.c (.int .i64 1))] [(66, (.one ⟨true, true, (.cells [(.sl 1 0 (q + 3) (m - 3) 1), (.bool (false))])⟩)), (1, (.one ⟨true, false, (.ints .u8 l)⟩))] 100256 (.c (.int .i64 (List.getD l (q + 3) 0))) [] [(66, (.one ⟨true, true, (.cells [(.sl 1 0 (q + 3 + 1) (m - 3 - 1) 1), (.bool (false))])⟩)), (1, (.one ⟨true, false, (.ints .u8 l)⟩))],
      Contract Try.prog 46 [(.c (.ptr 66 0 0)), (.c (.int .i64 3))] [(66, (.one ⟨true, true, (.cells [(.sl 1 0 q m 1), (.bool (false))])⟩)), (1, (.one ⟨true, false, (.ints .u8 l)⟩))] 100208 (.c (.int .i64 (W.be3 l q))) [] [(66, (.one ⟨true, true, (.cells [(.sl 1 0 (q + 3) (m - 3) 1), (.bool (false))])⟩)), (1, (.one ⟨true, false, (.ints .u8 l)⟩))],
      EB (decide ((↑z : Int) > 0)) true])
    mixed (by kernel_rfl) ⟨.mk (by simp only [addO_eq, mulE_eq, mulE_one, Int.toNat_natCast, IntKind.wrap_i64, mmin, mmax]; omega), EV.sl (by rfl) (by simp only [addO_eq, mulE_eq, mulE_one, Int.toNat_natCast, IntKind.wrap_i64, mmin, mmax]), (by omega), Contract0.in1 (take1_ok l (q + 3 + 1 + 1) (m - 3 - 1 - 1) (by omega) (by omega) (by omega) (by omega)) [.b 66 1 false [], .b 1 2 false []] [none, none] [] [] (by kernel_rfl), Contract0.in1 (take1_ok l (q + 3 + 1) (m - 3 - 1) (by omega) (by omega) (by omega) (by omega)) [.b 66 1 false [], .b 1 2 false []] [none, none] [] [] (by kernel_rfl), Contract0.in1 (take1_ok l (q + 3) (m - 3) (by omega) (by omega) (by omega) (by omega)) [.b 66 1 false [], .b 1 2 false []] [none, none] [] [] (by kernel_rfl), Contract0.in1 (take3_ok l q m (by omega) (by omega) (by omega) (by omega)) [.b 66 1 false [], .b 1 2 false []] [none, none] [] [] (by kernel_rfl), .mk (decide_eq_true h0), trivial⟩
theorem LVb_xf (l : List Int) (c0 c1 c2 c3 : Int) (hb : Bool) (hv cn : Int) (M : W.Rn) (Y : Nat → Nat → Int) (q m z : Nat) (x y : Int) (n : Nat) (f : Nat → Int)
    (hn : 11 ≤ l.length ∧ l.length ≤ 1048576)
    (hby : W.bytes l)
    (hq : q + m ≤ l.length)
    (hz : 6 * z ≤ m)
    (hv3 : 0 ≤ W.be3 l q ∧ W.be3 l q < 16777216)
    (hnn : n ≤ 200000)
    (h0 : (¬(↑z : Int) > (0 : Int))) :
    CodeOk Try.prog 104 100000 (kAt (kOf Try.prog Try.f27) [true, true, true, true, true, true, false, true, false, false, true, false, false, true, false, true, false, false]) (LVbI l c0 c1 c2 c3 hb hv cn M Y q m z x y n f) (.exit 2) (LVbI l c0 c1 c2 c3 hb hv cn M Y q m z x y n f) :=
  CodeOk.of_runs (fuel := 300) (v := ⟨[2, 3, 4, 5, 6, 7, 8, 9, 10], [1, 2, 66, 242, 458, 459, 90690, 100008], [(100008, 100008)], 100016⟩) (hs := [(2, ⟨.auto, some (.c (.bool (false)))⟩)])
    (cs := [EB (decide ((↑z : Int) > 0)) false])
    mixed (by kernel_rfl) ⟨.mk (decide_eq_false h0), trivial⟩
end Go.Proofs.Ytohleiikedpmkaa.Vm

namespace Go.Proofs.Ytohleiikedpmkaa.Vm
open Go Go.Proofs Go.Proofs.Ytohleiikedpmkaa
theorem wrap_i32s {n : Int} (h : 0 ≤ n) (h' : n < 2147483648) : IntKind.i32.wrap n = n := by
  rw [IntKind.wrap]
  simp [IntKind.bits, IntKind.signed]
  omega
theorem be3_lt {l : List Int} (h : W.bytes l) (q : Nat) : 0 ≤ W.be3 l q ∧ W.be3 l q < 16777216 := by
  have h1 := byteD h q
  have h2 := byteD h (q + 1)
  have h3 := byteD h (q + 2)
  unfold W.be3
  omega
def LVbS (l : List Int) (c0 c1 c2 c3 : Int) (hb : Bool) (hv cn : Int) (M : W.Rn) (Y : Nat → Nat → Int) (q m : Nat) (zi x y : Int) : S0 :=
  ⟨[(2, (.c (.ptr 2 0 0))), (3, (.c (.int .i64 0))), (4, (.c (.ptr 66 0 0))), (5, (.c (.ptr 242 0 0))), (6, (.c (.int .i64 hv))), (7, (.c (.int .i64 cn))), (8, (.c (.int .i64 (M.length : Int)))), (9, (.c (.ptr 90690 0 0))), (10, (.c (.int .i64 zi)))], [(1, (.one ⟨true, false, (.ints .u8 l)⟩)), (2, (.one ⟨true, true, (.cells [(.int .i64 0), (.int .i64 0), (.int .i64 0), (.int .i64 0), (.bool (false)), .nils])⟩)), (66, (.one ⟨true, true, .cells [.sl 1 0 q m 1, .bool false]⟩)), (242, (.one ⟨true, true, .cells [.int .i64 c0, .int .i64 c1, .int .i64 c2, .int .i64 c3, .bool hb, .sl 458 0 0 M.length 3]⟩)), (458, (.one ⟨true, false, .row (M.length * 3) 3 (fun k_ => [.int .i64 (W.ra M k_ : Int), .int .i64 (W.rb M k_ : Int), .sl 459 k_ 0 (W.rn M k_) 4])⟩)), (459, (.many (fun j_ => some ⟨true, false, .ig (W.rn M j_ * 4) W.ck (fun p_ => Y (W.ra M j_) (p_ + W.rb M j_ * 4))⟩))), (90690, (.one ⟨true, true, .cells [.int .i64 x, .int .i64 y, .nils]⟩))], 100000⟩
theorem grow_ck {a b c d : Int} {n p : Nat} (hp : p < n * 4 + 4) : W.ck p = (bif Nat.blt p (n * 4) then W.ck (p + 0) else igK [(IntKind.i32, a), (IntKind.i64, b), (IntKind.i64, c), (IntKind.i64, d)] (p - n * 4)) := by
  by_cases h : p < n * 4
  · rw [bltT h]; rfl
  · rw [bltF h]
    show _ = igK _ _
    rw [four_ck _ (by omega)]
    unfold W.ck
    have : (p - n * 4) % 4 = p % 4 := by omega
    rw [this]
theorem grow_cl {f g : Nat → Int} {a b c d : Int} {n p : Nat} (hp : p < n * 4 + 4) (h : ∀ p, p < n * 4 → g p = f p) (h0 : g (n * 4) = a) (h1 : g (n * 4 + 1) = b) (h2 : g (n * 4 + 2) = c) (h3 : g (n * 4 + 3) = d) :
    g p = (bif Nat.blt p (n * 4) then f (p + 0) else igG [(IntKind.i32, a), (IntKind.i64, b), (IntKind.i64, c), (IntKind.i64, d)] (p - n * 4)) := by
  by_cases hlt : p < n * 4
  · rw [bltT hlt]; exact h p hlt
  · rw [bltF hlt]
    show _ = igG _ _
    rcases (by omega : p = n * 4 ∨ p = n * 4 + 1 ∨ p = n * 4 + 2 ∨ p = n * 4 + 3) with e | e | e | e <;> rw [e]
    · rw [Nat.sub_self]; exact h0
    · rw [Nat.add_sub_cancel_left]; exact h1
    · rw [Nat.add_sub_cancel_left]; exact h2
    · rw [Nat.add_sub_cancel_left]; exact h3
theorem dec_cells (l : List Int) (c0 c1 c2 c3 : Int) (hb : Bool) (hv cn : Int) (M : W.Rn) (Y : Nat → Nat → Int) (q m z : Nat) (x y : Int) (a b : Nat)
    (hn : 11 ≤ l.length ∧ l.length ≤ 1048576) (hby : W.bytes l) (hq : q + m ≤ l.length) (hz : 6 * z ≤ m)
    (hY : ∀ k, k < z → W.be3 l (q + 6 * k) = Y a (k * 4 + b * 4) ∧ List.getD l (q + 6 * k + 3) 0 = Y a (k * 4 + 1 + b * 4) ∧ List.getD l (q + 6 * k + 3 + 1) 0 = Y a (k * 4 + 2 + b * 4) ∧ List.getD l (q + 6 * k + 3 + 1 + 1) 0 = Y a (k * 4 + 3 + b * 4)) :
    CodeOk Try.prog 104 100000 (kAt (kOf Try.prog Try.f27) [true, true, true, true, true, true, false, true, false, false, true, false, false, true, false, true, false]) (LVbS l c0 c1 c2 c3 hb hv cn M Y q m (z : Int) x y) (.exit 2) (LVbI l c0 c1 c2 c3 hb hv cn M Y (q + 6 * z) (m - 6 * z) 0 x y z (fun p => Y a (p + b * 4))) := by
  have h : CodeOk Try.prog 104 100000 (kAt (kOf Try.prog Try.f27) [true, true, true, true, true, true, false, true, false, false, true, false, false, true, false, true, false]) (LVbI l c0 c1 c2 c3 hb hv cn M Y (q + 6 * 0) (m - 6 * 0) (z - 0) x y 0 (fun p => Y a (p + b * 4))) (.exit 2) (LVbI l c0 c1 c2 c3 hb hv cn M Y (q + 6 * z) (m - 6 * z) 0 x y z (fun p => Y a (p + b * 4))) := by
    refine LVb_by (fun k => LVbI l c0 c1 c2 c3 hb hv cn M Y (q + 6 * k) (m - 6 * k) (z - k) x y k (fun p => Y a (p + b * 4))) (fun k => k ≤ z) (fun k => z - k) (by simp) ?_ 0 (Nat.zero_le _)
    intro k hk
    have hv3 := be3_lt hby (q + 6 * k)
    by_cases h0 : ((z - k : Nat) : Int) > 0
    · refine .inl ⟨k + 1, by omega, by omega, ?_⟩
      obtain ⟨y0, y1, y2, y3⟩ := hY k (by omega)
      refine (LVb_rt l c0 c1 c2 c3 hb hv cn M Y (q + 6 * k) (m - 6 * k) (z - k) x y k (fun p => Y a (p + b * 4)) hn hby (by omega) (by omega) hv3 (by omega) h0).move (Move.ren (H := 100008) (h' := 100000) (F := 100009) (f' := 100001) (by decide) (show 100000 ≤ 100016 ∧ 100008 < 100016 ∧ 100009 < 100016 by decide) (by decide) (by decide) ?_ ?_)
      · refine ⟨?_, ?_, ?_, ?_, ?_, ?_, ?_, ?_, trivial⟩
        · exact BR.ints (renRho_low (by decide)) rfl (fun h => h) rfl
        · exact BR.cells (renRho_low (by decide)) rfl (fun h => h) ⟨⟨rfl, rfl⟩, ⟨rfl, rfl⟩, ⟨rfl, rfl⟩, ⟨rfl, rfl⟩, rfl, trivial, trivial⟩
        · exact BR.cells (renRho_low (by decide)) rfl (fun h => h) ⟨⟨renRho_low (by decide), by omega, by omega, rfl⟩, rfl, trivial⟩
        · exact BR.cells (renRho_low (by decide)) rfl (fun h => h) ⟨⟨rfl, rfl⟩, ⟨rfl, rfl⟩, ⟨rfl, rfl⟩, ⟨rfl, rfl⟩, rfl, ⟨renRho_low (by decide), rfl, rfl, rfl⟩, trivial⟩
        · exact BR.runs (renRho_low (by decide)) rfl (fun h => h) (fun j => renRho_low (by decide))
        · intro j k hk; injection hk with hk; subst hk
          exact BR.ig (renRho_low (by decide)) rfl (fun h => h) rfl (fun _ _ => rfl) (fun _ _ => rfl)
        · exact BR.cells (renRho_low (by decide)) rfl (fun h => h) ⟨⟨rfl, rfl⟩, ⟨rfl, rfl⟩, ⟨renRho_H (by decide), rfl, rfl, rfl⟩, trivial⟩
        · refine BR.ig (renRho_H (by decide)) rfl (fun h => h) (by simp only [mulE_eq]; omega) (fun p hp => grow_ck (by simp only [mulE_eq] at hp; omega)) (fun p hp => grow_cl (g := fun p => Y a (p + b * 4)) (by simp only [mulE_eq] at hp; omega) (fun _ _ => rfl) ?_ y1.symm y2.symm y3.symm)
          rw [wrap_i32s hv3.1 (by omega)]
          exact y0.symm
      · exact ⟨rfl, ⟨renRho_low (by decide), rfl⟩, rfl, ⟨rfl, rfl⟩, rfl, ⟨renRho_low (by decide), rfl⟩, rfl, ⟨renRho_low (by decide), rfl⟩, rfl, ⟨rfl, rfl⟩, rfl, ⟨rfl, rfl⟩, rfl, ⟨rfl, rfl⟩, rfl, ⟨renRho_low (by decide), rfl⟩, rfl, ⟨rfl, by omega⟩, trivial⟩
    · have e' : k = z := by omega
      subst e'
      rw [Nat.sub_self] at h0 ⊢
      exact .inr (LVb_xf l c0 c1 c2 c3 hb hv cn M Y _ _ 0 x y k _ hn hby (by omega) (by omega) hv3 (by omega) h0)
  refine CodeOk.enter (Move.begin (fun b _ => Nat.beq b 100008) (by decide) (show 100000 ≤ 100016 by decide) ?_ ?_ ?_) h
  · intro b k hb
    have hb : 100016 ≤ b := hb
    rw [beqF (by omega)]
  · refine ⟨?_, ?_, ?_, ?_, ?_, ?_, ?_, ?_, trivial⟩
    · exact BR.ints (newRho_low (by decide)) rfl (fun h => h) rfl
    · exact BR.cells (newRho_low (by decide)) rfl (fun h => h) ⟨⟨rfl, rfl⟩, ⟨rfl, rfl⟩, ⟨rfl, rfl⟩, ⟨rfl, rfl⟩, rfl, trivial, trivial⟩
    · exact BR.cells (newRho_low (by decide)) rfl (fun h => h) ⟨⟨newRho_low (by decide), rfl, rfl, rfl⟩, rfl, trivial⟩
    · exact BR.cells (newRho_low (by decide)) rfl (fun h => h) ⟨⟨rfl, rfl⟩, ⟨rfl, rfl⟩, ⟨rfl, rfl⟩, ⟨rfl, rfl⟩, rfl, ⟨newRho_low (by decide), rfl, rfl, rfl⟩, trivial⟩
    · exact BR.runs (newRho_low (by decide)) rfl (fun h => h) (fun j => newRho_low (by decide))
    · intro j k hk; injection hk with hk; subst hk
      exact BR.ig (newRho_low (by decide)) rfl (fun h => h) rfl (fun _ _ => rfl) (fun _ _ => rfl)
    · exact BR.cells (newRho_low (by decide)) rfl (fun h => h) ⟨⟨rfl, rfl⟩, ⟨rfl, rfl⟩, rfl, trivial⟩
    · exact BR.none (newRho_high (by decide)) rfl rfl rfl
  · exact ⟨rfl, ⟨newRho_low (by decide), rfl⟩, rfl, ⟨rfl, rfl⟩, rfl, ⟨newRho_low (by decide), rfl⟩, rfl, ⟨newRho_low (by decide), rfl⟩, rfl, ⟨rfl, rfl⟩, rfl, ⟨rfl, rfl⟩, rfl, ⟨rfl, rfl⟩, rfl, ⟨newRho_low (by decide), rfl⟩, rfl, ⟨rfl, rfl⟩, trivial⟩
theorem dec_cells2 (a b z : Nat) (l : List Int) (c0 c1 c2 c3 : Int) (hb : Bool) (hv cn : Int) (M : W.Rn) (Y : Nat → Nat → Int) (q m : Nat) (zi x y : Int)
    (hn : 11 ≤ l.length ∧ l.length ≤ 1048576) (hby : W.bytes l) (hq : q + m ≤ l.length) (hz : 6 * z ≤ m)
    (hY : ∀ k, k < z → W.be3 l (q + 6 * k) = Y a (k * 4 + b * 4) ∧ List.getD l (q + 6 * k + 3) 0 = Y a (k * 4 + 1 + b * 4) ∧ List.getD l (q + 6 * k + 3 + 1) 0 = Y a (k * 4 + 2 + b * 4) ∧ List.getD l (q + 6 * k + 3 + 1 + 1) 0 = Y a (k * 4 + 3 + b * 4)) (hzi : zi = (z : Int)) :
    CodeOk Try.prog 104 100000 (kAt (kOf Try.prog Try.f27) [true, true, true, true, true, true, false, true, false, false, true, false, false, true, false, true, false]) (LVbS l c0 c1 c2 c3 hb hv cn M Y q m zi x y) (.exit 2) (LVbI l c0 c1 c2 c3 hb hv cn M Y (q + 6 * z) (m - 6 * z) 0 x y z (fun p => Y a (p + b * 4))) := by
  subst hzi
  exact dec_cells l c0 c1 c2 c3 hb hv cn M Y q m z x y a b hn hby hq hz hY
end Go.Proofs.Ytohleiikedpmkaa.Vm

namespace Go.Proofs.Ytohleiikedpmkaa.Vm
open Go Go.Proofs Go.Proofs.Ytohleiikedpmkaa
set_option maxRecDepth 100000
def LVaI (l : List Int) (c0 c1 c2 c3 : Int) (hb : Bool) (hv cn : Int) (M : W.Rn) (Y : Nat → Nat → Int) (q m a b c : Nat) : S0 :=
  ⟨[(2, (.c (.ptr 2 0 0))), (3, (.c (.int .i64 0))), (4, (.c (.ptr 66 0 0))), (5, (.c (.ptr 242 0 0))), (6, (.c (.int .i64 hv))), (7, (.c (.int .i64 cn))), (8, (.c (.int .i64 (M.length : Int))))], [(1, (.one ⟨true, false, (.ints .u8 l)⟩)), (2, (.one ⟨true, true, (.cells [(.int .i64 0), (.int .i64 0), (.int .i64 0), (.int .i64 0), (.bool (false)), .nils])⟩)), (66, (.one ⟨true, true, .cells [.sl 1 0 q m 1, .bool false]⟩)), (242, (.one ⟨true, true, .cells [.int .i64 c0, .int .i64 c1, .int .i64 c2, .int .i64 c3, .bool hb, .sl 458 0 0 M.length 3]⟩)), (458, (.one ⟨true, false, .row (M.length * 3) 3 (fun k_ => [.int .i64 (W.ra M k_ : Int), .int .i64 (W.rb M k_ : Int), .sl 459 k_ 0 (W.rn M k_) 4])⟩)), (459, (.many (fun j_ => some ⟨true, false, .ig (W.rn M j_ * 4) W.ck (fun p_ => Y (W.ra M j_) (p_ + W.rb M j_ * 4))⟩)))], 466⟩
theorem LVa_by {α : Type} (I : α → S0) (Inv : α → Prop) (μ : α → Nat) {ex : Ex} {s' : S0} (hex : ex ≠ .normal)
    (step : ∀ x, Inv x → (∃ y, Inv y ∧ μ y < μ x ∧ CodeOk Try.prog 104 450 (kAt (kOf Try.prog Try.f27) [true, true, true, true, true, true, false, true, false, false]) (I x) .normal (I y)) ∨ CodeOk Try.prog 104 450 (kAt (kOf Try.prog Try.f27) [true, true, true, true, true, true, false, true, false, false]) (I x) ex s') (x : α) (hx : Inv x) :
    CodeOk Try.prog 104 450 (kAt (kOf Try.prog Try.f27) [true, true, true, true, true, true, false, true, false]) (I x) ex s' := by
  have hk : (kAt (kOf Try.prog Try.f27) [true, true, true, true, true, true, false, true, false]) = .loop (kAt (kOf Try.prog Try.f27) [true, true, true, true, true, true, false, true, false, false]) := by kernel_rfl
  rw [hk]
  exact CodeOk.loop I Inv μ hex step x hx
def LVa0 (l : List Int) : S0 :=
  ⟨[(2, (.c (.ptr 2 0 0))), (3, (.c (.int .i64 0))), (4, (.c (.ptr 66 0 0))), (5, (.c (.ptr 242 0 0))), (6, (.c (.int .i64 (List.getD l 8 0)))), (7, (.c (.int .i64 (W.be2 l 9)))), (8, (.c (.int .i64 0)))], [(1, (.one ⟨true, false, (.ints .u8 l)⟩)), (2, (.one ⟨true, true, (.cells [(.int .i64 0), (.int .i64 0), (.int .i64 0), (.int .i64 0), (.bool (false)), .nils])⟩)), (66, (.one ⟨true, true, (.cells [(.sl 1 0 11 (List.length l - 2 - 2 - 2 - 2 - 1 - 2) 1), (.bool (false))])⟩)), (242, (.one ⟨true, true, (.cells [(.int .i64 (W.be2 l 0)), (.int .i64 (W.be2 l 2)), (.int .i64 (W.be2 l 4)), (.int .i64 (W.be2 l 6)), (.bool (List.getD l 8 0 == 1)), .nils])⟩))], 450⟩
theorem LVa_rt (l : List Int) (c0 c1 c2 c3 : Int) (hb : Bool) (hv cn : Int) (M : W.Rn) (Y : Nat → Nat → Int) (q m a b c : Nat)
    (hn : 11 ≤ l.length ∧ l.length ≤ 1048576)
    (hby : W.bytes l)
    (hq : q + m ≤ l.length)
    (hz : (M.length : Int) < cn → 6 + 6 * c ≤ m)
    (ha : W.be2 l q = (a : Int))
    (hbb : W.be2 l (q + 2) = (b : Int))
    (hc : W.be2 l (q + 2 + 2) = (c : Int))
    (hYc : (M.length : Int) < cn → ∀ k, k < c → W.be3 l (q + 2 + 2 + 2 + 6 * k) = Y a (k * 4 + b * 4) ∧ List.getD l (q + 2 + 2 + 2 + 6 * k + 3) 0 = Y a (k * 4 + 1 + b * 4) ∧ List.getD l (q + 2 + 2 + 2 + 6 * k + 3 + 1) 0 = Y a (k * 4 + 2 + b * 4) ∧ List.getD l (q + 2 + 2 + 2 + 6 * k + 3 + 1 + 1) 0 = Y a (k * 4 + 3 + b * 4))
    (hMl : M.length ≤ 4000)
    (h0 : ((↑(List.length M) : Int) < cn)) :
    CodeOk Try.prog 104 450 (kAt (kOf Try.prog Try.f27) [true, true, true, true, true, true, false, true, false, false]) (LVaI l c0 c1 c2 c3 hb hv cn M Y q m a b c) .normal ⟨[(2, (.c (.ptr 2 0 0))), (3, (.c (.int .i64 0))), (4, (.c (.ptr 66 0 0))), (5, (.c (.ptr 242 0 0))), (6, (.c (.int .i64 hv))), (7, (.c (.int .i64 cn))), (8, (.c (.int .i64 (↑(List.length M + 1)))))], [(1, (.one ⟨true, false, (.ints .u8 l)⟩)), (2, (.one ⟨true, true, (.cells [(.int .i64 0), (.int .i64 0), (.int .i64 0), (.int .i64 0), (.bool (false)), .nils])⟩)), (66, (.one ⟨true, true, (.cells [(.sl 1 0 (q + 2 + 2 + 2 + 6 * c) (m - 2 - 2 - 2 - 6 * c) 1), (.bool (false))])⟩)), (242, (.one ⟨true, true, (.cells [(.int .i64 c0), (.int .i64 c1), (.int .i64 c2), (.int .i64 c3), (.bool hb), (.sl 450 0 0 (List.length M + 1) 3)])⟩)), (459, (.many (fun j_ => some ⟨true, false, (.ig (W.rn M j_ * 4) W.ck (fun p_ => (Y (W.ra M j_) (p_ + W.rb M j_ * 4))))⟩))), (450, (.one ⟨true, false, (.gen (mulE (List.length M) 3 + 3) (fun j_ => (renC [(458, 458), (459, 459), (100080, 450), (100008, 451)] 450 (bif Nat.blt j_ (List.length M * 3) then recGet 3 (fun k_ => [C.int IntKind.i64 (↑(W.ra M k_) : Int), C.int IntKind.i64 (↑(W.rb M k_) : Int), C.sl 459 k_ 0 (W.rn M k_) 4]) (0 + j_) else List.getD (List.take 3 (List.drop 0 [C.int IntKind.i64 (W.be2 l q), C.int IntKind.i64 (W.be2 l (q + 2)), C.sl 100008 0 0 c 4])) (j_ - List.length M * 3) C.unk))))⟩)), (451, (.one ⟨true, false, (.ig (c * 4) W.ck (fun p_ => (Y a (p_ + b * 4))))⟩))], 466⟩ :=
  CodeOk.of_runs (fuel := 300) (v := ⟨[2, 3, 4, 5, 6, 7, 8], [1, 2, 66, 242, 458, 459, 100080, 100008], [(458, 458), (459, 459), (100080, 450), (100008, 451)], 466⟩) (hs := [(3, ⟨.auto, some (.c (.bool (true)))⟩), (12, ⟨.call [66, 1] (.c (.int .i64 (W.be2 l q))) [] [(66, (.one ⟨true, true, (.cells [(.sl 1 0 (q + 2) (m - 2) 1), (.bool (false))])⟩)), (1, (.one ⟨true, false, (.ints .u8 l)⟩))], none⟩), (14, ⟨.call [66, 1] (.c (.int .i64 (W.be2 l (q + 2)))) [] [(66, (.one ⟨true, true, (.cells [(.sl 1 0 (q + 2 + 2) (m - 2 - 2) 1), (.bool (false))])⟩)), (1, (.one ⟨true, false, (.ints .u8 l)⟩))], none⟩), (19, ⟨.call [66, 1] (.c (.int .i64 (W.be2 l (q + 2 + 2)))) [] [(66, (.one ⟨true, true, (.cells [(.sl 1 0 (q + 2 + 2 + 2) (m - 2 - 2 - 2) 1), (.bool (false))])⟩)), (1, (.one ⟨true, false, (.ints .u8 l)⟩))], none⟩), (21, ⟨.sum ⟨[2, 3, 4, 5, 6, 7, 8, 9, 10], [1, 2, 66, 242, 458, 459, 706], [(706, 90690)], 100000⟩ (.exit 2) (LVbI l c0 c1 c2 c3 hb hv cn M Y (q + 2 + 2 + 2 + 6 * c) (m - 2 - 2 - 2 - 6 * c) 0 (W.be2 l q) (W.be2 l (q + 2)) c fun p => Y a (p + b * 4)), none⟩), (26, ⟨.ask, some (.c (.sl 100080 0 0 (List.length M + 1) 3))⟩), (30, ⟨.auto, some (.c (.int .i64 (↑(List.length M + 1))))⟩)])
    (cs := [EI .i64 (IntKind.wrap IntKind.i64 ((↑(List.length M) : Int) + 1)) ((↑(List.length M + 1) : Int)),
      ((.c (.sl 100080 0 0 (addO (List.length M) 1) 3)) : V) = (.c (.sl 100080 0 0 (List.length M + 1) 3)),
      ((3 : Nat) ≤ (3 : Nat) ∧ (41 : Nat) * (List.length M + (1 : Nat)) ≤ (4398046511104 : Nat) ∧ (0 : Nat) + List.length M * (3 : Nat) ≤ List.length M * (3 : Nat)),
      CodeOk Try.prog 104 786 (kAt (kOf Try.prog Try.f27) [true, true, true, true, true, true, false, true, false, false, true, false, false, true, false, true, false]) (LVbS l c0 c1 c2 c3 hb hv cn M Y (q + 2 + 2 + 2) (m - 2 - 2 - 2) (W.be2 l (q + 2 + 2)) (W.be2 l q) (W.be2 l (q + 2))) (.exit 2) (LVbI l c0 c1 c2 c3 hb hv cn M Y (q + 2 + 2 + 2 + 6 * c) (m - 2 - 2 - 2 - 6 * c) 0 (W.be2 l q) (W.be2 l (q + 2)) c fun p => Y a (p + b * 4)),
      Contract Try.prog 46 [(.c (.ptr 66 0 0)), (.c (.int .i64 2))] [(66, (.one ⟨true, true, (.cells [(.sl 1 0 (q + 2 + 2) (m - 2 - 2) 1), (.bool (false))])⟩)), (1, (.one ⟨true, false, (.ints .u8 l)⟩))] 754 (.c (.int .i64 (W.be2 l (q + 2 + 2)))) [] [(66, (.one ⟨true, true, (.cells [(.sl 1 0 (q + 2 + 2 + 2) (m - 2 - 2 - 2) 1), (.bool (false))])⟩)), (1, (.one ⟨true, false, (.ints .u8 l)⟩))],
      Contract Try.prog 46 [(.c (.ptr 66 0 0)), (.c (.int .i64 2))] [(66, (.one ⟨true, true, (.cells [(.sl 1 0 (q + 2) (m - 2) 1), (.bool (false))])⟩)), (1, (.one ⟨true, false, (.ints .u8 l)⟩))] 674 (.c (.int .i64 (W.be2 l (q + 2)))) [] [(66, (.one ⟨true, true, (.cells [(.sl 1 0 (q + 2 + 2) (m - 2 - 2) 1), (.bool (false))])⟩)), (1, (.one ⟨true, false, (.ints .u8 l)⟩))],
      Contract Try.prog 46 [(.c (.ptr 66 0 0)), (.c (.int .i64 2))] [(66, (.one ⟨true, true, (.cells [(.sl 1 0 q m 1), (.bool (false))])⟩)), (1, (.one ⟨true, false, (.ints .u8 l)⟩))] 642 (.c (.int .i64 (W.be2 l q))) [] [(66, (.one ⟨true, true, (.cells [(.sl 1 0 (q + 2) (m - 2) 1), (.bool (false))])⟩)), (1, (.one ⟨true, false, (.ints .u8 l)⟩))],
      EB (decide ((↑(List.length M) : Int) < cn)) true])
    mixed (by kernel_rfl) ⟨.mk (by simp only [addO_eq, mulE_eq, mulE_one, Int.toNat_natCast, IntKind.wrap_i64, mmin, mmax]; omega), EV.sl (by rfl) (by simp only [addO_eq, mulE_eq, mulE_one, Int.toNat_natCast, IntKind.wrap_i64, mmin, mmax]), (by omega), (CodeOk.mono (dec_cells2 a b c l c0 c1 c2 c3 hb hv cn M Y (q + 2 + 2 + 2) (m - 2 - 2 - 2) (W.be2 l (q + 2 + 2)) (W.be2 l q) (W.be2 l (q + 2)) (by omega) (by omega) (by omega) (by omega) (by exact hYc (by assumption)) (by omega)) (by decide)), Contract0.in1 (take2_ok l (q + 2 + 2) (m - 2 - 2) (by omega) (by omega) (by omega) (by omega)) [.b 66 1 false [], .b 1 2 false []] [none, none] [] [] (by kernel_rfl), Contract0.in1 (take2_ok l (q + 2) (m - 2) (by omega) (by omega) (by omega) (by omega)) [.b 66 1 false [], .b 1 2 false []] [none, none] [] [] (by kernel_rfl), Contract0.in1 (take2_ok l q m (by omega) (by omega) (by omega) (by omega)) [.b 66 1 false [], .b 1 2 false []] [none, none] [] [] (by kernel_rfl), .mk (decide_eq_true h0), trivial⟩
theorem LVa_xf (l : List Int) (c0 c1 c2 c3 : Int) (hb : Bool) (hv cn : Int) (M : W.Rn) (Y : Nat → Nat → Int) (q m a b c : Nat)
    (hn : 11 ≤ l.length ∧ l.length ≤ 1048576)
    (hby : W.bytes l)
    (hq : q + m ≤ l.length)
    (hz : (M.length : Int) < cn → 6 + 6 * c ≤ m)
    (ha : W.be2 l q = (a : Int))
    (hbb : W.be2 l (q + 2) = (b : Int))
    (hc : W.be2 l (q + 2 + 2) = (c : Int))
    (hYc : (M.length : Int) < cn → ∀ k, k < c → W.be3 l (q + 2 + 2 + 2 + 6 * k) = Y a (k * 4 + b * 4) ∧ List.getD l (q + 2 + 2 + 2 + 6 * k + 3) 0 = Y a (k * 4 + 1 + b * 4) ∧ List.getD l (q + 2 + 2 + 2 + 6 * k + 3 + 1) 0 = Y a (k * 4 + 2 + b * 4) ∧ List.getD l (q + 2 + 2 + 2 + 6 * k + 3 + 1 + 1) 0 = Y a (k * 4 + 3 + b * 4))
    (hMl : M.length ≤ 4000)
    (h0 : (¬(↑(List.length M) : Int) < cn)) :
    CodeOk Try.prog 104 450 (kAt (kOf Try.prog Try.f27) [true, true, true, true, true, true, false, true, false, false]) (LVaI l c0 c1 c2 c3 hb hv cn M Y q m a b c) (.exit 0) ⟨[(2, (.c (.ptr 2 0 0))), (3, (.c (.int .i64 0))), (4, (.c (.ptr 66 0 0))), (5, (.c (.ptr 242 0 0))), (6, (.c (.int .i64 hv))), (7, (.c (.int .i64 cn))), (8, (.c (.int .i64 (↑(List.length M)))))], [(1, (.one ⟨true, false, (.ints .u8 l)⟩)), (2, (.one ⟨true, true, (.cells [(.int .i64 0), (.int .i64 0), (.int .i64 0), (.int .i64 0), (.bool (false)), .nils])⟩)), (66, (.one ⟨true, true, (.cells [(.sl 1 0 q m 1), (.bool (false))])⟩)), (242, (.one ⟨true, true, (.cells [(.int .i64 c0), (.int .i64 c1), (.int .i64 c2), (.int .i64 c3), (.bool hb), (.sl 458 0 0 (List.length M) 3)])⟩)), (458, (.one ⟨true, false, (.row (List.length M * 3) 3 (fun j_ => [(.int .i64 (↑(W.ra M j_))), (.int .i64 (↑(W.rb M j_))), (.sl 459 j_ 0 (W.rn M j_) 4)]))⟩)), (459, (.many (fun j_ => some ⟨true, false, (.ig (W.rn M j_ * 4) W.ck (fun p_ => (Y (W.ra M j_) (p_ + W.rb M j_ * 4))))⟩)))], 466⟩ :=
  CodeOk.of_runs (fuel := 300) (v := ⟨[2, 3, 4, 5, 6, 7, 8], [1, 2, 66, 242, 458, 459], [(458, 458), (459, 459)], 466⟩) (hs := [(3, ⟨.auto, some (.c (.bool (false)))⟩)])
    (cs := [EB (decide ((↑(List.length M) : Int) < cn)) false])
    mixed (by kernel_rfl) ⟨.mk (decide_eq_false h0), trivial⟩
end Go.Proofs.Ytohleiikedpmkaa.Vm

namespace Go.Proofs.Ytohleiikedpmkaa.W
open Go Go.Proofs.Ytohleiikedpmkaa.Vm
theorem encC_split (Y : Nat → Nat → Int) (a b k : Nat) : ∀ d, ∃ t, encC Y a b (k + d) = encC Y a b k ++ t
  | 0 => ⟨[], (List.append_nil _).symm⟩
  | d + 1 => by
    obtain ⟨t, h⟩ := encC_split Y a b k d
    have e : encC Y a b (k + (d + 1)) = encC Y a b (k + d) ++ _ := rfl
    rw [h, List.append_assoc] at e
    exact ⟨_, e⟩
theorem encR_split (Y : Nat → Nat → Int) (L : Rn) (i : Nat) : ∀ d, ∃ t, encR Y L (i + d) = encR Y L i ++ t
  | 0 => ⟨[], (List.append_nil _).symm⟩
  | d + 1 => by
    obtain ⟨t, h⟩ := encR_split Y L i d
    have e : encR Y L (i + (d + 1)) = encR Y L (i + d) ++ _ := rfl
    rw [h, List.append_assoc] at e
    exact ⟨_, e⟩
theorem getD_at {l A B : List Int} {n : Nat} (h : l = A ++ B) (hn : A.length = n) (j : Nat) : List.getD l (n + j) 0 = List.getD B j 0 := by
  subst h; subst hn
  rw [getD_r _ _ _ _ (by omega), Nat.add_sub_cancel_left]
theorem digits2 {x : Int} (h : 0 ≤ x) (h' : x < 65536) : x / 256 * 256 + x % 256 = x := by omega
theorem digits3 {x : Int} (h : 0 ≤ x) (h' : x < 16777216) : x / 65536 * 65536 + x / 256 % 256 * 256 + x % 256 = x := by omega
section
variable {rr cw : Nat} {ro co : Int} {hi : Bool} {L : Rn} {Y : Nat → Nat → Int}
theorem encP_run (i : Nat) (h : i < L.length) : ∃ A T, encP rr cw ro co hi L Y = A ++ ([(ra L i : Int) / 256, (ra L i : Int) % 256, (rb L i : Int) / 256, (rb L i : Int) % 256, (rn L i : Int) / 256, (rn L i : Int) % 256] ++ (encC Y (ra L i) (rb L i) (rn L i) ++ T)) ∧ A.length = 11 + (6 * i + 6 * sN L i) := by
  obtain ⟨T, hT⟩ := encR_split Y L (i + 1) (L.length - (i + 1))
  rw [show i + 1 + (L.length - (i + 1)) = L.length by omega] at hT
  refine ⟨[(rr : Int) / 256, (rr : Int) % 256, (cw : Int) / 256, (cw : Int) % 256, ro / 256, ro % 256, co / 256, co % 256, (bif hi then 1 else 0), (L.length : Int) / 256, (L.length : Int) % 256] ++ encR Y L i, T, ?_, ?_⟩
  · unfold encP
    rw [hT]
    show _ ++ ((encR Y L i ++ _) ++ T) = _
    simp only [List.append_assoc]
  · rw [List.length_append, encR_len]; rfl
theorem encP_be (i : Nat) (h : i < L.length) (h1 : ra L i < 65536) (h2 : rb L i < 65536) (h3 : rn L i < 65536) :
    be2 (encP rr cw ro co hi L Y) (11 + (6 * i + 6 * sN L i)) = (ra L i : Int) ∧ be2 (encP rr cw ro co hi L Y) (11 + (6 * i + 6 * sN L i) + 2) = (rb L i : Int) ∧ be2 (encP rr cw ro co hi L Y) (11 + (6 * i + 6 * sN L i) + 2 + 2) = (rn L i : Int) := by
  obtain ⟨A, T, hl, hA⟩ := encP_run (rr := rr) (cw := cw) (ro := ro) (co := co) (hi := hi) (Y := Y) i h
  have g := getD_at hl hA
  unfold be2
  refine ⟨?_, ?_, ?_⟩
  · rw [show 11 + (6 * i + 6 * sN L i) = 11 + (6 * i + 6 * sN L i) + 0 from rfl, g 0, Nat.add_zero, g 1]
    exact digits2 (by omega) (by omega)
  · rw [g 2, Nat.add_assoc (11 + _) 2 1, g 3]
    exact digits2 (by omega) (by omega)
  · rw [Nat.add_assoc (11 + _) 2 2, g 4, Nat.add_assoc (11 + _) 4 1, g 5]
    exact digits2 (by omega) (by omega)
theorem encP_cell (i : Nat) (h : i < L.length) (k : Nat) (hk : k < rn L i) (hy : 0 ≤ Y (ra L i) (k * 4 + rb L i * 4) ∧ Y (ra L i) (k * 4 + rb L i * 4) < 16777216) :
    be3 (encP rr cw ro co hi L Y) (11 + (6 * i + 6 * sN L i) + 2 + 2 + 2 + 6 * k) = Y (ra L i) (k * 4 + rb L i * 4) ∧ List.getD (encP rr cw ro co hi L Y) (11 + (6 * i + 6 * sN L i) + 2 + 2 + 2 + 6 * k + 3) 0 = Y (ra L i) (k * 4 + 1 + rb L i * 4) ∧ List.getD (encP rr cw ro co hi L Y) (11 + (6 * i + 6 * sN L i) + 2 + 2 + 2 + 6 * k + 3 + 1) 0 = Y (ra L i) (k * 4 + 2 + rb L i * 4) ∧ List.getD (encP rr cw ro co hi L Y) (11 + (6 * i + 6 * sN L i) + 2 + 2 + 2 + 6 * k + 3 + 1 + 1) 0 = Y (ra L i) (k * 4 + 3 + rb L i * 4) := by
  obtain ⟨A, T, hl, hA⟩ := encP_run (rr := rr) (cw := cw) (ro := ro) (co := co) (hi := hi) (Y := Y) i h
  obtain ⟨t, ht⟩ := encC_split Y (ra L i) (rb L i) (k + 1) (rn L i - (k + 1))
  rw [show k + 1 + (rn L i - (k + 1)) = rn L i by omega] at ht
  have hl2 : encP rr cw ro co hi L Y = (A ++ ([(ra L i : Int) / 256, (ra L i : Int) % 256, (rb L i : Int) / 256, (rb L i : Int) % 256, (rn L i : Int) / 256, (rn L i : Int) % 256] ++ encC Y (ra L i) (rb L i) k)) ++ ([Y (ra L i) (k * 4 + rb L i * 4) / 65536, Y (ra L i) (k * 4 + rb L i * 4) / 256 % 256, Y (ra L i) (k * 4 + rb L i * 4) % 256, Y (ra L i) (k * 4 + 1 + rb L i * 4), Y (ra L i) (k * 4 + 2 + rb L i * 4), Y (ra L i) (k * 4 + 3 + rb L i * 4)] ++ (t ++ T)) := by
    rw [hl, ht]
    show _ ++ (_ ++ (((encC Y (ra L i) (rb L i) k ++ _) ++ t) ++ T)) = _
    simp only [List.append_assoc]
  have hA2 : (A ++ ([(ra L i : Int) / 256, (ra L i : Int) % 256, (rb L i : Int) / 256, (rb L i : Int) % 256, (rn L i : Int) / 256, (rn L i : Int) % 256] ++ encC Y (ra L i) (rb L i) k)).length = 11 + (6 * i + 6 * sN L i) + 2 + 2 + 2 + 6 * k := by
    rw [List.length_append, List.length_append, encC_len, hA]
    show _ + (6 + 6 * k) = _
    omega
  have g := getD_at hl2 hA2
  generalize 11 + (6 * i + 6 * sN L i) + 2 + 2 + 2 + 6 * k = n at g
  refine ⟨?_, ?_, ?_, ?_⟩
  · unfold be3
    rw [show List.getD (encP rr cw ro co hi L Y) n 0 = List.getD (encP rr cw ro co hi L Y) (n + 0) 0 from rfl, g 0, g 1, g 2]
    exact digits3 hy.1 hy.2
  · exact g 3
  · exact g 4
  · exact g 5
theorem encP_head (h1 : rr < 65536) (h2 : cw < 65536) (h3 : 0 ≤ ro ∧ ro < 65536) (h4 : 0 ≤ co ∧ co < 65536) (h5 : L.length < 65536) :
    be2 (encP rr cw ro co hi L Y) 0 = rr ∧ be2 (encP rr cw ro co hi L Y) 2 = cw ∧ be2 (encP rr cw ro co hi L Y) 4 = ro ∧ be2 (encP rr cw ro co hi L Y) 6 = co ∧ List.getD (encP rr cw ro co hi L Y) 8 0 = (bif hi then 1 else 0) ∧ be2 (encP rr cw ro co hi L Y) 9 = L.length :=
  ⟨digits2 (by omega) (by omega), digits2 (by omega) (by omega), digits2 h3.1 h3.2, digits2 h4.1 h4.2, rfl, digits2 (by omega) (by omega)⟩
theorem bytes_app {a b : List Int} (h : bytes a) (h' : bytes b) : bytes (a ++ b) := fun x hx => by
  rcases List.mem_append.1 hx with h1 | h1
  · exact h x h1
  · exact h' x h1
theorem encC_bytes (a b : Nat) : ∀ n, (∀ k, k < n → (0 ≤ Y a (k * 4 + b * 4) ∧ Y a (k * 4 + b * 4) < 16777216) ∧ (0 ≤ Y a (k * 4 + 1 + b * 4) ∧ Y a (k * 4 + 1 + b * 4) < 256) ∧ (0 ≤ Y a (k * 4 + 2 + b * 4) ∧ Y a (k * 4 + 2 + b * 4) < 256) ∧ (0 ≤ Y a (k * 4 + 3 + b * 4) ∧ Y a (k * 4 + 3 + b * 4) < 256)) → bytes (encC Y a b n)
  | 0, _ => fun x hx => by simp [encC] at hx
  | n + 1, h => by
    refine bytes_app (encC_bytes a b n (fun k hk => h k (by omega))) (fun x hx => ?_)
    obtain ⟨y0, y1, y2, y3⟩ := h n (by omega)
    simp only [List.mem_cons, List.not_mem_nil, or_false] at hx
    rcases hx with e | e | e | e | e | e <;> subst e <;> omega
theorem encP_bytes (h1 : rr < 65536) (h2 : cw < 65536) (h3 : 0 ≤ ro ∧ ro < 65536) (h4 : 0 ≤ co ∧ co < 65536) (h5 : L.length < 65536) (hr : ∀ i, i < L.length → ra L i < 65536 ∧ rb L i < 65536 ∧ rn L i < 65536 ∧ bytes (encC Y (ra L i) (rb L i) (rn L i))) : bytes (encP rr cw ro co hi L Y) := by
  refine bytes_app (fun x hx => ?_) ?_
  · simp only [List.mem_cons, List.not_mem_nil, or_false] at hx
    rcases hx with e | e | e | e | e | e | e | e | e | e | e
    all_goals subst e
    all_goals first | omega | (cases hi <;> simp)
  · have key : ∀ i, i ≤ L.length → bytes (encR Y L i) := by
      intro i
      induction i with
      | zero => intro _ x hx; simp [encR] at hx
      | succ i ih =>
        intro hi
        obtain ⟨g1, g2, g3, g4⟩ := hr i (by omega)
        refine bytes_app (ih (by omega)) (bytes_app (fun x hx => ?_) g4)
        simp only [List.mem_cons, List.not_mem_nil, or_false] at hx
        rcases hx with e | e | e | e | e | e <;> subst e <;> omega
    exact key _ (Nat.le_refl _)
end
end Go.Proofs.Ytohleiikedpmkaa.W
