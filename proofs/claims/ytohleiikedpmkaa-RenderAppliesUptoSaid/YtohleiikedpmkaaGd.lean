/- What functions of the program come to: parts of the walk (Gd). -/
import Derived.Test.YtohleiikedpmkaaGc
import Derived.KernelRfl
import Derived.Test.YtohleiikedpmkaaProg
import Derived.Test.YtohleiikedpmkaaVmc
set_option linter.unusedSimpArgs false
set_option linter.unusedVariables false
namespace Go.Proofs.Ytohleiikedpmkaa.Vm
open Go Go.Proofs Go.Proofs.Ytohleiikedpmkaa
set_option maxRecDepth 100000
end Go.Proofs.Ytohleiikedpmkaa.Vm

namespace Go.Proofs.Ytohleiikedpmkaa.Vm
open Go Go.Proofs Go.Proofs.Ytohleiikedpmkaa
end Go.Proofs.Ytohleiikedpmkaa.Vm

namespace Go.Proofs.Ytohleiikedpmkaa.Vm
open Go Go.Proofs Go.Proofs.Ytohleiikedpmkaa
set_option maxRecDepth 100000
end Go.Proofs.Ytohleiikedpmkaa.Vm

namespace Go.Proofs.Ytohleiikedpmkaa.W
open Go Go.Proofs.Ytohleiikedpmkaa.Vm
theorem cR_le (Y X : Nat → Nat → Int) (j : Nat) : ∀ k, cR Y X j k ≤ k
  | 0 => Nat.le_refl _
  | k + 1 => by
    have := cR_le Y X j k
    show (bif eqc Y X j k then cR Y X j k else cR Y X j k + 1) ≤ _
    cases eqc Y X j k <;> simp only [cond_true, cond_false] <;> omega
theorem cA_le (Y X : Nat → Nat → Int) (cw : Nat) : ∀ i, cA Y X cw i ≤ cw * i
  | 0 => Nat.le_refl _
  | i + 1 => by
    have h1 := cA_le Y X cw i
    have h2 := cR_le Y X i cw
    show cA Y X cw i + cR Y X i cw ≤ cw * (i + 1)
    rw [Nat.mul_succ]; omega
theorem sN_ge {X Y : Nat → Nat → Int} {rr cw : Nat} {L : Rn} (h : okRuns X Y rr cw L) : ∀ k, k ≤ L.length → k ≤ sN L k ∧ sN L k ≤ cw * k
  | 0, _ => ⟨Nat.le_refl _, Nat.le_refl _⟩
  | k + 1, hk => by
    obtain ⟨h1, _, h2, _⟩ := h k (by omega)
    have := sN_ge h k (by omega)
    show k + 1 ≤ sN L k + rn L k ∧ sN L k + rn L k ≤ _
    rw [Nat.mul_succ]
    omega
theorem runs_len (X Y : Nat → Nat → Int) (rr cw : Nat) : (runs Y X cw rr).length ≤ cw * rr := by
  have h1 := (sN_ge (runs_ok X Y rr cw) _ (Nat.le_refl _)).1
  have h2 := runs_sum X Y rr cw
  have h3 := cA_le Y X cw rr
  omega
end Go.Proofs.Ytohleiikedpmkaa.W
namespace Go.Proofs.Ytohleiikedpmkaa.Vm
open Go Go.Proofs Go.Proofs.Ytohleiikedpmkaa
end Go.Proofs.Ytohleiikedpmkaa.Vm

namespace Go.Proofs.Ytohleiikedpmkaa.Vm
open Go Go.Proofs Go.Proofs.Ytohleiikedpmkaa
set_option maxRecDepth 100000
end Go.Proofs.Ytohleiikedpmkaa.Vm

namespace Go.Proofs.Ytohleiikedpmkaa.W
end Go.Proofs.Ytohleiikedpmkaa.W
namespace Go.Proofs.Ytohleiikedpmkaa.Vm
open Go Go.Proofs Go.Proofs.Ytohleiikedpmkaa
end Go.Proofs.Ytohleiikedpmkaa.Vm

namespace Go.Proofs.Ytohleiikedpmkaa.Vm
open Go Go.Proofs Go.Proofs.Ytohleiikedpmkaa
set_option maxRecDepth 100000
end Go.Proofs.Ytohleiikedpmkaa.Vm

namespace Go.Proofs.Ytohleiikedpmkaa.W
end Go.Proofs.Ytohleiikedpmkaa.W
namespace Go.Proofs.Ytohleiikedpmkaa.Vm
open Go Go.Proofs Go.Proofs.Ytohleiikedpmkaa
theorem BR.ints {ρ : Rho} {D : Nat → Nat → Bool} {me : Mem} {b i b0 i0 : Nat} {o e e0 : Bool} {kd : IntKind} {l l' : List Int} (hρ : ρ b i = some (b0, i0)) (hl : look me b0 i0 = some ⟨o, e0, .ints kd l⟩) (he : e = true → e0 = true) (h : l' = l) : BR ρ D me b i ⟨o, e, .ints kd l'⟩ := by
  subst h
  exact .inl ⟨b0, i0, _, hρ, hl, rfl, he, rfl, fun j hj => ⟨rfl, rfl⟩⟩
theorem BR.runs {ρ : Rho} {D : Nat → Nat → Bool} {me : Mem} {b b0 i0 F : Nat} {o e e0 : Bool} {L : W.Rn} (hρ : ρ b 0 = some (b0, i0)) (hl : look me b0 i0 = some ⟨o, e0, .row (List.length L * 3) 3 (fun j_ => [C.int .i64 (↑(W.ra L j_) : Int), C.int .i64 (↑(W.rb L j_) : Int), C.sl F j_ 0 (W.rn L j_) 4])⟩) (he : e = true → e0 = true) (hF : ∀ j, ρ F j = some (F, j)) : BR ρ D me b 0 ⟨o, e, .row (List.length L * 3) 3 (fun j_ => [C.int .i64 (↑(W.ra L j_) : Int), C.int .i64 (↑(W.rb L j_) : Int), C.sl F j_ 0 (W.rn L j_) 4])⟩ := by
  refine .inl ⟨b0, i0, _, hρ, hl, rfl, he, rfl, fun j hj => ?_⟩
  show CR _ (recGet 3 (fun j_ => [C.int .i64 (↑(W.ra L j_) : Int), C.int .i64 (↑(W.rb L j_) : Int), C.sl F j_ 0 (W.rn L j_) 4]) j) (recGet 3 (fun j_ => [C.int .i64 (↑(W.ra L j_) : Int), C.int .i64 (↑(W.rb L j_) : Int), C.sl F j_ 0 (W.rn L j_) 4]) j)
  unfold recGet
  rcases (by omega : j % 3 = 0 ∨ j % 3 = 1 ∨ j % 3 = 2) with e | e | e <;> rw [e]
  · exact ⟨rfl, rfl⟩
  · exact ⟨rfl, rfl⟩
  · exact ⟨hF _, rfl, rfl, rfl⟩
end Go.Proofs.Ytohleiikedpmkaa.Vm

namespace Go.Proofs.Ytohleiikedpmkaa.Vm
open Go Go.Proofs Go.Proofs.Ytohleiikedpmkaa
set_option maxRecDepth 100000
end Go.Proofs.Ytohleiikedpmkaa.Vm

namespace Go.Proofs.Ytohleiikedpmkaa.W
end Go.Proofs.Ytohleiikedpmkaa.W
namespace Go.Proofs.Ytohleiikedpmkaa.Vm
open Go Go.Proofs Go.Proofs.Ytohleiikedpmkaa
end Go.Proofs.Ytohleiikedpmkaa.Vm

namespace Go.Proofs.Ytohleiikedpmkaa.Vm
open Go Go.Proofs Go.Proofs.Ytohleiikedpmkaa
set_option maxRecDepth 100000
end Go.Proofs.Ytohleiikedpmkaa.Vm

namespace Go.Proofs.Ytohleiikedpmkaa.W
end Go.Proofs.Ytohleiikedpmkaa.W
namespace Go.Proofs.Ytohleiikedpmkaa.Vm
open Go Go.Proofs Go.Proofs.Ytohleiikedpmkaa
end Go.Proofs.Ytohleiikedpmkaa.Vm

namespace Go.Proofs.Ytohleiikedpmkaa.Vm
open Go Go.Proofs Go.Proofs.Ytohleiikedpmkaa
set_option maxRecDepth 100000
end Go.Proofs.Ytohleiikedpmkaa.Vm

namespace Go.Proofs.Ytohleiikedpmkaa.Vm
open Go Go.Proofs Go.Proofs.Ytohleiikedpmkaa
theorem grow_ck {a b c d : Int} {n p : Nat} (hp : p < n * 4 + 4) : W.ck p = (bif Nat.blt p (n * 4) then W.ck (p + 0) else igK [(IntKind.i32, a), (IntKind.i64, b), (IntKind.i64, c), (IntKind.i64, d)] (p - n * 4)) := by
  by_cases h : p < n * 4
  · rw [bltT h]; rfl
  · rw [bltF h]
    show _ = igK _ _
    rw [four_ck _ (by omega)]
    unfold W.ck
    have : (p - n * 4) % 4 = p % 4 := by omega
    rw [this]
theorem grow_cl {f g : Nat → Int} {a b c d : Int} {n p : Nat} (hp : p < n * 4 + 4) (h : ∀ p, p < n * 4 → g p = f p) (h0 : g (n * 4) = a) (h1 : g (n * 4 + 1) = b) (h2 : g (n * 4 + 2) = c) (h3 : g (n * 4 + 3) = d) :
    g p = (bif Nat.blt p (n * 4) then f (p + 0) else igG [(IntKind.i32, a), (IntKind.i64, b), (IntKind.i64, c), (IntKind.i64, d)] (p - n * 4)) := by
  by_cases hlt : p < n * 4
  · rw [bltT hlt]; exact h p hlt
  · rw [bltF hlt]
    show _ = igG _ _
    rcases (by omega : p = n * 4 ∨ p = n * 4 + 1 ∨ p = n * 4 + 2 ∨ p = n * 4 + 3) with e | e | e | e <;> rw [e]
    · rw [Nat.sub_self]; exact h0
    · rw [Nat.add_sub_cancel_left]; exact h1
    · rw [Nat.add_sub_cancel_left]; exact h2
    · rw [Nat.add_sub_cancel_left]; exact h3
end Go.Proofs.Ytohleiikedpmkaa.Vm

namespace Go.Proofs.Ytohleiikedpmkaa.Vm
open Go Go.Proofs Go.Proofs.Ytohleiikedpmkaa
set_option maxRecDepth 100000
end Go.Proofs.Ytohleiikedpmkaa.Vm

namespace Go.Proofs.Ytohleiikedpmkaa.W
open Go Go.Proofs.Ytohleiikedpmkaa.Vm
section
variable {rr cw : Nat} {ro co : Int} {hi : Bool} {L : Rn} {Y : Nat → Nat → Int}
end
end Go.Proofs.Ytohleiikedpmkaa.W
