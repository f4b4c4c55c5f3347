/- What functions of the program come to: parts of the walk (Gb). -/
import Derived.Test.YtohleiikedpmkaaGa
import Derived.KernelRfl
import Derived.Test.YtohleiikedpmkaaProg
import Derived.Test.YtohleiikedpmkaaVmc
set_option linter.unusedSimpArgs false
set_option linter.unusedVariables false
namespace Go.Proofs.Ytohleiikedpmkaa.Vm
open Go Go.Proofs Go.Proofs.Ytohleiikedpmkaa
set_option maxRecDepth 100000
end Go.Proofs.Ytohleiikedpmkaa.Vm

namespace Go.Proofs.Ytohleiikedpmkaa.W
theorem ra_old {L : Rn} {x : Nat × Nat × Nat} {k : Nat} (h : k < L.length) : ra (L ++ [x]) k = ra L k ∧ rb (L ++ [x]) k = rb L k ∧ rn (L ++ [x]) k = rn L k := by
  unfold ra rb rn
  rw [Vm.getD_l _ _ _ _ h]
  exact ⟨rfl, rfl, rfl⟩
theorem ra_new {L : Rn} {x : Nat × Nat × Nat} : ra (L ++ [x]) L.length = x.1 ∧ rb (L ++ [x]) L.length = x.2.1 ∧ rn (L ++ [x]) L.length = x.2.2 := by
  unfold ra rb rn
  rw [Vm.getD_r _ _ _ _ (Nat.le_refl _), Nat.sub_self]
  exact ⟨rfl, rfl, rfl⟩
theorem rn_out {L : Rn} {k : Nat} (h : L.length ≤ k) : rn L k = 0 := by
  unfold rn
  rw [List.getD_eq_getElem?_getD, List.getElem?_eq_none h]
  rfl
end Go.Proofs.Ytohleiikedpmkaa.W
namespace Go.Proofs.Ytohleiikedpmkaa.Vm
open Go Go.Proofs Go.Proofs.Ytohleiikedpmkaa
theorem run_cell {n0 H h' F N N' a b c j : Nat} {L : W.Rn} {t : Th} (hj : j < (L.length + 1) * 3) (hF : n0 ≤ F) (h1 : F ≠ H) (e1 : ren t n0 F = some F) (e2 : ren t n0 N = some N') :
    CR (growRho n0 H h' F N' L.length) (renC t n0 (bif Nat.blt j (List.length L * 3) then recGet 3 (fun k_ => [C.int IntKind.i64 (↑(W.ra L k_) : Int), C.int IntKind.i64 (↑(W.rb L k_) : Int), C.sl F k_ 0 (W.rn L k_) 4]) (0 + j) else List.getD (List.take 3 (List.drop 0 [C.int IntKind.i64 (↑a : Int), C.int IntKind.i64 (↑b : Int), C.sl N 0 0 c 4])) (j - List.length L * 3) C.unk))
      (recGet 3 (fun k_ => [C.int IntKind.i64 (↑(W.ra (L ++ [(a, b, c)]) k_) : Int), C.int IntKind.i64 (↑(W.rb (L ++ [(a, b, c)]) k_) : Int), C.sl F k_ 0 (W.rn (L ++ [(a, b, c)]) k_) 4]) j) := by
  by_cases h : j < L.length * 3
  · rw [bltT h, Nat.zero_add]
    simp only [cond_true]
    have hk : j / 3 < L.length := by omega
    obtain ⟨o1, o2, o3⟩ := W.ra_old (x := (a, b, c)) hk
    unfold recGet
    simp only [o1, o2, o3]
    rcases (by omega : j % 3 = 0 ∨ j % 3 = 1 ∨ j % 3 = 2) with e | e | e <;> rw [e]
    · exact ⟨rfl, rfl⟩
    · exact ⟨rfl, rfl⟩
    · show CR _ (renC t n0 (C.sl F (j / 3) 0 (W.rn L (j / 3)) 4)) (C.sl F (j / 3) 0 (W.rn L (j / 3)) 4)
      simp only [renC, e1]
      exact ⟨growRho_F hF h1 (by omega), rfl, rfl, rfl⟩
  · rw [bltF h]
    simp only [cond_false]
    have hk : j / 3 = L.length := by omega
    obtain ⟨o1, o2, o3⟩ := W.ra_new (L := L) (x := (a, b, c))
    unfold recGet
    rw [hk]
    simp only [o1, o2, o3]
    rcases (by omega : (j % 3 = 0 ∧ j - L.length * 3 = 0) ∨ (j % 3 = 1 ∧ j - L.length * 3 = 1) ∨ (j % 3 = 2 ∧ j - L.length * 3 = 2)) with ⟨e, e'⟩ | ⟨e, e'⟩ | ⟨e, e'⟩ <;> rw [e, e']
    · exact ⟨rfl, rfl⟩
    · exact ⟨rfl, rfl⟩
    · show CR _ (renC t n0 (C.sl N 0 0 c 4)) (C.sl F L.length 0 c 4)
      simp only [renC, e2]
      exact ⟨growRho_i hF h1, rfl, rfl, rfl⟩
theorem run_row {n0 H h' F N a b c : Nat} {L : W.Rn} {me : Mem} {Y : Nat → Nat → Int} {o e e0 : Bool} (hF : n0 ≤ F) (h1 : F ≠ H) (hl : ∀ j, look me F j = some ⟨o, e, .ig (W.rn L j * 4) W.ck (fun p => Y (W.ra L j) (p + W.rb L j * 4))⟩) (hN : look me N 0 = some ⟨o, e0, .ig (c * 4) W.ck (fun p => Y a (p + b * 4))⟩) (he : e = true → e0 = true) :
    ∀ j k, (fun j_ => some (⟨o, e, .ig (W.rn (L ++ [(a, b, c)]) j_ * 4) W.ck (fun p_ => Y (W.ra (L ++ [(a, b, c)]) j_) (p_ + W.rb (L ++ [(a, b, c)]) j_ * 4))⟩ : Blk)) j = some k → BR (growRho n0 H h' F N L.length) (fun _ _ => false) me F j k := by
  intro j k hk
  injection hk with hk
  subst hk
  by_cases hj : j = L.length
  · subst hj
    obtain ⟨o1, o2, o3⟩ := W.ra_new (L := L) (x := (a, b, c))
    refine BR.ig (growRho_i hF h1) hN he (by rw [o3]) (fun _ _ => rfl) (fun p _ => by rw [o1, o2])
  · by_cases hlt : j < L.length
    · obtain ⟨o1, o2, o3⟩ := W.ra_old (x := (a, b, c)) hlt
      exact BR.ig (growRho_F hF h1 hj) (hl j) (fun h => h) (by rw [o3]) (fun _ _ => rfl) (fun p _ => by rw [o1, o2])
    · have z1 : W.rn L j = 0 := W.rn_out (by omega)
      have z2 : W.rn (L ++ [(a, b, c)]) j = 0 := W.rn_out (by rw [List.length_append]; simp; omega)
      refine BR.ig (growRho_F hF h1 hj) (hl j) (fun h => h) (by rw [z1, z2]) (fun _ _ => rfl) (fun p hp => ?_)
      rw [z1] at hp
      simp at hp
end Go.Proofs.Ytohleiikedpmkaa.Vm

namespace Go.Proofs.Ytohleiikedpmkaa.W
theorem rowRuns_ge {Y Z : Nat → Nat → Int} {j cw n k : Nat} {L : Rn} (h : cw ≤ k) : rowRuns Y Z j cw n k L = L := by
  cases n with
  | zero => rfl
  | succ n => simp only [rowRuns, Vm.bltF (show ¬ k < cw by omega), cond_false]
end Go.Proofs.Ytohleiikedpmkaa.W
namespace Go.Proofs.Ytohleiikedpmkaa.Vm
open Go Go.Proofs Go.Proofs.Ytohleiikedpmkaa
end Go.Proofs.Ytohleiikedpmkaa.Vm

namespace Go.Proofs.Ytohleiikedpmkaa.Vm
open Go Go.Proofs Go.Proofs.Ytohleiikedpmkaa
set_option maxRecDepth 100000
end Go.Proofs.Ytohleiikedpmkaa.Vm

namespace Go.Proofs.Ytohleiikedpmkaa.Vm
open Go Go.Proofs Go.Proofs.Ytohleiikedpmkaa
end Go.Proofs.Ytohleiikedpmkaa.Vm

namespace Go.Proofs.Ytohleiikedpmkaa.Vm
open Go Go.Proofs Go.Proofs.Ytohleiikedpmkaa
set_option maxRecDepth 100000
end Go.Proofs.Ytohleiikedpmkaa.Vm

namespace Go.Proofs.Ytohleiikedpmkaa.Vm
open Go Go.Proofs Go.Proofs.Ytohleiikedpmkaa
set_option maxRecDepth 100000
end Go.Proofs.Ytohleiikedpmkaa.Vm

namespace Go.Proofs.Ytohleiikedpmkaa.Vm
open Go Go.Proofs Go.Proofs.Ytohleiikedpmkaa
theorem eq4 {X X2 : Nat → Int} {n i : Nat} (hE : ∀ p, p < n * 4 → X p = X2 p) (h : i < n) : (X (i * (4 : Nat)) == X2 (i * (4 : Nat)) && (X (i * (4 : Nat) + (1 : Nat)) == X2 (i * (4 : Nat) + (1 : Nat)) && (X (i * (4 : Nat) + (2 : Nat)) == X2 (i * (4 : Nat) + (2 : Nat)) && (X (i * (4 : Nat) + (3 : Nat)) == X2 (i * (4 : Nat) + (3 : Nat)) && true)))) = true := by
  rw [hE (i * 4) (by omega), hE (i * 4 + 1) (by omega), hE (i * 4 + 2) (by omega), hE (i * 4 + 3) (by omega)]
  simp
end Go.Proofs.Ytohleiikedpmkaa.Vm

namespace Go.Proofs.Ytohleiikedpmkaa.Vm
open Go Go.Proofs Go.Proofs.Ytohleiikedpmkaa
set_option maxRecDepth 100000
end Go.Proofs.Ytohleiikedpmkaa.Vm

namespace Go.Proofs.Ytohleiikedpmkaa.Vm
open Go Go.Proofs Go.Proofs.Ytohleiikedpmkaa
end Go.Proofs.Ytohleiikedpmkaa.Vm

namespace Go.Proofs.Ytohleiikedpmkaa.Vm
open Go Go.Proofs Go.Proofs.Ytohleiikedpmkaa
set_option maxRecDepth 100000
end Go.Proofs.Ytohleiikedpmkaa.Vm

namespace Go.Proofs.Ytohleiikedpmkaa.Vm
open Go Go.Proofs Go.Proofs.Ytohleiikedpmkaa
end Go.Proofs.Ytohleiikedpmkaa.Vm

namespace Go.Proofs.Ytohleiikedpmkaa.Vm
open Go Go.Proofs Go.Proofs.Ytohleiikedpmkaa
set_option maxRecDepth 100000
end Go.Proofs.Ytohleiikedpmkaa.Vm

namespace Go.Proofs.Ytohleiikedpmkaa.Vm
open Go Go.Proofs Go.Proofs.Ytohleiikedpmkaa
end Go.Proofs.Ytohleiikedpmkaa.Vm

namespace Go.Proofs.Ytohleiikedpmkaa.Vm
open Go Go.Proofs Go.Proofs.Ytohleiikedpmkaa
set_option maxRecDepth 100000
end Go.Proofs.Ytohleiikedpmkaa.Vm

namespace Go.Proofs.Ytohleiikedpmkaa.Vm
open Go Go.Proofs Go.Proofs.Ytohleiikedpmkaa
set_option maxRecDepth 100000
end Go.Proofs.Ytohleiikedpmkaa.Vm

namespace Go.Proofs.Ytohleiikedpmkaa.Vm
open Go Go.Proofs Go.Proofs.Ytohleiikedpmkaa
set_option maxRecDepth 100000
end Go.Proofs.Ytohleiikedpmkaa.Vm

namespace Go.Proofs.Ytohleiikedpmkaa.Vm
open Go Go.Proofs Go.Proofs.Ytohleiikedpmkaa
set_option maxRecDepth 100000
end Go.Proofs.Ytohleiikedpmkaa.Vm

namespace Go.Proofs.Ytohleiikedpmkaa.Vm
open Go Go.Proofs Go.Proofs.Ytohleiikedpmkaa
set_option maxRecDepth 100000
end Go.Proofs.Ytohleiikedpmkaa.Vm

namespace Go.Proofs.Ytohleiikedpmkaa.Vm
open Go Go.Proofs Go.Proofs.Ytohleiikedpmkaa
set_option maxRecDepth 100000
theorem kidx_abc :
    Contract0 Try.prog 54 [(.c (.sl 1 0 0 3 4)), (.c (.fn 49 []))] [(1, (.one ⟨false, false, (.cells [(.int .i32 97), (.int .i64 0), (.int .i64 0), (.int .i64 0), (.int .i32 98), (.int .i64 0), (.int .i64 0), (.int .i64 0), (.int .i32 99), (.int .i64 0), (.int .i64 0), (.int .i64 0)])⟩))] 2 (.c (.int .i64 (-1))) [] [] :=
  Contract0.fr 300 [(13, ⟨.call [] (.c (.bool (false))) [] [], none⟩), (26, ⟨.call [] (.c (.bool (false))) [] [], none⟩), (39, ⟨.call [] (.c (.bool (false))) [] [], none⟩)] [] [Contract Try.prog 49 [(.agg [(.int .i32 99), (.int .i64 0), (.int .i64 0), (.int .i64 0)])] [] 546 (.c (.bool (false))) [] [],
      Contract Try.prog 49 [(.agg [(.int .i32 98), (.int .i64 0), (.int .i64 0), (.int .i64 0)])] [] 370 (.c (.bool (false))) [] [],
      Contract Try.prog 49 [(.agg [(.int .i32 97), (.int .i64 0), (.int .i64 0), (.int .i64 0)])] [] 194 (.c (.bool (false))) [] []] mixed Try.func54 (by kernel_rfl) ⟨Contract0.in1 kcel_99 [] [none] [] [] (by kernel_rfl), Contract0.in1 kcel_98 [] [none] [] [] (by kernel_rfl), Contract0.in1 kcel_97 [] [none] [] [] (by kernel_rfl), trivial⟩
theorem kidx_aXY :
    Contract0 Try.prog 54 [(.c (.sl 1 0 0 3 4)), (.c (.fn 49 []))] [(1, (.one ⟨false, false, (.cells [(.int .i32 97), (.int .i64 0), (.int .i64 0), (.int .i64 0), (.int .i32 88), (.int .i64 0), (.int .i64 0), (.int .i64 0), (.int .i32 89), (.int .i64 0), (.int .i64 0), (.int .i64 0)])⟩))] 2 (.c (.int .i64 (-1))) [] [] :=
  Contract0.fr 300 [(13, ⟨.call [] (.c (.bool (false))) [] [], none⟩), (26, ⟨.call [] (.c (.bool (false))) [] [], none⟩), (39, ⟨.call [] (.c (.bool (false))) [] [], none⟩)] [] [Contract Try.prog 49 [(.agg [(.int .i32 89), (.int .i64 0), (.int .i64 0), (.int .i64 0)])] [] 546 (.c (.bool (false))) [] [],
      Contract Try.prog 49 [(.agg [(.int .i32 88), (.int .i64 0), (.int .i64 0), (.int .i64 0)])] [] 370 (.c (.bool (false))) [] [],
      Contract Try.prog 49 [(.agg [(.int .i32 97), (.int .i64 0), (.int .i64 0), (.int .i64 0)])] [] 194 (.c (.bool (false))) [] []] mixed Try.func54 (by kernel_rfl) ⟨Contract0.in1 kcel_89 [] [none] [] [] (by kernel_rfl), Contract0.in1 kcel_88 [] [none] [] [] (by kernel_rfl), Contract0.in1 kcel_97 [] [none] [] [] (by kernel_rfl), trivial⟩
end Go.Proofs.Ytohleiikedpmkaa.Vm

namespace Go.Proofs.Ytohleiikedpmkaa.Vm
open Go Go.Proofs Go.Proofs.Ytohleiikedpmkaa
set_option maxRecDepth 100000
theorem kcont_abc :
    Contract0 Try.prog 48 [(.c (.sl 1 0 0 3 4)), (.c (.fn 49 []))] [(1, (.one ⟨false, false, (.cells [(.int .i32 97), (.int .i64 0), (.int .i64 0), (.int .i64 0), (.int .i32 98), (.int .i64 0), (.int .i64 0), (.int .i64 0), (.int .i32 99), (.int .i64 0), (.int .i64 0), (.int .i64 0)])⟩))] 2 (.c (.bool (false))) [] [] :=
  Contract0.fr 300 [(3, ⟨.call [1] (.c (.int .i64 (-1))) [] [], none⟩)] [] [Contract Try.prog 54 [(.c (.sl 1 0 0 3 4)), (.c (.fn 49 []))] [(1, (.one ⟨false, false, (.cells [(.int .i32 97), (.int .i64 0), (.int .i64 0), (.int .i64 0), (.int .i32 98), (.int .i64 0), (.int .i64 0), (.int .i64 0), (.int .i32 99), (.int .i64 0), (.int .i64 0), (.int .i64 0)])⟩))] 50 (.c (.int .i64 (-1))) [] []] mixed Try.func48 (by kernel_rfl) ⟨Contract0.in1 kidx_abc [.b 1 1 true []] [none, none] [] [] (by kernel_rfl), trivial⟩
theorem kcont_aXY :
    Contract0 Try.prog 48 [(.c (.sl 1 0 0 3 4)), (.c (.fn 49 []))] [(1, (.one ⟨false, false, (.cells [(.int .i32 97), (.int .i64 0), (.int .i64 0), (.int .i64 0), (.int .i32 88), (.int .i64 0), (.int .i64 0), (.int .i64 0), (.int .i32 89), (.int .i64 0), (.int .i64 0), (.int .i64 0)])⟩))] 2 (.c (.bool (false))) [] [] :=
  Contract0.fr 300 [(3, ⟨.call [1] (.c (.int .i64 (-1))) [] [], none⟩)] [] [Contract Try.prog 54 [(.c (.sl 1 0 0 3 4)), (.c (.fn 49 []))] [(1, (.one ⟨false, false, (.cells [(.int .i32 97), (.int .i64 0), (.int .i64 0), (.int .i64 0), (.int .i32 88), (.int .i64 0), (.int .i64 0), (.int .i64 0), (.int .i32 89), (.int .i64 0), (.int .i64 0), (.int .i64 0)])⟩))] 50 (.c (.int .i64 (-1))) [] []] mixed Try.func48 (by kernel_rfl) ⟨Contract0.in1 kidx_aXY [.b 1 1 true []] [none, none] [] [] (by kernel_rfl), trivial⟩
theorem kblank :
    Contract0 Try.prog 22 [(.c (.int .i64 1)), (.c (.int .i64 3))] [] 1 (.agg [(.int .i64 1), (.int .i64 3), (.sl 1 0 0 1 1), (.int .i64 0), (.int .i64 0), (.bool (false))]) [] [(1, (.one ⟨true, false, (.cells [(.sl 2 0 0 3 4)])⟩)), (2, (.one ⟨true, true, (.cells [(.int .i32 32), (.int .i64 0), (.int .i64 0), (.int .i64 0), (.int .i32 32), (.int .i64 0), (.int .i64 0), (.int .i64 0), (.int .i32 32), (.int .i64 0), (.int .i64 0), (.int .i64 0)])⟩))] :=
  Contract0.renum (Contract0.of_frun (res := (.agg [(.int .i64 1), (.int .i64 3), (.sl 353 0 0 1 1), (.int .i64 0), (.int .i64 0), (.bool (false))])) (up := [(353, (.one ⟨true, false, (.cells [(.sl 321 0 0 3 4)])⟩)), (321, (.one ⟨true, true, (.cells [(.int .i32 32), (.int .i64 0), (.int .i64 0), (.int .i64 0), (.int .i32 32), (.int .i64 0), (.int .i64 0), (.int .i64 0), (.int .i32 32), (.int .i64 0), (.int .i64 0), (.int .i64 0)])⟩))]) (kill := []) (n0 := 1) (m := []) (args := [(.c (.int .i64 1)), (.c (.int .i64 3))]) (fn := Try.f22) (c := bodyOf Try.f22) (fuel := 300) (k := kOf Try.prog Try.f22) (outs := [353, 321]) (hs := [(21, ⟨.call [273] (.c (.sl 321 0 0 3 4)) [] [(321, (.one ⟨true, true, (.cells [(.int .i32 32), (.int .i64 0), (.int .i64 0), (.int .i64 0), (.int .i32 32), (.int .i64 0), (.int .i64 0), (.int .i64 0), (.int .i32 32), (.int .i64 0), (.int .i64 0), (.int .i64 0)])⟩))], none⟩)])
    (cs := [Contract Try.prog 39 [(.c (.sl 273 0 0 1 4)), (.c (.int .i64 3))] [(273, (.one ⟨true, true, (.cells [(.int .i32 32), (.int .i64 0), (.int .i64 0), (.int .i64 0)])⟩))] 321 (.c (.sl 321 0 0 3 4)) [] [(321, (.one ⟨true, true, (.cells [(.int .i32 32), (.int .i64 0), (.int .i64 0), (.int .i64 0), (.int .i32 32), (.int .i64 0), (.int .i64 0), (.int .i64 0), (.int .i32 32), (.int .i64 0), (.int .i64 0), (.int .i64 0)])⟩))]])
    mixed Try.func22 (by kernel_rfl) (by kernel_rfl) (by kernel_rfl) (by kernel_rfl) (by kernel_rfl) ⟨Contract0.in1 krepeat [.b 273 1 true []] [none, none] [(2, 321)] [] (by kernel_rfl), trivial⟩) [] [] [(353, 1), (321, 2)] [] (by kernel_rfl) (by kernel_rfl) (by kernel_rfl) (by kernel_rfl) (by kernel_rfl)
end Go.Proofs.Ytohleiikedpmkaa.Vm

namespace Go.Proofs.Ytohleiikedpmkaa.Vm
open Go Go.Proofs Go.Proofs.Ytohleiikedpmkaa
set_option maxRecDepth 100000
theorem kcells_abc :
    Contract0 Try.prog 33 [(.c (.sl 1 0 0 3 4))] [(1, (.one ⟨false, false, (.cells [(.int .i32 97), (.int .i64 0), (.int .i64 0), (.int .i64 0), (.int .i32 98), (.int .i64 0), (.int .i64 0), (.int .i64 0), (.int .i32 99), (.int .i64 0), (.int .i64 0), (.int .i64 0)])⟩))] 2 (.c (.bool (true))) [] [] :=
  Contract0.fr 300 [(2, ⟨.call [1] (.c (.bool (false))) [] [], none⟩)] [] [Contract Try.prog 48 [(.c (.sl 1 0 0 3 4)), (.c (.fn 49 []))] [(1, (.one ⟨false, false, (.cells [(.int .i32 97), (.int .i64 0), (.int .i64 0), (.int .i64 0), (.int .i32 98), (.int .i64 0), (.int .i64 0), (.int .i64 0), (.int .i32 99), (.int .i64 0), (.int .i64 0), (.int .i64 0)])⟩))] 34 (.c (.bool (false))) [] []] mixed Try.func33 (by kernel_rfl) ⟨Contract0.in1 kcont_abc [.b 1 1 true []] [none, none] [] [] (by kernel_rfl), trivial⟩
theorem kcells_aXY :
    Contract0 Try.prog 33 [(.c (.sl 1 0 0 3 4))] [(1, (.one ⟨false, false, (.cells [(.int .i32 97), (.int .i64 0), (.int .i64 0), (.int .i64 0), (.int .i32 88), (.int .i64 0), (.int .i64 0), (.int .i64 0), (.int .i32 89), (.int .i64 0), (.int .i64 0), (.int .i64 0)])⟩))] 2 (.c (.bool (true))) [] [] :=
  Contract0.fr 300 [(2, ⟨.call [1] (.c (.bool (false))) [] [], none⟩)] [] [Contract Try.prog 48 [(.c (.sl 1 0 0 3 4)), (.c (.fn 49 []))] [(1, (.one ⟨false, false, (.cells [(.int .i32 97), (.int .i64 0), (.int .i64 0), (.int .i64 0), (.int .i32 88), (.int .i64 0), (.int .i64 0), (.int .i64 0), (.int .i32 89), (.int .i64 0), (.int .i64 0), (.int .i64 0)])⟩))] 34 (.c (.bool (false))) [] []] mixed Try.func33 (by kernel_rfl) ⟨Contract0.in1 kcont_aXY [.b 1 1 true []] [none, none] [] [] (by kernel_rfl), trivial⟩
theorem ktext_abc :
    Contract0 Try.prog 29 [(.c (.str ({ data := { toList := [97, 98, 99] } })))] [] 1 (.agg [(.int .i64 1), (.int .i64 3), (.sl 1 0 0 1 1), (.int .i64 0), (.int .i64 0), (.bool (false))]) [] [(1, (.one ⟨true, false, (.cells [(.sl 2 0 0 3 4)])⟩)), (2, (.one ⟨true, true, (.cells [(.int .i32 97), (.int .i64 0), (.int .i64 0), (.int .i64 0), (.int .i32 98), (.int .i64 0), (.int .i64 0), (.int .i64 0), (.int .i32 99), (.int .i64 0), (.int .i64 0), (.int .i64 0)])⟩))] :=
  Contract0.renum (Contract0.of_frun (res := (.agg [(.int .i64 1), (.int .i64 3), (.sl 17 0 0 1 1), (.int .i64 0), (.int .i64 0), (.bool (false))])) (up := [(17, (.one ⟨true, false, (.cells [(.sl 18 0 0 3 4)])⟩)), (18, (.one ⟨true, true, (.cells [(.int .i32 97), (.int .i64 0), (.int .i64 0), (.int .i64 0), (.int .i32 98), (.int .i64 0), (.int .i64 0), (.int .i64 0), (.int .i32 99), (.int .i64 0), (.int .i64 0), (.int .i64 0)])⟩))]) (kill := []) (n0 := 1) (m := []) (args := [(.c (.str ({ data := { toList := [97, 98, 99] } })))]) (fn := Try.f29) (c := bodyOf Try.f29) (fuel := 300) (k := kOf Try.prog Try.f29) (outs := [17, 18]) (hs := [(1, ⟨.call [] (.agg [(.int .i64 1), (.int .i64 3), (.sl 17 0 0 1 1), (.int .i64 0), (.int .i64 0), (.bool (false))]) [] [(17, (.one ⟨true, false, (.cells [(.sl 18 0 0 3 4)])⟩)), (18, (.one ⟨true, true, (.cells [(.int .i32 32), (.int .i64 0), (.int .i64 0), (.int .i64 0), (.int .i32 32), (.int .i64 0), (.int .i64 0), (.int .i64 0), (.int .i32 32), (.int .i64 0), (.int .i64 0), (.int .i64 0)])⟩))], none⟩)])
    (cs := [Contract Try.prog 22 [(.c (.int .i64 1)), (.c (.int .i64 3))] [] 17 (.agg [(.int .i64 1), (.int .i64 3), (.sl 17 0 0 1 1), (.int .i64 0), (.int .i64 0), (.bool (false))]) [] [(17, (.one ⟨true, false, (.cells [(.sl 18 0 0 3 4)])⟩)), (18, (.one ⟨true, true, (.cells [(.int .i32 32), (.int .i64 0), (.int .i64 0), (.int .i64 0), (.int .i32 32), (.int .i64 0), (.int .i64 0), (.int .i64 0), (.int .i32 32), (.int .i64 0), (.int .i64 0), (.int .i64 0)])⟩))]])
    mixed Try.func29 (by kernel_rfl) (by kernel_rfl) (by kernel_rfl) (by kernel_rfl) (by kernel_rfl) ⟨Contract0.in1 kblank [] [none, none] [(1, 17), (2, 18)] [] (by kernel_rfl), trivial⟩) [] [] [(17, 1), (18, 2)] [] (by kernel_rfl) (by kernel_rfl) (by kernel_rfl) (by kernel_rfl) (by kernel_rfl)
theorem ktext_aXY :
    Contract0 Try.prog 29 [(.c (.str ({ data := { toList := [97, 88, 89] } })))] [] 1 (.agg [(.int .i64 1), (.int .i64 3), (.sl 1 0 0 1 1), (.int .i64 0), (.int .i64 0), (.bool (false))]) [] [(1, (.one ⟨true, false, (.cells [(.sl 2 0 0 3 4)])⟩)), (2, (.one ⟨true, true, (.cells [(.int .i32 97), (.int .i64 0), (.int .i64 0), (.int .i64 0), (.int .i32 88), (.int .i64 0), (.int .i64 0), (.int .i64 0), (.int .i32 89), (.int .i64 0), (.int .i64 0), (.int .i64 0)])⟩))] :=
  Contract0.renum (Contract0.of_frun (res := (.agg [(.int .i64 1), (.int .i64 3), (.sl 17 0 0 1 1), (.int .i64 0), (.int .i64 0), (.bool (false))])) (up := [(17, (.one ⟨true, false, (.cells [(.sl 18 0 0 3 4)])⟩)), (18, (.one ⟨true, true, (.cells [(.int .i32 97), (.int .i64 0), (.int .i64 0), (.int .i64 0), (.int .i32 88), (.int .i64 0), (.int .i64 0), (.int .i64 0), (.int .i32 89), (.int .i64 0), (.int .i64 0), (.int .i64 0)])⟩))]) (kill := []) (n0 := 1) (m := []) (args := [(.c (.str ({ data := { toList := [97, 88, 89] } })))]) (fn := Try.f29) (c := bodyOf Try.f29) (fuel := 300) (k := kOf Try.prog Try.f29) (outs := [17, 18]) (hs := [(1, ⟨.call [] (.agg [(.int .i64 1), (.int .i64 3), (.sl 17 0 0 1 1), (.int .i64 0), (.int .i64 0), (.bool (false))]) [] [(17, (.one ⟨true, false, (.cells [(.sl 18 0 0 3 4)])⟩)), (18, (.one ⟨true, true, (.cells [(.int .i32 32), (.int .i64 0), (.int .i64 0), (.int .i64 0), (.int .i32 32), (.int .i64 0), (.int .i64 0), (.int .i64 0), (.int .i32 32), (.int .i64 0), (.int .i64 0), (.int .i64 0)])⟩))], none⟩)])
    (cs := [Contract Try.prog 22 [(.c (.int .i64 1)), (.c (.int .i64 3))] [] 17 (.agg [(.int .i64 1), (.int .i64 3), (.sl 17 0 0 1 1), (.int .i64 0), (.int .i64 0), (.bool (false))]) [] [(17, (.one ⟨true, false, (.cells [(.sl 18 0 0 3 4)])⟩)), (18, (.one ⟨true, true, (.cells [(.int .i32 32), (.int .i64 0), (.int .i64 0), (.int .i64 0), (.int .i32 32), (.int .i64 0), (.int .i64 0), (.int .i64 0), (.int .i32 32), (.int .i64 0), (.int .i64 0), (.int .i64 0)])⟩))]])
    mixed Try.func29 (by kernel_rfl) (by kernel_rfl) (by kernel_rfl) (by kernel_rfl) (by kernel_rfl) ⟨Contract0.in1 kblank [] [none, none] [(1, 17), (2, 18)] [] (by kernel_rfl), trivial⟩) [] [] [(17, 1), (18, 2)] [] (by kernel_rfl) (by kernel_rfl) (by kernel_rfl) (by kernel_rfl) (by kernel_rfl)
theorem kclone_abc :
    Contract0 Try.prog 31 [(.c (.sl 1 0 0 3 4))] [(1, (.one ⟨false, false, (.cells [(.int .i32 97), (.int .i64 0), (.int .i64 0), (.int .i64 0), (.int .i32 98), (.int .i64 0), (.int .i64 0), (.int .i64 0), (.int .i32 99), (.int .i64 0), (.int .i64 0), (.int .i64 0)])⟩))] 2 (.c (.sl 2 0 0 3 4)) [] [(2, (.one ⟨true, false, (.cells [(.int .i32 97), (.int .i64 0), (.int .i64 0), (.int .i64 0), (.int .i32 98), (.int .i64 0), (.int .i64 0), (.int .i64 0), (.int .i32 99), (.int .i64 0), (.int .i64 0), (.int .i64 0)])⟩))] :=
  Contract0.renum (Contract0.of_frun (res := (.c (.sl 82 0 0 3 4))) (up := [(82, (.one ⟨true, false, (.cells [(.int .i32 97), (.int .i64 0), (.int .i64 0), (.int .i64 0), (.int .i32 98), (.int .i64 0), (.int .i64 0), (.int .i64 0), (.int .i32 99), (.int .i64 0), (.int .i64 0), (.int .i64 0)])⟩))]) (kill := []) (n0 := 2) (m := [(1, (.one ⟨false, false, (.cells [(.int .i32 97), (.int .i64 0), (.int .i64 0), (.int .i64 0), (.int .i32 98), (.int .i64 0), (.int .i64 0), (.int .i64 0), (.int .i32 99), (.int .i64 0), (.int .i64 0), (.int .i64 0)])⟩))]) (args := [(.c (.sl 1 0 0 3 4))]) (fn := Try.f31) (c := bodyOf Try.f31) (fuel := 300) (k := kOf Try.prog Try.f31) (outs := [82]) (hs := [])
    (cs := [])
    mixed Try.func31 (by kernel_rfl) (by kernel_rfl) (by kernel_rfl) (by kernel_rfl) (by kernel_rfl) trivial) [.b 1 1 true] [] [(82, 2)] [] (by kernel_rfl) (by kernel_rfl) (by kernel_rfl) (by kernel_rfl) (by kernel_rfl)
theorem kclone_XY :
    Contract0 Try.prog 31 [(.c (.sl 1 0 4 2 4))] [(1, (.one ⟨false, false, (.cells [(.int .i32 97), (.int .i64 0), (.int .i64 0), (.int .i64 0), (.int .i32 88), (.int .i64 0), (.int .i64 0), (.int .i64 0), (.int .i32 89), (.int .i64 0), (.int .i64 0), (.int .i64 0)])⟩))] 2 (.c (.sl 2 0 0 2 4)) [] [(2, (.one ⟨true, false, (.cells [(.int .i32 88), (.int .i64 0), (.int .i64 0), (.int .i64 0), (.int .i32 89), (.int .i64 0), (.int .i64 0), (.int .i64 0)])⟩))] :=
  Contract0.renum (Contract0.of_frun (res := (.c (.sl 82 0 0 2 4))) (up := [(82, (.one ⟨true, false, (.cells [(.int .i32 88), (.int .i64 0), (.int .i64 0), (.int .i64 0), (.int .i32 89), (.int .i64 0), (.int .i64 0), (.int .i64 0)])⟩))]) (kill := []) (n0 := 2) (m := [(1, (.one ⟨false, false, (.cells [(.int .i32 97), (.int .i64 0), (.int .i64 0), (.int .i64 0), (.int .i32 88), (.int .i64 0), (.int .i64 0), (.int .i64 0), (.int .i32 89), (.int .i64 0), (.int .i64 0), (.int .i64 0)])⟩))]) (args := [(.c (.sl 1 0 4 2 4))]) (fn := Try.f31) (c := bodyOf Try.f31) (fuel := 300) (k := kOf Try.prog Try.f31) (outs := [82]) (hs := [])
    (cs := [])
    mixed Try.func31 (by kernel_rfl) (by kernel_rfl) (by kernel_rfl) (by kernel_rfl) (by kernel_rfl) trivial) [.b 1 1 true] [] [(82, 2)] [] (by kernel_rfl) (by kernel_rfl) (by kernel_rfl) (by kernel_rfl) (by kernel_rfl)
theorem ksize_1 :
    PureF Try.prog 32 [(.c (.int .i64 1)), (.c (.int .i64 3)), (.c (.int .i64 0)), (.c (.int .i64 0))] (.c (.bool (true))) :=
  Contract0.fr 300 [] [] [] mixed Try.func32 (by kernel_rfl) trivial
end Go.Proofs.Ytohleiikedpmkaa.Vm
