/- What functions of the program come to: parts of the walk (Laid). -/
import Derived.Test.YtkjbjgkjplmkhaaDoorRff
import Derived.Test.YtkjbjgkjplmkhaaDoorRows
import Derived.WalkKit
import Derived.ProofKit
import Derived.OpenShut
import Derived.ChangeOld
import Derived.SizedLaws
import Derived.ChangeSame
import Derived.ChangeVars
import Derived.JoinedOf
import Derived.RowKit
import Derived.LaidLaws
set_option linter.unusedSimpArgs false
set_option linter.unusedVariables false
namespace Go.Proofs.YtkjbjgkjplmkhaaDoor.laids
open Go.ChangeShapes Go.WideShapes Go.ChangeAt Go.RowKit Go.Proofs.YtkjbjgkjplmkhaaDoor Go.Proofs.YtkjbjgkjplmkhaaDoor.Vm
theorem gname : Tryd.prog.globalNamed "porthole/portholeref1.prime" = some 0 := by kernel_rfl
theorem gtype : (Tryd.prog.globals[0]?).map (·.type) = some 30 := by kernel_rfl
theorem cells30 : Tryd.prog.cellsOf 30 = 16 := by kernel_rfl
theorem cells24 : Tryd.prog.cellsOf 24 = 1 := by kernel_rfl
theorem int_of_trod {H : Type} {enc : TypeId × Value → H} {P : Program} {w : World} {base : Nat} {sp : Nat → Bool} {held : Bool} {fuel : Nat} {t : TypeId} {k : IntKind} {c : Value} {y : DataW H × List MemPlace}
    (ht : P.underlying t = some (.int k)) (h : DataW.trod enc P w base sp held fuel t [c] = some y) : ∃ n, c = .int k n ∧ y = (.lit (.int k n), []) := by
  cases fuel with
  | zero => simp [DataW.trod] at h
  | succ fuel =>
    cases c <;> simp [DataW.trod, ht] at h
    rename_i k' n
    obtain ⟨⟨rfl, _⟩, rfl⟩ := h
    exact ⟨n, rfl, rfl⟩
def cells : Array Value := #[.int .u64 65517, .int .u64 65535, .int .u64 65535, .int .u64 65535, .int .u64 65535, .int .u64 65535, .int .u64 65535, .int .u64 65535, .int .u64 65535, .int .u64 65535, .int .u64 65535, .int .u64 65535, .int .u64 65535, .int .u64 65535, .int .u64 65535, .int .u64 32767]
abbrev laid : List (String × DataW Unit) := [("porthole/portholeref1.prime", Rows.laid_porthole_portholeref1_prime)]
theorem cells_of_laid {W : World} (h : laidMet Tryd.prog laid W) : W.var? Tryd.prog "porthole/portholeref1.prime" = some cells := by
  obtain ⟨ps, ⟨g, t, cs, fuel, p, q, hg, ht, hvar, hd, _, _⟩, _⟩ := h
  obtain rfl := Option.some.inj (gname.symm.trans hg)
  obtain rfl := Option.some.inj (gtype.symm.trans ht)
  rw [hvar]
  congr 1
  obtain ⟨l⟩ := cs
  cases fuel with
  | zero => simp [DataW.trod] at hd
  | succ fuel =>
    simp only [DataW.trod, Tryd.underlying30, cells30, cells24] at hd
    split at hd
    · rename_i hl
      obtain ⟨c0, c1, c2, c3, c4, c5, c6, c7, c8, c9, c10, c11, c12, c13, c14, c15, rfl⟩ : ∃ c0 c1 c2 c3 c4 c5 c6 c7 c8 c9 c10 c11 c12 c13 c14 c15, l = [c0, c1, c2, c3, c4, c5, c6, c7, c8, c9, c10, c11, c12, c13, c14, c15] := by
        match l, hl with
        | [c0, c1, c2, c3, c4, c5, c6, c7, c8, c9, c10, c11, c12, c13, c14, c15], _ => exact ⟨c0, c1, c2, c3, c4, c5, c6, c7, c8, c9, c10, c11, c12, c13, c14, c15, rfl⟩
      have e : List.range 16 = [0, 1, 2, 3, 4, 5, 6, 7, 8, 9, 10, 11, 12, 13, 14, 15] := rfl
      rw [e] at hd
      simp only [Option.map_eq_some_iff, List.mapM_cons, List.mapM_nil, Option.bind_eq_bind, Option.bind_eq_some_iff, Option.pure_def, Option.some.injEq] at hd
      obtain ⟨xs, ⟨y0, h0, _, ⟨y1, h1, _, ⟨y2, h2, _, ⟨y3, h3, _, ⟨y4, h4, _, ⟨y5, h5, _, ⟨y6, h6, _, ⟨y7, h7, _, ⟨y8, h8, _, ⟨y9, h9, _, ⟨y10, h10, _, ⟨y11, h11, _, ⟨y12, h12, _, ⟨y13, h13, _, ⟨y14, h14, _, ⟨y15, h15, _, rfl, rfl⟩, rfl⟩, rfl⟩, rfl⟩, rfl⟩, rfl⟩, rfl⟩, rfl⟩, rfl⟩, rfl⟩, rfl⟩, rfl⟩, rfl⟩, rfl⟩, rfl⟩, rfl⟩, hx⟩ := hd
      obtain ⟨n0, rfl, rfl⟩ := int_of_trod Tryd.underlying24 h0
      obtain ⟨n1, rfl, rfl⟩ := int_of_trod Tryd.underlying24 h1
      obtain ⟨n2, rfl, rfl⟩ := int_of_trod Tryd.underlying24 h2
      obtain ⟨n3, rfl, rfl⟩ := int_of_trod Tryd.underlying24 h3
      obtain ⟨n4, rfl, rfl⟩ := int_of_trod Tryd.underlying24 h4
      obtain ⟨n5, rfl, rfl⟩ := int_of_trod Tryd.underlying24 h5
      obtain ⟨n6, rfl, rfl⟩ := int_of_trod Tryd.underlying24 h6
      obtain ⟨n7, rfl, rfl⟩ := int_of_trod Tryd.underlying24 h7
      obtain ⟨n8, rfl, rfl⟩ := int_of_trod Tryd.underlying24 h8
      obtain ⟨n9, rfl, rfl⟩ := int_of_trod Tryd.underlying24 h9
      obtain ⟨n10, rfl, rfl⟩ := int_of_trod Tryd.underlying24 h10
      obtain ⟨n11, rfl, rfl⟩ := int_of_trod Tryd.underlying24 h11
      obtain ⟨n12, rfl, rfl⟩ := int_of_trod Tryd.underlying24 h12
      obtain ⟨n13, rfl, rfl⟩ := int_of_trod Tryd.underlying24 h13
      obtain ⟨n14, rfl, rfl⟩ := int_of_trod Tryd.underlying24 h14
      obtain ⟨n15, rfl, rfl⟩ := int_of_trod Tryd.underlying24 h15
      simp [Rows.laid_porthole_portholeref1_prime] at hx
      obtain ⟨⟨rfl, rfl, rfl, rfl, rfl, rfl, rfl, rfl, rfl, rfl, rfl, rfl, rfl, rfl, rfl, rfl⟩, _⟩ := hx
      rfl
    · cases hd
/-- What a row's condition gives: the variable's cells, in a block of its own. -/
theorem block_of_laid {W : World} (h : laidMet Tryd.prog laid W) : ∃ t f, W.heap[0]? = some (.cells cells t f) := by
  have hv := cells_of_laid h
  simp only [World.var?, gname, Option.bind_some] at hv
  split at hv
  · rename_i cs t f hh
    injection hv with hv
    subst hv
    exact ⟨t, f, hh⟩
  · cases hv
noncomputable def laidWorld (os : Os) : World :=
  { World.holding Tryd.prog os ⟨#[], #[], []⟩ with heap := (World.holding Tryd.prog os ⟨#[], #[], []⟩).heap.modify 0 fun
      | .cells _ t frozen => .cells cells t frozen
      | o => o }
theorem laid_met {w : World} (hh : w.heap[0]? = some (.cells cells 30 (0, 0))) (hr : DataW.trod (fun _ => ()) Tryd.prog w 0 (fun _ => true) false 8 30 cells.toList = some (Rows.laid_porthole_portholeref1_prime, []))
    (hv : w.var? Tryd.prog "porthole/portholeref1.prime" = some cells) : laidMet Tryd.prog laid w :=
  ⟨_, ⟨0, 30, cells, 8, [], [], gname, gtype, hv, hr, rfl, rfl⟩, by decide, fun b off h => by
    have h' : MemPlace.cell b off ∈ [MemPlace.cell 0 0, MemPlace.cell 0 1, MemPlace.cell 0 2, MemPlace.cell 0 3, MemPlace.cell 0 4, MemPlace.cell 0 5, MemPlace.cell 0 6, MemPlace.cell 0 7, MemPlace.cell 0 8, MemPlace.cell 0 9, MemPlace.cell 0 10, MemPlace.cell 0 11, MemPlace.cell 0 12, MemPlace.cell 0 13, MemPlace.cell 0 14, MemPlace.cell 0 15] := h
    have hb : b = 0 := by
      simp only [List.mem_cons, List.not_mem_nil, or_false, MemPlace.cell.injEq] at h'
      omega
    subst hb
    refine ⟨⟨_, _, hh⟩, fun u v hc => ?_⟩
    simp only [World.cell?, hh] at hc
    have key : ∀ c ∈ cells.toList, ∀ u v, c ≠ Value.iface u v := by
      intro c hcm u v
      have : c ∈ W.pr.map (Value.int .u64) := hcm
      obtain ⟨n, _, rfl⟩ := List.mem_map.1 this
      simp
    have hm : Value.iface u v ∈ cells.toList := by
      have := List.mem_of_getElem? (l := cells.toList) (i := off) (a := Value.iface u v) (by simpa using hc)
      exact this
    exact absurd rfl (key _ hm u v)⟩
/-- A law's call, of values alone, that looks at the variable. -/
theorem law_glob {f : Nat} {args : List V} {b : Bool} {vals : List Value} (h : Contract0 Tryd.prog f args [(0, (.one ⟨false, false, (.ints .u64 (Go.Proofs.YtkjbjgkjplmkhaaDoor.W.pr))⟩))] 2 (.c (.bool b)) [] []) (W : World) (hL : laidMet Tryd.prog laid W) (hv : ∀ φ, All2 (RV φ) args vals) :
    Calls Tryd.prog f vals.toArray W fun e W' => e = .returned (.bool b) ∧ RowKit.Below W.heap.size W W' := by
  obtain ⟨t, fz, hh⟩ := block_of_laid hL
  let φ : Phi := fun b i => if b = 0 then (if i = 0 then some ⟨0, 0, 16, false⟩ else some ⟨i, 0, 0, false⟩) else none
  have h0 : φ 0 0 = some ⟨0, 0, 16, false⟩ := rfl
  have hk : ∀ b i k, Go.Proofs.YtkjbjgkjplmkhaaDoor.Vm.look [(0, (.one ⟨false, false, (.ints .u64 (Go.Proofs.YtkjbjgkjplmkhaaDoor.W.pr))⟩))] b i = some k → b = 0 ∧ i = 0 ∧ k = ⟨false, false, (.ints .u64 (Go.Proofs.YtkjbjgkjplmkhaaDoor.W.pr))⟩ := by
    intro b i k h
    unfold Go.Proofs.YtkjbjgkjplmkhaaDoor.Vm.look at h
    simp only [ent] at h
    by_cases hb : 0 = b
    · subst hb
      simp only [Nat.beq_refl, cond_true, Ent.at] at h
      by_cases hi : i = 0
      · subst hi
        simp only [Nat.beq_refl, cond_true] at h
        injection h with h
        exact ⟨rfl, rfl, h.symm⟩
      · rw [beqF hi] at h; simp at h
    · rw [beqF hb] at h; simp at h
  have hm : RM φ [(0, (.one ⟨false, false, (.ints .u64 (Go.Proofs.YtkjbjgkjplmkhaaDoor.W.pr))⟩))] W := by
    refine ⟨fun g => ?_, fun b i k h => ?_, fun b i k l b' i' k' l' h h' hl hl' ho => ?_⟩
    · by_cases hg : g = 0
      · subst hg; exact ⟨_, h0, rfl, rfl⟩
      · exact ⟨⟨g, 0, 0, false⟩, by simp [φ, hg], rfl, rfl⟩
    · obtain ⟨rfl, rfl, rfl⟩ := hk _ _ _ h
      refine ⟨_, h0, rfl, by decide, fun h => by simp at h, fun _ => ⟨t, ?_⟩, fun j hj => ?_, fun h => by simp at h⟩
      · simp only [World.shape?, hh]; rfl
      · have hj' : j < 16 := hj
        refine ⟨.int .u64 (Go.Proofs.YtkjbjgkjplmkhaaDoor.W.pr.getD j 0), ?_, rfl⟩
        simp only [World.cell?, hh, Nat.zero_add]
        have : ∀ j, j < 16 → cells[j]? = some (Value.int .u64 (Go.Proofs.YtkjbjgkjplmkhaaDoor.W.pr.getD j 0)) := by
          intro j hj
          match j, hj with
          | 0, _ => rfl
          | 1, _ => rfl
          | 2, _ => rfl
          | 3, _ => rfl
          | 4, _ => rfl
          | 5, _ => rfl
          | 6, _ => rfl
          | 7, _ => rfl
          | 8, _ => rfl
          | 9, _ => rfl
          | 10, _ => rfl
          | 11, _ => rfl
          | 12, _ => rfl
          | 13, _ => rfl
          | 14, _ => rfl
          | 15, _ => rfl
          | j + 16, h => exact absurd h (by omega)
        exact this j hj'
    · obtain ⟨rfl, rfl, rfl⟩ := hk _ _ _ h
      rw [h0] at hl
      injection hl with hl
      subst hl
      simp at ho
  have hf : Fresh φ 2 := by
    intro b hb i
    have : ¬ b = 0 := by omega
    simp [φ, this]
  refine (h φ W vals hm hf (hv φ)).mono ?_
  rintro e W' ⟨v, φ', he, hr, S⟩
  have : v = .bool b := hr
  subst this
  refine ⟨he, ⟨S.keeps.os, S.keeps.tape, S.keeps.output, S.keeps.size, fun k hk => S.keeps.block k hk ?_⟩⟩
  rintro ⟨b, i, k, l, hb, hl, _⟩
  simp at hb
end Go.Proofs.YtkjbjgkjplmkhaaDoor.laids
