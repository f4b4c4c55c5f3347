/- What functions of the program come to: parts of the walk (Lv). -/
import Derived.Test.YtmfnldkiaodkpaaDoorVmc
import Derived.RowKit
import GoSem.ClaimJoined
set_option linter.unusedSimpArgs false
set_option linter.unusedVariables false
/- Package-level variables that a row lists: rows of numbers, and rows of such rows; a law's call beside them. -/
namespace Go.Proofs.YtmfnldkiaodkpaaDoor.Vm
open Go
section
variable {P : Program} {w : World} {sp : Nat → Bool} {held : Bool}
theorem mapM_get {α β : Type} {f : α → Option β} : ∀ {l : List α} {xs : List β}, l.mapM f = some xs → xs.length = l.length ∧ ∀ (i : Nat) (x : α), l[i]? = some x → ∃ y, xs[i]? = some y ∧ f x = some y
  | [], xs, h => by simp at h; subst h; simp
  | a :: r, xs, h => by
    simp only [List.mapM_cons, Option.bind_eq_bind, Option.bind_eq_some_iff, Option.pure_def, Option.some.injEq] at h
    obtain ⟨y, hy, ys, hys, rfl⟩ := h
    obtain ⟨h1, h2⟩ := mapM_get hys
    refine ⟨by simp [h1], fun i x hx => ?_⟩
    cases i with
    | zero => simp at hx; subst hx; exact ⟨y, rfl, hy⟩
    | succ i => simpa using h2 i x (by simpa using hx)
theorem trod_int {fuel : Nat} {e : TypeId} {k : IntKind} {c : Value} {y : DataW Unit × List MemPlace} (he : P.underlying e = some (.int k)) (h : DataW.trod (fun _ => ()) P w 0 sp held fuel e [c] = some y) : ∃ n, c = .int k n ∧ y = (.lit (.int k n), []) := by
  cases fuel with
  | zero => simp [DataW.trod] at h
  | succ fuel =>
    cases c <;> simp [DataW.trod, he] at h
    rename_i k' n
    obtain ⟨⟨rfl, _⟩, rfl⟩ := h
    exact ⟨n, rfl, rfl⟩
theorem trod_array {fuel n : Nat} {t e : TypeId} {cs : List Value} {ds : List (DataW Unit)} {p : List MemPlace} (ht : P.underlying t = some (.array n e)) (h : DataW.trod (fun _ => ()) P w 0 sp held fuel t cs = some (.agg ds, p)) :
    ∃ fuel', cs.length = P.cellsOf t ∧ ds.length = n ∧ ∀ i d, ds[i]? = some d → ∃ q, DataW.trod (fun _ => ()) P w 0 sp held fuel' e ((cs.drop (i * P.cellsOf e)).take (P.cellsOf e)) = some (d, q) := by
  cases fuel with
  | zero => simp [DataW.trod] at h
  | succ fuel =>
    simp only [DataW.trod, ht] at h
    split at h
    · rename_i hl
      simp only [Option.map_eq_some_iff, Prod.mk.injEq] at h
      obtain ⟨xs, hx, h1, _⟩ := h
      obtain ⟨h2, h3⟩ := mapM_get hx
      injection h1 with h1
      subst h1
      refine ⟨fuel, hl, by simp [h2], fun i d hd => ?_⟩
      simp only [List.getElem?_map, Option.map_eq_some_iff] at hd
      obtain ⟨y, hy, rfl⟩ := hd
      have hi : i < n := by
        have := (List.getElem?_eq_some_iff.1 hy).1
        rw [h2, List.length_range] at this
        exact this
      obtain ⟨z, hz, e1⟩ := h3 i i (by simp [List.getElem?_range hi])
      rw [hy] at hz; injection hz with hz; subst hz
      exact ⟨y.2, e1⟩
    · cases h
theorem trod_ints {fuel n : Nat} {t e : TypeId} {k : IntKind} {cs : List Value} {zs : List Int} {p : List MemPlace} (ht : P.underlying t = some (.array n e)) (he : P.underlying e = some (.int k)) (ce : P.cellsOf e = 1) (ct : P.cellsOf t = n)
    (h : DataW.trod (fun _ => ()) P w 0 sp held fuel t cs = some (.agg (zs.map fun z => .lit (.int k z)), p)) : cs = zs.map (Value.int k) := by
  obtain ⟨fuel', h1, h2, h3⟩ := trod_array ht h
  rw [ce] at h3
  rw [ct] at h1
  rw [List.length_map] at h2
  refine List.ext_getElem? fun i => ?_
  by_cases hi : i < n
  · have hz : i < zs.length := by omega
    have hc : i < cs.length := by omega
    obtain ⟨q, e1⟩ := h3 i (.lit (.int k zs[i])) (by rw [List.getElem?_map, List.getElem?_eq_getElem hz]; rfl)
    rw [Nat.mul_one, List.drop_eq_getElem_cons hc, List.take_succ_cons, List.take_zero] at e1
    obtain ⟨m, e2, e3⟩ := trod_int he e1
    injection e3 with e3 _
    injection e3 with e3
    injection e3 with _ e3
    rw [List.getElem?_map, List.getElem?_eq_getElem hz, List.getElem?_eq_getElem hc, e2, ← e3]
    rfl
  · rw [List.getElem?_eq_none (by omega), List.getElem?_eq_none (by rw [List.length_map]; omega)]
theorem chunks {g : Int → Value} {n : Nat} : ∀ (zss : List (List Int)) (cs : List Value), cs.length = zss.length * n → (∀ i zs, zss[i]? = some zs → (cs.drop (i * n)).take n = zs.map g) → cs = zss.flatten.map g
  | [], cs, h, _ => by
    have : cs.length = 0 := by simpa using h
    rw [List.length_eq_zero_iff.1 this]; rfl
  | z :: r, cs, h, h1 => by
    have h0 := h1 0 z rfl
    rw [Nat.zero_mul, List.drop_zero] at h0
    have ih := chunks (n := n) r (cs.drop n) (by rw [List.length_drop, h, List.length_cons, Nat.add_mul, Nat.one_mul, Nat.add_sub_cancel]) (fun i zs hz => by
      have := h1 (i + 1) zs hz
      rw [List.drop_drop]
      rw [Nat.add_mul, Nat.one_mul, Nat.add_comm] at this
      exact this)
    rw [List.flatten_cons, List.map_append, ← h0, ← ih, List.take_append_drop]
theorem trod_rows {fuel m n : Nat} {t u e : TypeId} {k : IntKind} {cs : List Value} {zss : List (List Int)} {p : List MemPlace} (ht : P.underlying t = some (.array m u)) (hu : P.underlying u = some (.array n e)) (he : P.underlying e = some (.int k))
    (ce : P.cellsOf e = 1) (cu : P.cellsOf u = n) (ct : P.cellsOf t = m * n) (h : DataW.trod (fun _ => ()) P w 0 sp held fuel t cs = some (.agg (zss.map fun zs => .agg (zs.map fun z => .lit (.int k z))), p)) : cs = zss.flatten.map (Value.int k) := by
  obtain ⟨fuel', h1, h2, h3⟩ := trod_array ht h
  rw [cu] at h3
  rw [ct] at h1
  rw [List.length_map] at h2
  refine chunks zss cs (by rw [h1, h2]) fun i zs hz => ?_
  obtain ⟨q, e1⟩ := h3 i (.agg (zs.map fun z => .lit (.int k z))) (by rw [List.getElem?_map, hz]; rfl)
  exact trod_ints hu he ce cu e1
theorem block_of_var {n : String} {g : Nat} {cs : Array Value} (hg : P.globalNamed n = some g) (h : w.var? P n = some cs) : ∃ t f, w.heap[g]? = some (.cells cs t f) := by
  simp only [World.var?, hg, Option.bind_some] at h
  split at h
  · rename_i c t f hh
    injection h with h
    subst h
    exact ⟨t, f, hh⟩
  · cases h
end
/-- The variables' rows, as they lie in the heap. -/
def GlobIs (K : Nat → IntKind) (G : Nat → List Int) (W : World) : Prop := ∀ i, G i = [] ∨ ∃ t f, W.heap[i]? = some (.cells ((G i).map (Value.int (K i))).toArray t f)
def phiG (G : Nat → List Int) (ls : List Lc) : Phi := fun b i => if b = 0 then some ⟨i, 0, (G i).length, false⟩ else phiS ls 1 b i
theorem Contract0.law_srcG {P : Program} {f : Nat} {args : List V} {b : Bool} {vals : List Value} {kill : List Nat} {K : Nat → IntKind} {G : Nat → List Int} (ls : List Sr) (N : Nat) (hN : topS ls 1 ≤ N)
    (h : Contract0 P f args ((0, .many (fun j_ => some ⟨false, false, .ints (K j_) (G j_)⟩)) :: memS ls 1) N (.c (.bool b)) kill []) (W : World) (hG : GlobIs K G W) (ls' : List Lc) (hat : AllS W ls ls' 1) (hv : All2 (RV (phiG G ls')) args vals) :
    Calls P f vals.toArray W fun e W' => e = .returned (.bool b) ∧ RowKit.Below W.heap.size W W' := by
  have hz : ∀ {b i : Nat} {k : Blk}, look ((0, .many (fun j_ => some ⟨false, false, .ints (K j_) (G j_)⟩)) :: memS ls 1) b i = some k → ∃ l, phiG G ls' b i = some l ∧ l.own = false ∧ RB (phiG G ls') l k W := by
    intro b i k hk
    unfold look at hk
    simp only [ent] at hk
    by_cases hb : 0 = b
    · subst hb
      simp only [Nat.beq_refl, cond_true, Ent.at] at hk
      injection hk with hk
      subst hk
      refine ⟨⟨i, 0, (G i).length, false⟩, by simp [phiG], rfl, rfl, by show 0 + (G i).length ≤ (G i).length; omega, fun h => by simp at h, fun hp => ?_, fun j hj => ?_, fun h => by simp at h⟩
      · have hp : 0 < (G i).length := hp
        rcases hG i with e | ⟨t, f, e⟩
        · rw [e] at hp; simp at hp
        · exact ⟨t, by simp [World.shape?, e]⟩
      · have hj : j < (G i).length := hj
        rcases hG i with e | ⟨t, f, e⟩
        · rw [e] at hj; simp at hj
        · refine ⟨.int (K i) ((G i).getD j 0), ?_, rfl⟩
          simp only [World.cell?, e, Nat.zero_add]
          simp [List.getElem?_eq_getElem hj, List.getD_eq_getElem?_getD]
    · rw [beqF hb] at hk
      exact hat.look (fun b i hb => by have : ¬ b = 0 := by omega
                                       simp [phiG, this]) (by unfold look; exact hk)
  have hm : RM (phiG G ls') ((0, .many (fun j_ => some ⟨false, false, .ints (K j_) (G j_)⟩)) :: memS ls 1) W := by
    refine ⟨fun g => ⟨⟨g, 0, (G g).length, false⟩, by simp [phiG], rfl, rfl⟩, fun b i k hk => ?_, fun b i k1 x b' i' k2 x' hk hk' hx _ ho => ?_⟩
    · obtain ⟨l, h1, _, h3⟩ := hz hk
      exact ⟨l, h1, h3⟩
    · obtain ⟨l, h1, h2, _⟩ := hz hk
      rw [h1] at hx; injection hx with hx; subst hx
      rw [h2] at ho; cases ho
  have hf : Fresh (phiG G ls') N := by
    intro b hb i
    have := topS_le ls 1
    have e0 : ¬ b = 0 := by omega
    simp only [phiG, if_neg e0]
    exact hat.fresh b (by omega) i
  refine (h (phiG G ls') W vals hm hf hv).mono ?_
  rintro e W' ⟨v, φ', he, hr, S⟩
  have : v = .bool b := hr
  subst this
  refine ⟨he, ⟨S.keeps.os, S.keeps.tape, S.keeps.output, S.keeps.size, fun q hq => S.keeps.block q hq ?_⟩⟩
  rintro ⟨b, i, k1, x, _, hk, hx, ho, _⟩
  obtain ⟨l, h1, h2, _⟩ := hz hk
  rw [h1] at hx; injection hx with hx; subst hx
  rw [h2] at ho; cases ho
end Go.Proofs.YtmfnldkiaodkpaaDoor.Vm
