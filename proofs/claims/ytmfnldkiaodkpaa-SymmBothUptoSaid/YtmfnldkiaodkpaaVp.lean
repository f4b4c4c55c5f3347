/- What functions of the program come to: parts of the walk (Vp). -/
import Derived.Test.YtmfnldkiaodkpaaVmb
import Derived.Test.YtmfnldkiaodkpaaVmc
import Derived.Deep.SlicePairs
set_option linter.unusedSimpArgs false
set_option linter.unusedVariables false
namespace Go.Proofs.Ytmfnldkiaodkpaa.Vm
open Go
theorem CodeOk.post {P : Program} {nt n0 : Nat} {k : K} {s s0 s1 : S0} {x : Ex} (v : SView) (hok : v.ok n0 = true) (hv : v.app n0 s = s1) (h : CodeOk P nt n0 k s0 x s) : CodeOk P nt n0 k s0 x s1 := by
  subst hv
  intro Γ c hP hnt hn0 hf0 hc φ a w R hf
  refine wp_mono (h Γ c hP hnt hn0 hf0 hc φ a w R hf) ?_
  rintro e a' w' ⟨x', s'', φ', q1, ⟨rfl, rfl⟩, q3, q4⟩
  obtain ⟨q5, q6⟩ := q3.view (nx := s''.nx) v hok hn0 hf0
  exact ⟨x', _, _, q1, ⟨rfl, rfl⟩, q5, q6⟩
end Go.Proofs.Ytmfnldkiaodkpaa.Vm

namespace Go.Proofs.Ytmfnldkiaodkpaa.Vm
open Go
def SrcP (W : World) (kw k : IntKind) (N : Nat) (wh : Nat → Int) (ln : Nat → Nat) (T : Nat → List Int) (len cap : Nat) (a : Option Addr) : Prop :=
  (∀ r, N ≤ r → T r = [] ∧ ln r = 0) ∧ ((a = none ∧ N = 0 ∧ len = 0 ∧ cap = 0) ∨ ∃ (x : Addr) (A : Nat → Option Addr) (C : Nat → Nat), a = some x ∧ len ≤ cap ∧ N = cap ∧ ∀ r, r < cap → W.cell? (x.add (r * 2)) = some (.int kw (wh r)) ∧ W.cell? (x.add (r * 2 + 1)) = some (.slice (A r) (ln r) (C r)) ∧ Src W k (T r) (ln r) (C r) (A r))
theorem SrcP.le {W : World} {kw k : IntKind} {N : Nat} {wh : Nat → Int} {ln : Nat → Nat} {T : Nat → List Int} {len cap : Nat} {a : Option Addr} (h : SrcP W kw k N wh ln T len cap a) : len ≤ N := by
  rcases h.2 with ⟨_, rfl, rfl, _⟩ | ⟨_, _, _, _, h1, rfl, _⟩
  · exact Nat.le_refl _
  · omega
theorem SrcP.lens {W : World} {kw k : IntKind} {N : Nat} {wh : Nat → Int} {ln : Nat → Nat} {T : Nat → List Int} {len cap : Nat} {a : Option Addr} (h : SrcP W kw k N wh ln T len cap a) (r : Nat) : ln r ≤ (T r).length := by
  by_cases hr : N ≤ r
  · rw [(h.1 r hr).2]; exact Nat.zero_le _
  · rcases h.2 with ⟨_, rfl, _, _⟩ | ⟨_, _, _, _, _, rfl, hx⟩
    · omega
    · have := ((hx r (by omega)).2.2).le; omega
def AtP (W : World) (l : LocR) (kw k : IntKind) (N : Nat) (wh : Nat → Int) (ln : Nat → Nat) (T : Nat → List Int) (d : Nat) : Prop :=
  l.head.own = false ∧ (∀ r, At W (l.row r) k (T r)) ∧ ∀ φ : Phi, (∀ r, φ (d + 1) r = some (l.row r)) → RB φ l.head ⟨false, false, .row (N * 2) 2 fun j => [.int kw (wh j), .sl (d + 1) j 0 (ln j) 1]⟩ W
theorem SrcP.loc {W : World} {kw k : IntKind} {N : Nat} {wh : Nat → Int} {ln : Nat → Nat} {T : Nat → List Int} {len cap : Nat} {a : Option Addr} (h : SrcP W kw k N wh ln T len cap a) (d : Nat) :
    ∃ l : LocR, AtP W l kw k N wh ln T d ∧ ∀ (φ : Phi), φ d 0 = some l.head → RV φ (.c (.sl d 0 0 len 2)) (.slice a len cap) := by
  obtain ⟨hout, h⟩ := h
  have dummy : ∀ zs : List Int, zs = [] → At W ⟨0, 0, 0, false⟩ k zs := by
    rintro _ rfl
    refine ⟨rfl, fun φ => ⟨rfl, Nat.le_refl _, fun h => by simp at h, fun h => by simp at h, fun j hj => ?_, fun h => by simp at h⟩⟩
    have : j < 0 := hj
    omega
  have none' : N = 0 → AtP W ⟨⟨0, 0, 0, false⟩, fun _ => ⟨0, 0, 0, false⟩⟩ kw k N wh ln T d := by
    rintro rfl
    refine ⟨rfl, fun r => dummy _ (hout r (Nat.zero_le _)).1, fun φ _ => ⟨rfl, by show 0 + 0 * 2 ≤ 0; omega, fun h => by simp at h, fun h => by simp at h, fun j hj => ?_, fun h => by simp at h⟩⟩
    have : j < 0 * 2 := hj
    omega
  rcases h with ⟨rfl, hN, rfl, rfl⟩ | ⟨x, A, C, rfl, hl, hNc, hx⟩
  · exact ⟨_, none' hN, fun φ hd => ⟨none, 0, rfl, Nat.le_refl _, .inl rfl⟩⟩
  · subst hNc
    by_cases hc : N = 0
    · exact ⟨_, none' hc, fun φ hd => ⟨some x, N, rfl, hl, .inl hc⟩⟩
    · have hrow : ∀ r, ∃ l : Loc, At W l k (T r) ∧ (r < N → ∀ (φ : Phi) (d i : Nat), φ d i = some l → RV φ (.c (.sl d i 0 (ln r) 1)) (.slice (A r) (ln r) (C r))) := by
        intro r
        by_cases hr : r < N
        · obtain ⟨l, h1, h2⟩ := ((hx r hr).2.2).locI
          exact ⟨l, h1, fun _ => h2⟩
        · exact ⟨_, dummy _ (hout r (by omega)).1, fun h => absurd h hr⟩
      let row := fun r => Classical.choose (hrow r)
      have hrow' : ∀ r, At W (row r) k (T r) ∧ (r < N → ∀ (φ : Phi) (d i : Nat), φ d i = some (row r) → RV φ (.c (.sl d i 0 (ln r) 1)) (.slice (A r) (ln r) (C r))) := fun r => Classical.choose_spec (hrow r)
      have h0 := (hx 0 (by omega)).1
      have hlast := (hx (N - 1) (by omega)).2.1
      have h0 : W.cell? x = some (.int kw (wh 0)) := h0
      have key : ∃ c T fr, W.heap[x.block]? = some (.cells c T fr) ∧ x.spot = none := by
        unfold World.cell? at h0
        split at h0
        · rename_i c T fr hh
          refine ⟨c, T, fr, hh, ?_⟩
          cases hs : x.spot with
          | none => rfl
          | some s => rw [hs] at h0; simp at h0
        · simp at h0
      obtain ⟨c, TT, fr, hh, hs⟩ := key
      obtain ⟨xb, xo, xs⟩ := x
      dsimp only at hs hh
      subst hs
      have hsz : xo + ((N - 1) * 2 + 1) < c.size := by
        rw [addr_add0] at hlast
        unfold World.cell? at hlast
        simp only [hh] at hlast
        simp at hlast
        exact (Array.getElem?_eq_some_iff.mp hlast).1
      refine ⟨⟨⟨xb, xo, c.size, false⟩, row⟩, ⟨rfl, fun r => (hrow' r).1, fun φ hφ => ⟨rfl, ?_, fun h => by simp at h, fun _ => ⟨TT, by simp [World.shape?, hh]⟩, fun j hj => ?_, fun h => by simp at h⟩⟩, fun φ hφ => ⟨_, N, rfl, hl, .inr ⟨_, hφ, rfl, fun h => by simp at h⟩⟩⟩
      · show xo + N * 2 ≤ c.size
        omega
      · have hj' : j < N * 2 := hj
        have hq : j / 2 < N := by omega
        obtain ⟨h1, h2, _⟩ := hx (j / 2) hq
        rw [addr_add0] at h1 h2
        rcases (by omega : j % 2 = 0 ∨ j % 2 = 1) with e | e
        · have ej : j / 2 * 2 = j := by omega
          rw [ej] at h1
          refine ⟨_, h1, ?_⟩
          show RC φ (List.getD [Vm.C.int kw (wh (j / 2)), Vm.C.sl (d + 1) (j / 2) 0 (ln (j / 2)) 1] (j % 2) .unk) _
          rw [e]
          rfl
        · have ej : j / 2 * 2 + 1 = j := by omega
          rw [ej] at h2
          refine ⟨_, h2, ?_⟩
          show RC φ (List.getD [Vm.C.int kw (wh (j / 2)), Vm.C.sl (d + 1) (j / 2) 0 (ln (j / 2)) 1] (j % 2) .unk) _
          rw [e]
          exact (hrow' (j / 2)).2 hq φ (d + 1) (j / 2) (hφ _)
section
open Go.ChangeShapes Go.WideShapes Go.ChangeAt Go.RowKit Go.Deep
variable {H : Type} {enc : TypeId × Value → H} {P : Program} {t e q u : TypeId} {kw k : IntKind} {W : World} {base : Nat} {held : Bool}
theorem trod_int1 {sp : Nat → Bool} {fuel : Nat} {c : Value} {y : DataW H × List MemPlace} (he : P.underlying e = some (.int k)) (h : DataW.trod enc P W base sp held fuel e [c] = some y) : ∃ n, c = .int k n ∧ (Lit.int k n).wf = true := by
  cases fuel with
  | zero => simp [DataW.trod] at h
  | succ fuel =>
    cases c <;> simp [DataW.trod, he] at h
    rename_i k' n
    obtain ⟨⟨rfl, h1⟩, rfl⟩ := h
    exact ⟨n, rfl, h1⟩
theorem open_srcP {f0 f1 : Field} {fuel : Nat} {a : Option Addr} {len cap : Nat} {x : DataW H × List MemPlace} (ht : P.underlying t = some (.slice e)) (he : P.underlying e = some (.struct #[f0, f1])) (ce : P.cellsOf e = 2)
    (o0 : f0.offset = 0) (o1 : f1.offset = 1) (c0 : P.cellsOf f0.type = 1) (c1 : P.cellsOf f1.type = 1) (h0 : P.underlying f0.type = some (.int kw)) (h1 : P.underlying f1.type = some (.slice q)) (hq : P.underlying q = some (.int k)) (cq : P.cellsOf q = 1)
    (h : DataW.trod enc P W base (fun _ => true) held fuel t (Value.slice a len cap).cells.toList = some x) :
    ∃ (N : Nat) (wh : Nat → Int) (ln : Nat → Nat) (T : Nat → List Int), SrcP W kw k N wh ln T len cap a ∧ (∀ r, (Lit.int kw (wh r)).wf = true) ∧ (∀ r, ∀ n ∈ T r, (Lit.int k n).wf = true) ∧
      (N = 0 ∨ ∃ (E S : List (DataW H)), x.1 = .slice E S ∧ E.length = len ∧ ∀ r, T r = [] ∨ ∃ z y : DataW H, (z ∈ E ∨ z ∈ S) ∧ z = .agg [y, .slice (lits k ((T r).take (ln r))) (lits k ((T r).drop (ln r)))]) := by
  have hw0 : (Lit.int kw 0).wf = true := by cases kw <;> decide
  rcases open_slice_pairs ht he ce o0 o1 c0 c1 h with ⟨hcs, _⟩ | ⟨x0, len', cap', m, n, V0, V1, D0, D1, P0, P1, hcs, _, hl, hm, hmm, hx, hr⟩
  · simp [Value.cells] at hcs
    obtain ⟨rfl, rfl, rfl⟩ := hcs
    exact ⟨0, fun _ => 0, fun _ => 0, fun _ => [], ⟨fun _ _ => ⟨rfl, rfl⟩, .inl ⟨rfl, rfl, rfl, rfl⟩⟩, fun _ => hw0, by simp, .inl rfl⟩
  · simp [Value.cells] at hcs
    obtain ⟨rfl, rfl, rfl⟩ := hcs
    simp only [if_true] at hmm
    subst hmm
    have each : ∀ r, r < m → ∃ s : Int × Nat × Nat × Option Addr × List Int, V0 r = .int kw s.1 ∧ (Lit.int kw s.1).wf = true ∧ V1 r = .slice s.2.2.2.1 s.2.1 s.2.2.1 ∧ Src W k s.2.2.2.2 s.2.1 s.2.2.1 s.2.2.2.1 ∧ (∀ n ∈ s.2.2.2.2, (Lit.int k n).wf = true) ∧ (s.2.2.2.2 = [] ∨ D1 r = .slice (lits k (s.2.2.2.2.take s.2.1)) (lits k (s.2.2.2.2.drop s.2.1))) := by
      intro r hr'
      obtain ⟨e1, e2, e3, e4⟩ := hr r hr'
      obtain ⟨w, hw, hwf⟩ := trod_int1 h0 e3
      rcases open_ints h1 hq cq e4 with ⟨hv, _⟩ | ⟨x1, l1, cc, zs, hv, _, hl1, hm1, hz, hxx, hcell, hwz⟩
      · have hv : V1 r = .slice none 0 0 := by injection hv
        exact ⟨(w, 0, 0, none, []), hw, hwf, hv, .inl ⟨rfl, rfl, rfl, rfl⟩, by simp, .inl rfl⟩
      · have hv : V1 r = .slice (some x1) l1 cc := by injection hv
        refine ⟨(w, l1, cc, some x1, zs), hw, hwf, hv, .inr ⟨x1, rfl, hl1, by simpa using hz, hcell⟩, hwz, .inr ?_⟩
        injection hxx
    let s := fun r => if hr' : r < m then Classical.choose (each r hr') else (0, 0, 0, none, [])
    have hs : ∀ r, r < m → V0 r = .int kw (s r).1 ∧ (Lit.int kw (s r).1).wf = true ∧ V1 r = .slice (s r).2.2.2.1 (s r).2.1 (s r).2.2.1 ∧ Src W k (s r).2.2.2.2 (s r).2.1 (s r).2.2.1 (s r).2.2.2.1 ∧ (∀ n ∈ (s r).2.2.2.2, (Lit.int k n).wf = true) ∧ ((s r).2.2.2.2 = [] ∨ D1 r = .slice (lits k ((s r).2.2.2.2.take (s r).2.1)) (lits k ((s r).2.2.2.2.drop (s r).2.1))) := by
      intro r hr'
      show _ ∧ _
      simp only [s, dif_pos hr']
      exact Classical.choose_spec (each r hr')
    have hs' : ∀ r, ¬ r < m → s r = (0, 0, 0, none, []) := fun r hr' => by simp only [s, dif_neg hr']
    refine ⟨m, fun r => (s r).1, fun r => (s r).2.1, fun r => (s r).2.2.2.2, ⟨fun r hr' => ?_, .inr ⟨x0, fun r => (s r).2.2.2.1, fun r => (s r).2.2.1, rfl, hl, rfl, fun r hrc => ?_⟩⟩, fun r => ?_, fun r n hn => ?_, .inr ⟨_, _, by rw [hx], by simp, fun r => ?_⟩⟩
    · have := hs' r (by omega)
      simp [this]
    · obtain ⟨e1, e2, _⟩ := hr r hrc
      obtain ⟨g1, _, g3, g4, _⟩ := hs r hrc
      exact ⟨by rw [e1, g1], by rw [e2, g3], g4⟩
    · by_cases hrc : r < m
      · exact (hs r hrc).2.1
      · show (Lit.int kw (s r).1).wf = true
        rw [hs' r hrc]; exact hw0
    · by_cases hrc : r < m
      · exact (hs r hrc).2.2.2.2.1 n hn
      · have hn : n ∈ (s r).2.2.2.2 := hn
        rw [hs' r hrc] at hn; simp at hn
    · by_cases hrc : r < m
      · rcases (hs r hrc).2.2.2.2.2 with h | h
        · exact .inl h
        · refine .inr ⟨.agg [D0 r, D1 r], D0 r, ?_, by rw [h]⟩
          by_cases hrl : r < len
          · exact .inl (List.mem_map.2 ⟨r, List.mem_range.2 hrl, rfl⟩)
          · refine .inr (List.mem_map.2 ⟨r - len, List.mem_range.2 (by omega), ?_⟩)
            have : len + (r - len) = r := by omega
            rw [this]
      · left; show (s r).2.2.2.2 = []; rw [hs' r hrc]
end
end Go.Proofs.Ytmfnldkiaodkpaa.Vm
