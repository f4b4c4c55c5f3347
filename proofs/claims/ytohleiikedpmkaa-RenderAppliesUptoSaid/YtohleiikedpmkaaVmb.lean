/- A symbolic machine for a loaded program: runs, calls, loops, rows. -/
import Derived.Test.YtohleiikedpmkaaVma
import Derived.LoopN
import Derived.Below
import Derived.Carry
import Derived.WideKeyArr2
import Derived.Laws.BitsAllLaws
set_option linter.unusedSimpArgs false
set_option linter.unusedVariables false
namespace Go.Proofs.Ytohleiikedpmkaa.Vm
open Go
variable {P : Program} {o : Oper} {a : Act} {w : World} {φ : Phi} {m : Mem} {nid : Nat} {e : Eff} {T : Nat → V}
theorem memN_iff {b : Nat} : ∀ {l : List Nat}, memN b l = true ↔ b ∈ l
  | [] => by simp [memN]
  | c :: r => by
    unfold memN
    by_cases h : c = b
    · subst h; simp
    · have h2 : ¬ b = c := fun h' => h h'.symm
      simp [beqF h, memN_iff (l := r), h2]
theorem memN_false {b : Nat} {l : List Nat} : memN b l = false ↔ b ∉ l := by
  rw [← memN_iff]; cases memN b l <;> simp
theorem ent_putE : ∀ (m : Mem) (b : Nat) (e : Ent) (b' : Nat), ent (putE m b e) b' = if b' = b then some e else ent m b'
  | [], b, e, b' => by
    simp only [putE, ent_one]
    split <;> simp [ent]
  | (c, e') :: r, b, e, b' => by
    unfold putE
    by_cases h : c = b
    · subst h
      simp only [Nat.beq_refl, cond_true, ent]
      by_cases h' : b' = c
      · subst h'; simp
      · simp [h', beqF (fun h => h' (h.symm))]
    · simp only [beqF h, cond_false, ent, ent_putE r b e b']
      by_cases h' : c = b'
      · subst h'
        simp [h]
      · simp [beqF h']
theorem ent_delE : ∀ (m : Mem) (b b' : Nat), ent (delE m b) b' = if b' = b then none else ent m b'
  | [], b, b' => by simp [delE, ent]
  | (c, e') :: r, b, b' => by
    unfold delE
    by_cases h : c = b
    · subst h
      simp only [Nat.beq_refl, cond_true, ent, ent_delE r c b']
      by_cases h' : b' = c
      · subst h'; simp
      · simp [h', beqF (fun h => h' (h.symm))]
    · simp only [beqF h, cond_false, ent, ent_delE r b b']
      by_cases h' : c = b'
      · subst h'
        simp [h]
      · simp [beqF h']
theorem ent_delAll : ∀ (l : List Nat) (m : Mem) (b : Nat), ent (delAll l m) b = if b ∈ l then none else ent m b
  | [], m, b => by simp [delAll]
  | c :: r, m, b => by
    rw [delAll, ent_delAll r, ent_delE]
    by_cases h : b = c
    · subst h; simp
    · simp [h]
theorem ent_none_of_keys : ∀ {m : Mem} {b : Nat}, b ∉ keysOf m → ent m b = none
  | [], _, _ => rfl
  | (c, e) :: r, b, h => by
    simp only [keysOf, List.mem_cons, not_or] at h
    simp only [ent, beqF (fun h' => h.1 h'.symm), cond_false]
    exact ent_none_of_keys h.2
theorem ent_some_keys {m : Mem} {b : Nat} {e : Ent} (h : ent m b = some e) : b ∈ keysOf m := by
  by_cases hb : b ∈ keysOf m
  · exact hb
  · rw [ent_none_of_keys hb] at h; simp at h
theorem ent_putAll : ∀ (u m : Mem) (b : Nat), nodupN (keysOf u) = true → ent (putAll u m) b = if b ∈ keysOf u then ent u b else ent m b
  | [], m, b, _ => by simp [putAll, keysOf]
  | (c, e) :: r, m, b, h => by
    simp only [keysOf, nodupN, Bool.and_eq_true, Bool.not_eq_true', memN_false] at h
    rw [putAll, ent_putAll r _ b h.2, ent_putE]
    simp only [keysOf, List.mem_cons, ent]
    by_cases hb : b = c
    · subst hb
      simp [h.1]
    · simp [hb, beqF (fun h => hb h.symm)]
theorem subN_iff : ∀ {l k u : List Nat}, subN l k u = true → ∀ b ∈ l, b ∈ k ∨ b ∈ u
  | [], _, _, _, b, h => by simp at h
  | c :: r, k, u, h, b, hb => by
    simp only [subN, Bool.and_eq_true, Bool.or_eq_true, memN_iff] at h
    rcases List.mem_cons.1 hb with rfl | hb
    · exact h.1
    · exact subN_iff h.2 b hb
theorem ent_app (h : effOk e = true) (b : Nat) : ent (e.app m) b = if b ∈ keysOf e.up then ent e.up b else if b ∈ e.kill then none else ent m b := by
  simp only [effOk, Bool.and_eq_true] at h
  rw [Eff.app, ent_putAll _ _ _ h.1, ent_delAll]
theorem look_app (h : effOk e = true) (b i : Nat) : look (e.app m) b i = if b ∈ keysOf e.up then look e.up b i else if b ∈ e.kill then none else look m b i := by
  unfold look
  rw [ent_app h]
  by_cases h1 : b ∈ keysOf e.up
  · simp [h1]
  · by_cases h2 : b ∈ e.kill <;> simp [h1, h2]
theorem look_keys {u : Mem} {b i : Nat} {k : Blk} (h : look u b i = some k) : b ∈ keysOf u := by
  unfold look at h
  split at h
  · simp at h
  · rename_i e he; exact ent_some_keys he
theorem RB.keep {φ φ' : Phi} {l : Loc} {k : Blk} {w w' : World} (H : RB φ l k w) (hle : φ.le φ') (hh : 0 < l.sz → w'.heap[l.r]? = w.heap[l.r]?) : RB φ' l k w' := by
  refine ⟨H.own, H.fits, H.exact, fun h => ?_, fun j hj => ?_, fun h j hj => ?_⟩
  · obtain ⟨T, hT⟩ := H.there h
    exact ⟨T, by simp only [World.shape?, hh h] at hT ⊢; exact hT⟩
  · have hz : 0 < l.sz := by have := H.fits; omega
    obtain ⟨v, hv, hr⟩ := H.cell j hj
    exact ⟨v, by simp only [World.cell?, hh hz] at hv ⊢; exact hv, hr.mono hle⟩
  · have hz : 0 < l.sz := by omega
    have := H.free h j hj
    simp only [World.frozen?, hh hz] at this ⊢
    exact this
theorem RM.step {φ' : Phi} {m0 : Mem} {w' : World} (hm : RM φ m w) (hsub : ∀ b i k, look m0 b i = some k → look m b i = some k) (S : Step φ φ' m0 e.up e.wr nid w w') (hok : effOk e = true) : RM φ' (e.app m) w' := by
  have hwr : ∀ b ∈ e.wr, b ∈ e.kill ∨ b ∈ keysOf e.up := by
    simp only [effOk, Bool.and_eq_true] at hok
    exact subN_iff hok.2
  have hlt : ∀ b i k l, look m b i = some k → φ b i = some l → 0 < l.sz → l.r < w.heap.size := by
    intro b i k l h1 h2 h3
    obtain ⟨l', hl', H⟩ := hm.blk _ _ _ h1
    rw [h2] at hl'; injection hl' with hl'; subst hl'
    obtain ⟨TT, hT⟩ := H.there h3
    exact heap_lt_of_shape hT
  have hold : ∀ {b i k}, look (e.app m) b i = some k → b ∉ keysOf e.up → b ∉ e.wr ∧ look m b i = some k := by
    intro b i k h hb
    rw [look_app hok, if_neg hb] at h
    by_cases hk : b ∈ e.kill
    · simp [hk] at h
    · rw [if_neg hk] at h
      exact ⟨fun hw => (hwr b hw).elim hk hb, h⟩
  have hnew : ∀ {b i k}, look (e.app m) b i = some k → b ∈ keysOf e.up → look e.up b i = some k := by
    intro b i k h hb
    rwa [look_app hok, if_pos hb] at h
  have hup : ∀ {b i k l b' i' k' l'}, look e.up b i = some k → φ' b i = some l → 0 < l.sz → b' ∉ keysOf e.up → b' ∉ e.wr → look m b' i' = some k' → φ b' i' = some l' → 0 < l'.sz → (l.own = true ∨ l'.own = true) → l.r ≠ l'.r := by
    intro b i k l b' i' k' l' h1 h2 h3 h4 h5 h6 h7 h8 ho heq
    rcases S.src b i k l h1 h2 h3 with hn | ⟨b0, i0, k0, l0, hb0, hk0, hl0, ho0, hz0, hr0⟩ | ⟨k0, hk0, hl0⟩
    · have := hlt _ _ _ _ h6 h7 h8; omega
    · have := hm.inj _ _ _ _ _ _ _ _ (hsub _ _ _ hk0) h6 hl0 h7 ho0 hz0 h8 (hr0.trans heq)
      exact h5 (this.1 ▸ hb0)
    · rcases ho with ho | ho
      · have := hm.inj _ _ _ _ _ _ _ _ (hsub _ _ _ hk0) h6 hl0 h7 ho h3 h8 heq
        exact h4 (this.1 ▸ look_keys h1)
      · have := hm.inj _ _ _ _ _ _ _ _ h6 (hsub _ _ _ hk0) h7 hl0 ho h8 h3 heq.symm
        exact h4 (this.1.symm ▸ look_keys h1)
  refine ⟨fun g => ?_, fun b i k h => ?_, fun b i k l b' i' k' l' h h' hl hl' ho hz hz' heq => ?_⟩
  · obtain ⟨l, h1, h2⟩ := hm.glob g
    exact ⟨l, S.le _ _ _ h1, h2⟩
  · by_cases hb : b ∈ keysOf e.up
    · exact S.blk _ _ _ (hnew h hb)
    · obtain ⟨hw, hk⟩ := hold h hb
      obtain ⟨l, hl, H⟩ := hm.blk _ _ _ hk
      refine ⟨l, S.le _ _ _ hl, H.keep S.le fun hz => S.keeps.block _ (hlt _ _ _ _ hk hl hz) ?_⟩
      rintro ⟨b0, i0, k0, l0, hb0, hk0, hl0, ho0, hz0, hr0⟩
      have := hm.inj _ _ _ _ _ _ _ _ (hsub _ _ _ hk0) hk hl0 hl ho0 hz0 hz hr0
      exact hw (this.1 ▸ hb0)
  · have back : ∀ {b i k l}, look m b i = some k → φ' b i = some l → φ b i = some l := by
      intro b i k l h1 h2
      obtain ⟨l1, hl1, _⟩ := hm.blk _ _ _ h1
      have := S.le _ _ _ hl1
      rw [h2] at this
      rw [hl1, this]
    by_cases hb : b ∈ keysOf e.up
    · by_cases hb' : b' ∈ keysOf e.up
      · exact S.inj _ _ _ _ _ _ _ _ (hnew h hb) (hnew h' hb') hl hl' ho hz hz' heq
      · obtain ⟨hw', hk'⟩ := hold h' hb'
        exact absurd heq (hup (hnew h hb) hl hz hb' hw' hk' (back hk' hl') hz' (.inl ho))
    · obtain ⟨hw, hk⟩ := hold h hb
      by_cases hb' : b' ∈ keysOf e.up
      · exact absurd heq.symm (hup (hnew h' hb') hl' hz' hb hw hk (back hk hl) hz (.inr ho))
      · obtain ⟨hw', hk'⟩ := hold h' hb'
        exact hm.inj _ _ _ _ _ _ _ _ hk hk' (back hk hl) (back hk' hl') ho hz hz' heq
theorem restr_sub : ∀ {ids : List Nat} {b i : Nat} {k : Blk}, look (restr m ids) b i = some k → look m b i = some k := by
  have key : ∀ (ids : List Nat) (b : Nat) (e : Ent), ent (restr m ids) b = some e → ent m b = some e := by
    intro ids
    induction ids with
    | nil => intro b e h; simp [restr, ent] at h
    | cons c r ih =>
      intro b e h
      unfold restr at h
      split at h
      · rename_i e' he'
        unfold ent at h
        by_cases hc : c = b
        · subst hc; simp at h; subst h; exact he'
        · simp only [beqF hc, cond_false] at h; exact ih b e h
      · exact ih b e h
  intro ids b i k h
  unfold look at h ⊢
  split at h
  · simp at h
  · rename_i e he; rw [key _ _ _ he]; exact h
theorem RM.sub {m0 : Mem} (hm : RM φ m w) (hsub : ∀ b i k, look m0 b i = some k → look m b i = some k) : RM φ m0 w :=
  ⟨hm.glob, fun b i k h => hm.blk b i k (hsub _ _ _ h), fun b i k l b' i' k' l' h h' => hm.inj b i k l b' i' k' l' (hsub _ _ _ h) (hsub _ _ _ h')⟩
theorem vvs_rel (hE : EV φ T a) : ∀ {l : List Operand} {r : List Opd}, All2 (fun y x => cOpd x = some y) r l → All2 (RV φ) (vvs T r) (l.map a.eval)
  | _, _, .nil => .nil
  | _, _, .cons h t => .cons (hE _ _ h) (vvs_rel hE t)
theorem ptrs_rel : ∀ {caps : List (Nat × Nat × Nat)} {vs : List Value}, All2 (RP φ) caps vs → All2 (RV φ) (ptrs caps) vs
  | _, _, .nil => .nil
  | _, _, .cons h t => .cons (rv_c h) (ptrs_rel t)
def I.isCall : I → Bool
  | .call _ _ | .callv _ _ => true
  | _ => false
theorem bifN {α : Type} {b : Bool} {x : Option α} {y : α} (h : (bif b then none else x) = some y) : b = false ∧ x = some y := by
  cases b
  · exact ⟨rfl, h⟩
  · simp at h
theorem bif2 {α : Type} {b : Bool} {x z : Option α} {y : α} (h : (bif b then x else z) = some y) : x = some y ∨ z = some y := by
  cases b
  · exact .inr h
  · exact .inl h
theorem cOp_isCall {op : Op} {ty : Nat} {i : I} (h : cOp P op ty = some i) : (∃ c, op = .call c) ∨ i.isCall = false := by
  cases op <;> simp only [cOp] at h
  case call c => exact .inl ⟨c, rfl⟩
  case binOp op t x y u =>
    right
    split at h
    · injection h with h; subst h; rfl
    · injection h with h; subst h; rfl
    · split at h
      · rcases bif2 h with h | h
        · split at h
          · obtain ⟨_, h⟩ := bifN h; injection h with h; subst h; rfl
          · simp at h
        · split at h
          · injection h with h; subst h; rfl
          · simp at h
      · rcases bif2 h with h | h
        · split at h
          · obtain ⟨_, h⟩ := bifN h; injection h with h; subst h; rfl
          · simp at h
        · split at h
          · injection h with h; subst h; rfl
          · simp at h
      · simp at h
    · simp at h
  case slice t x lo hi mx =>
    right
    cases mx <;> simp only at h
    case none =>
      split at h
      · split at h
        · injection h with h; subst h; rfl
        · simp at h
      · split at h
        · injection h with h; subst h; rfl
        · simp at h
      · injection h with h; subst h; rfl
      · simp at h
    all_goals simp at h
  case makeFunc f fi ca =>
    right
    cases f <;> simp only at h
    case func f =>
      split at h
      · injection h with h; subst h; rfl
      · simp at h
    all_goals simp at h
  case fieldAddr t x f =>
    right
    split at h
    · split at h
      · split at h
        · obtain ⟨_, h⟩ := bifN h; injection h with h; subst h; rfl
        · simp at h
      · simp at h
    · simp at h
  case buildSlice t n ps =>
    right
    split at h
    · split at h
      · split at h
        · obtain ⟨_, h⟩ := bifS h; injection h with h; subst h; rfl
        · simp at h
      · simp at h
    · simp at h
  case makeSlice t x y =>
    right
    split at h
    · split at h
      · obtain ⟨_, h⟩ := bifS h; injection h with h; subst h; rfl
      · simp at h
    · simp at h
  case convert s d x =>
    right
    split at h
    · injection h with h; subst h; rfl
    · split at h
      · injection h with h; subst h; rfl
      · simp at h
    · split at h
      · injection h with h; subst h; rfl
      · simp at h
    · unfold cvsOp at h
      split at h
      · split at h
        · obtain ⟨_, h⟩ := bifS h; injection h with h; subst h; rfl
        · simp at h
      · simp at h
  all_goals right
  all_goals first
    | (simp at h; done)
    | (injection h with h; subst h; rfl)
    | (split at h <;> first | (injection h with h; subst h; rfl) | (simp at h; done) | (split at h <;> first | (injection h with h; subst h; rfl) | (simp at h; done) | (split at h <;> first | (injection h with h; subst h; rfl) | (simp at h; done))))
theorem vins_sound {i : I} {h : H} (hc : cOp P o.op o.type = some i) (hf : ∀ b, nid ≤ b → b < nid + WW → ∀ j, φ b j = none) (hE : EV φ T a) (hm : RM φ m w) (hv : vins P i T m nid h = some e) (hcs : ∀ q ∈ e.cs, q)
    (next : Act → World → Prop) (Q : Exit → Act → World → Prop) (hn : ∀ φ' v w' m0, (∀ b i k, look m0 b i = some k → look m b i = some k) → Step φ φ' m0 e.up e.wr nid w w' → RV φ' e.v v → next (a.put o.dst v) w') : o.wp P a w next Q := by
  have hf0 : ∀ j, φ nid j = none := hf nid (Nat.le_refl _) (by unfold WW; omega)
  have plain : vop i T m nid h = some e → o.wp P a w next Q := by
    intro h1
    obtain ⟨v, w', φ', hr, hv', hS⟩ := vop_sound hc hf0 hE hm h1 hcs
    unfold Oper.wp
    rw [hr]
    exact hn φ' v w' m (fun _ _ _ h => h) hS hv'
  have callc : ∀ (f : Nat) (vals : List Value) (args : List V), vcall P f args m nid h = some e → All2 (RV φ) args vals → (execOp a.eval o).run P w = .ok (.enter f vals.toArray) w → o.wp P a w next Q := by
    intro f vals args h1 h2 h3
    unfold vcall at h1
    split at h1
    · rename_i ids res kill up
      injection h1 with h1
      subst h1
      have hC : Contract P f args (restr m ids) nid res kill up := hcs _ (by simp)
      have := hC φ w vals (hm.sub fun _ _ _ h => restr_sub h) hf h2
      unfold Oper.wp
      rw [h3]
      show Calls P f vals.toArray w _
      refine this.mono ?_
      rintro e' w' ⟨v, φ', rfl, hv', hS⟩
      exact hn φ' v w' _ (fun _ _ _ h => restr_sub h) hS hv'
    · simp at h1
  have entered : ∀ f vals, callable P f = true → (callFunc f vals).run P w = .ok (.enter f vals) w := by
    intro f vals hcall
    unfold callable at hcall
    split at hcall
    · rename_i fn hfn
      simp only [Bool.and_eq_true, bne_iff_ne, ne_eq] at hcall
      obtain ⟨body, hb⟩ := Option.isSome_iff_exists.1 hcall.1
      simp [callFunc, hfn, hcall.2, hb]
    · simp at hcall
  rcases cOp_isCall hc with ⟨c, hop⟩ | hno
  · have hcc : cCall P c o.type = some i := by rw [hop] at hc; simpa [cOp] using hc
    unfold cCall at hcc
    split at hcc
    · rename_i f hcal
      split at hcc
      · rename_i fn l hfn hl
        rcases bif2 hcc with h1 | h1
        · cases hb : (fn.body.isSome && (fn.name != "runtime.NumGoroutine")) with
          | false =>
            rw [hb] at hcc
            simp only [cond_false] at hcc
            injection h1 with h1
            subst h1
            split at hcc
            · obtain ⟨_, hcc⟩ := bifS hcc; injection hcc with hcc; cases hcc
            · simp at hcc
          | true =>
            injection h1 with h1
            subst h1
            simp only [vins] at hv
            refine callc f _ _ hv (vvs_rel hE (mapO_all2 hl)) ?_
            have hcb : callable P f = true := by simp [callable, hfn]; simpa using hb
            have e0 : a.eval (.func f) = .func (.func f) #[] #[] := rfl
            simp only [execOp, hop, resolve, hcal, e0, Deferred.ofValue, Sem.run_bind, Sem.run_pure, Result.andThen_ok, invoke, entered _ _ hcb]
            congr 2
            apply Array.ext'
            simp
        · split at h1
          · obtain ⟨_, h1⟩ := bifS h1; injection h1 with h1; subst h1; exact plain hv
          · simp at h1
      · simp at hcc
    · rename_i x _ hcal
      split at hcc
      · rename_i y l hy hl
        injection hcc with hcc
        subst hcc
        simp only [vins] at hv
        split at hv
        · rename_i f caps hfn
          obtain ⟨hcb, hv⟩ := bifS hv
          have h1 := hE x y hy
          rw [hfn] at h1
          simp only [RV, RV1, RC] at h1
          obtain ⟨vs, hval, hcaps⟩ := h1
          refine callc f ((c.args.toList.map a.eval) ++ vs.toList) _ hv ((vvs_rel hE (mapO_all2 hl)).append (ptrs_rel hcaps)) ?_
          simp only [execOp, hop, resolve, hcal, hval, Deferred.ofValue, Sem.run_bind, Sem.run_pure, Result.andThen_ok, invoke, entered _ _ hcb]
          congr 2
          apply Array.ext'
          simp
        · simp at hv
      · simp at hcc
    all_goals
      refine plain ?_
      have hnc : i.isCall = false := by
        repeat' (split at hcc)
        all_goals first
          | (injection hcc with hcc; subst hcc; rfl)
          | (obtain ⟨_, hcc⟩ := bifS hcc; injection hcc with hcc; subst hcc; rfl)
          | (simp at hcc; done)
      cases i <;> first | exact hv | simp [I.isCall] at hnc
  · refine plain ?_
    cases i <;> first | exact hv | simp [I.isCall] at hno
end Go.Proofs.Ytohleiikedpmkaa.Vm

namespace Go.Proofs.Ytohleiikedpmkaa.Vm
open Go
variable {Γ : Ctx} {P : Program} {φ φ' : Phi} {tm : Tm} {me : Mem} {a : Act} {w w' : World} {e : Eff}
theorem getT_putT : ∀ (t : Tm) (n : Nat) (v : V) (n' : Nat), getT (putT t n v) n' = if n' = n then v else getT t n'
  | [], n, v, n' => by
    unfold putT getT
    by_cases h : n = n'
    · subst h; simp
    · have h' : ¬ n' = n := fun e => h e.symm
      simp [beqF h, h', getT]
  | (c, u) :: r, n, v, n' => by
    unfold putT
    by_cases h : c = n
    · subst h
      simp only [Nat.beq_refl, cond_true]
      unfold getT
      by_cases h' : c = n'
      · subst h'; simp
      · have h'' : ¬ n' = c := fun e => h' e.symm
        simp [beqF h', h'']
    · simp only [beqF h, cond_false]
      rw [getT]
      by_cases h' : c = n'
      · subst h'
        have : ¬ c = n := h
        simp [this, getT]
      · simp only [beqF h', cond_false, getT_putT r n v n']
        by_cases h2 : n' = n
        · simp [h2]
        · simp [h2, getT, beqF h']
theorem RT.put (h : RT φ tm a) (hle : φ.le φ') {d : Option Nat} {x : V} {v : Value} (hv : RV φ' x v) (hd : ∀ n, d = some n → n < a.tmps.size) : RT φ' (putD tm d x) (a.put d v) := by
  intro n
  have old : getT tm n = .unk ∨ ∃ y, a.tmps[n]? = some y ∧ RV φ' (getT tm n) y := by
    rcases h n with h | ⟨y, h1, h2⟩
    · exact .inl h
    · exact .inr ⟨y, h1, h2.mono hle⟩
  cases d with
  | none => exact old
  | some d =>
    simp only [putD, getT_putT, Act.put]
    by_cases hn : n = d
    · subst hn
      right
      refine ⟨v, by simp [hd n rfl], by simpa using hv⟩
    · simp only [if_neg hn]
      rcases old with h | ⟨y, h1, h2⟩
      · exact .inl h
      · refine .inr ⟨y, ?_, h2⟩
        rw [Array.getElem?_setIfInBounds_ne (fun e => hn e.symm)]
        exact h1
theorem Act.put_size (d : Option Nat) (v : Value) : (a.put d v).tmps.size = a.tmps.size := by cases d <;> simp [Act.put]
theorem Act.put_def (d : Option Nat) (v : Value) : (a.put d v).defers = a.defers := by cases d <;> rfl
theorem RS.step {m0 : Mem} {nid : Nat} (R : RS Γ φ tm me a w) (hsub : ∀ b i k, look m0 b i = some k → look me b i = some k) (S : Step φ φ' m0 e.up e.wr nid w w') (hok : effOk e = true) {d : Option Nat} {v : Value} (hv : RV φ' e.v v) (hd : dstOk Γ.nt d = true) (hn0 : Γ.n0 ≤ nid) :
    RS Γ φ' (putD tm d e.v) (e.app me) (a.put d v) w' := by
  have hlt : ∀ b i k l, look me b i = some k → φ b i = some l → 0 < l.sz → l.r < w.heap.size := by
    intro b i k l h1 h2 h3
    obtain ⟨l', hl', H⟩ := R.mem.blk _ _ _ h1
    rw [h2] at hl'; injection hl' with hl'; subst hl'
    obtain ⟨TT, hT⟩ := H.there h3
    exact heap_lt_of_shape hT
  refine ⟨Phi.le_trans R.le S.le, R.mem.step hsub S hok, R.tmp.put S.le hv ?_, ?_, ?_, ?_, ?_, ?_⟩
  · intro n hn
    subst hn
    rw [R.size]
    simp only [dstOk] at hd
    exact Nat.lt_of_succ_le (Nat.le_of_ble_eq_true hd)
  · refine ⟨S.keeps.os.trans R.keeps.os, S.keeps.tape.trans R.keeps.tape, S.keeps.output.trans R.keeps.output, Nat.le_trans R.keeps.size S.keeps.size, fun k hk hno => ?_⟩
    refine (S.keeps.block k (Nat.lt_of_lt_of_le hk R.keeps.size) ?_).trans (R.keeps.block k hk hno)
    rintro ⟨b, i, q, l, _, hq, hl, ho, hz, rfl⟩
    rcases R.owned b i q l (hsub _ _ _ hq) hl ho hz with h | h
    · exact hno h
    · omega
  · intro b i k l h hl ho hz
    by_cases hb : b ∈ keysOf e.up
    · rw [look_app hok, if_pos hb] at h
      rcases S.src _ _ _ _ h hl hz with h1 | ⟨b0, i0, k0, l0, _, h2, h3, h4, h5, h6⟩ | ⟨k0, h2, h3⟩
      · exact .inr (Nat.le_trans R.keeps.size h1)
      · rw [← h6]; exact R.owned _ _ _ _ (hsub _ _ _ h2) h3 h4 h5
      · exact R.owned _ _ _ _ (hsub _ _ _ h2) h3 ho hz
    · rw [look_app hok, if_neg hb] at h
      by_cases hk : b ∈ e.kill
      · simp [hk] at h
      · rw [if_neg hk] at h
        obtain ⟨l1, hl1, _⟩ := R.mem.blk _ _ _ h
        have := S.le _ _ _ hl1
        rw [hl] at this
        injection this with this
        subst this
        exact R.owned _ _ _ _ h hl1 ho hz
  · rw [Act.put_size]; exact R.size
  · rw [Act.put_def]; exact R.defers
  · intro b i l h
    rcases S.new b i l h with h | h
    · exact R.new b i l h
    · exact .inr (Nat.le_trans hn0 h.1)
theorem stepI_sound {ops : Array Oper} {o : Oper} {ins : Ins} {nid : Nat} {hint : Hint} {Q : Exit → Act → World → Prop} {K : Act → World → Prop} {i : Nat} (_hP : Γ.P = P) (hc : cIns P ops o = some ins) (ho : ops[i]? = some o)
    (hs : stepI P ins (getT tm) me nid hint = some e) (hcs : ∀ q ∈ e.cs, q) (hok : effOk e = true) (hd : dstOk Γ.nt ins.dst = true) (R : RS Γ φ tm me a w) (hn0 : Γ.n0 ≤ nid) (hf : ∀ b, nid ≤ b → b < nid + WW → ∀ j, φ b j = none)
    (hK : ∀ φ' a' w', φ.le φ' → (∀ b i l, φ' b i = some l → φ b i = some l ∨ (nid ≤ b ∧ b < nid + WW)) → RS Γ φ' (putD tm ins.dst e.v) (e.app me) a' w' → K a' w') : wpOp P ops Q i K a w := by
  unfold cIns at hc
  split at hc
  · simp at hc
  · rename_i ii hop
    have hdst : ins.dst = o.dst ∧ ins.op = ii ∧ (∀ r, guardOk (getT tm) ins.g = some r → Region.wanted o (yielded ops a.tmps) = r) := by
      simp only at hc
      split at hc
      · rename_i hg
        injection hc with hc
        subst hc
        refine ⟨rfl, rfl, fun r hr => ?_⟩
        simp only [guardOk] at hr
        injection hr with hr
        subst hr
        simp [Region.wanted, hg]
      · rename_i j want hg
        split at hc
        · rename_i t ht
          injection hc with hc
          subst hc
          refine ⟨rfl, rfl, fun r hr => ?_⟩
          simp only [guardOk] at hr
          split at hr
          · rename_i b hb
            injection hr with hr
            subst hr
            have h1 := R.tmp t
            rw [hb] at h1
            rcases h1 with h1 | ⟨x, h1, h2⟩
            · cases h1
            · have := h2.bool
              subst this
              have hy : yielded ops a.tmps j = some b := by
                simp only [yielded, ht, Option.bind_some, h1]
              simp only [Region.wanted, hg, hy]
              cases want <;> cases b <;> rfl
          · rename_i hb
            injection hr with hr
            subst hr
            have h1 := R.tmp t
            rw [hb] at h1
            rcases h1 with h1 | ⟨x, h1, h2⟩
            · cases h1
            · obtain ⟨l, h3, h4⟩ := h2
              have h5 : l = #[] := by
                cases l with
                | mk l => cases l with
                  | nil => rfl
                  | cons _ _ => cases h4
              subst h3; subst h5
              have hy : yielded ops a.tmps j = none := by
                simp only [yielded, ht, Option.bind_some, h1]
              simp only [Region.wanted, hg, hy]
              rfl
          · simp at hr
        · simp at hc
    obtain ⟨h1, h2, h3⟩ := hdst
    unfold wpOp
    rw [ho]
    simp only
    unfold stepI at hs
    split at hs
    · rename_i hg
      rw [h3 true hg, if_pos rfl]
      left
      split at hs
      · rename_i e0 he0
        have hEV : EV φ (getT tm) a := RT.ev R.mem.glob R.tmp
        have base : ∀ e1 : Eff, e0.up = e1.up → e0.wr = e1.wr → e0.kill = e1.kill → (∀ q ∈ e0.cs, q) → effOk e1 = true → (∀ φ' v, RV φ' e0.v v → RV φ' e1.v v) → (∀ φ' a' w', φ.le φ' → (∀ b i l, φ' b i = some l → φ b i = some l ∨ (nid ≤ b ∧ b < nid + WW)) → RS Γ φ' (putD tm ins.dst e1.v) (e1.app me) a' w' → K a' w') → o.wp P a w K Q := by
          intro e1 hu hw hk hcs0 hok1 hrv hK1
          refine vins_sound (i := ii) (h := hint.h) hop hf hEV R.mem (by rw [← h2]; exact he0) hcs0 K Q ?_
          intro φ' v w' m0 hsub S hv
          rw [← h1]
          rw [hu, hw] at S
          exact hK1 φ' _ w' S.le S.new (R.step hsub S hok1 (hrv _ _ hv) hd hn0)
        split at hs
        · injection hs with hs
          subst hs
          exact base e0 rfl rfl rfl hcs hok (fun _ _ h => h) hK
        · rename_i v hv
          injection hs with hs
          subst hs
          have heq : e0.v = v := hcs _ (by simp)
          exact base { e0 with v := v, cs := (e0.v = v) :: e0.cs } rfl rfl rfl (fun q hq => hcs q (by simp [hq])) hok (fun φ' x h => by rw [heq] at h; exact h) hK
      · simp at hs
    · rename_i hg
      rw [h3 false hg]
      simp only [Bool.false_eq_true, if_false]
      injection hs with hs
      subst hs
      rw [← h1]
      exact hK φ _ w (Phi.le_refl φ) (fun _ _ _ h => .inl h) (R.step (e := ⟨.tup [], [], [], [], [], []⟩) (m0 := me) (nid := nid) (fun _ _ _ h => h) step_pure hok ⟨#[], rfl, All2.nil⟩ hd hn0)
    · simp at hs
theorem G.next_cs {g : G} {cs : List Prop} : (g.next cs).cs = cs ++ g.cs := by
  unfold G.next
  split
  · rename_i m h r _
    cases Nat.beq m g.n <;> rfl
  · rfl
theorem vregs_cs {nt base : Nat} : ∀ {l : List Ins} {j : Nat} {tm : Tm} {me : Mem} {g : G} {tm' : Tm} {me' : Mem} {g' : G} {es : List Eff}, vregs P nt base l j tm me g = some (tm', me', g', es) → (∀ q ∈ g'.cs, q) → (∀ q ∈ g.cs, q) ∧ (∀ e ∈ es, ∀ q ∈ e.cs, q)
  | [], j, tm, me, g, tm', me', g', es, h, hq => by
    simp only [vregs] at h
    injection h with h; injection h with _ h; injection h with _ h; injection h with h1 h2
    subst h1; subst h2
    exact ⟨hq, by simp⟩
  | ins :: r, j, tm, me, g, tm', me', g', es, h, hq => by
    simp only [vregs] at h
    split at h
    · simp at h
    · rename_i e he
      obtain ⟨_, h⟩ := bifS h
      split at h
      · rename_i tm2 me2 g2 es2 h2
        injection h with h; injection h with e1 h; injection h with e2 h; injection h with e3 e4
        subst e1; subst e2; subst e3; subst e4
        obtain ⟨k1, k2⟩ := vregs_cs h2 hq
        rw [G.next_cs] at k1
        refine ⟨fun q hq => k1 q (by simp [hq]), fun e' he' => ?_⟩
        rcases List.mem_cons.1 he' with rfl | he'
        · exact fun q hq => k1 q (by simp [hq])
        · exact k2 e' he'
      · simp at h
theorem regs_sound {ops : Array Oper} {base : Nat} {Q : Exit → Act → World → Prop} (hP : Γ.P = P) (hn0 : Γ.n0 ≤ base) : ∀ (rest : List Oper) (l : List Ins) (j : Nat) (φ : Phi) (tm : Tm) (me : Mem) (g : G) (a : Act) (w : World) (tm' : Tm) (me' : Mem) (g' : G) (es : List Eff),
    ops.toList.drop j = rest → mapO (cIns P ops) rest = some l → vregs P Γ.nt base l j tm me g = some (tm', me', g', es) → (∀ q ∈ g'.cs, q) → RS Γ φ tm me a w → Fresh φ (base + WW * j) →
    (∀ φ' a' w', φ.le φ' → Fresh φ' (base + WW * (j + l.length)) → RS Γ φ' tm' me' a' w' → Q .normal a' w') → wpOps P ops Q (List.range' j rest.length) a w
  | [], l, j, φ, tm, me, g, a, w, tm', me', g', es, hd, hl, hv, hcs, R, hf, hQ => by
    simp only [mapO] at hl
    injection hl with hl
    subst hl
    simp only [vregs] at hv
    injection hv with hv; injection hv with e1 hv; injection hv with e2 hv
    subst e1; subst e2
    exact hQ φ a w (Phi.le_refl φ) (by simpa using hf) R
  | o :: rest, l, j, φ, tm, me, g, a, w, tm', me', g', es, hd, hl, hv, hcs, R, hf, hQ => by
    simp only [mapO] at hl
    cases hi : cIns P ops o with
    | none => simp [hi] at hl
    | some ins =>
      simp only [hi] at hl
      cases hr : mapO (cIns P ops) rest with
      | none => simp [hr] at hl
      | some l' =>
        simp only [hr] at hl
        injection hl with hl
        subst hl
        have hall := vregs_cs hv hcs
        simp only [vregs] at hv
        split at hv
        · simp at hv
        · rename_i e he
          obtain ⟨hb, hv⟩ := bifS hv
          simp only [Bool.and_eq_true] at hb
          split at hv
          · rename_i tm2 me2 g2 es2 h2
            injection hv with hv; injection hv with e1 hv; injection hv with e2 hv; injection hv with e3 e4
            subst e1; subst e2; subst e3; subst e4
            have ho : ops[j]? = some o := by
              have : ops.toList[j]? = some o := by
                have := congrArg (·[0]?) hd
                simpa using this
              simpa using this
            have hd2 : ops.toList.drop (j + 1) = rest := by
              have := congrArg (·.drop 1) hd
              simpa [List.drop_drop] using this
            simp only [List.length_cons, List.range'_succ, wpOps_cons]
            refine stepI_sound (Γ := Γ) hP hi ho he (hall.2 e (by simp)) hb.1 hb.2 R (Nat.le_trans hn0 (Nat.le_add_right _ _)) (fun b h1 _ => hf b h1) ?_
            intro φ' a' w' hle hnew R'
            refine regs_sound hP hn0 rest l' (j + 1) φ' _ _ _ a' w' _ _ _ _ hd2 hr h2 hcs R' ?_ ?_
            · intro b hb i
              cases hφ : φ' b i with
              | none => rfl
              | some lc =>
                have hbb : base + WW * j + WW ≤ b := by rw [Nat.mul_succ] at hb; omega
                rcases hnew b i lc hφ with h | h
                · rw [hf b (by omega) i] at h; simp at h
                · omega
            · intro φ2 a2 w2 hle2 hf2 R2
              refine hQ φ2 a2 w2 (Phi.le_trans hle hle2) ?_ R2
              have : j + (ins :: l').length = j + 1 + l'.length := by simp; omega
              rwa [this]
          · simp at hv
end Go.Proofs.Ytohleiikedpmkaa.Vm

namespace Go.Proofs.Ytohleiikedpmkaa.Vm
open Go
variable {P : Program} {φ φ' : Phi} {m : Mem} {w w' : World}
theorem mem_fsts {s d : Nat} : ∀ {t : Th}, (s, d) ∈ t → s ∈ fsts t
  | (s', d') :: r, h => by
    rcases List.mem_cons.1 h with h | h
    · injection h with h1 h2; subst h1; simp [fsts]
    · simp only [fsts, List.mem_cons]; exact .inr (mem_fsts h)
theorem mem_snds {s d : Nat} : ∀ {t : Th}, (s, d) ∈ t → d ∈ snds t
  | (s', d') :: r, h => by
    rcases List.mem_cons.1 h with h | h
    · injection h with h1 h2; subst h2; simp [snds]
    · simp only [snds, List.mem_cons]; exact .inr (mem_snds h)
theorem findN_mem {s d : Nat} : ∀ {t : Th}, findN d t = some s → (s, d) ∈ t
  | [], h => by simp [findN] at h
  | (c, d') :: r, h => by
    simp only [findN] at h
    by_cases hd : d' = d
    · subst hd; simp at h; subst h; simp
    · rw [beqF hd] at h; exact List.mem_cons_of_mem _ (findN_mem h)
theorem mem_findN {s d : Nat} : ∀ {t : Th}, nodupN (snds t) = true → (s, d) ∈ t → findN d t = some s
  | (c, d') :: r, hn, h => by
    simp only [snds, nodupN, Bool.and_eq_true, Bool.not_eq_true', memN_false] at hn
    simp only [findN]
    rcases List.mem_cons.1 h with h | h
    · injection h with h1 h2; subst h1; subst h2; simp
    · have hd : d' ≠ d := fun e => hn.1 (e ▸ mem_snds h)
      rw [beqF hd]; exact mem_findN hn.2 h
theorem findS_mem {s d : Nat} : ∀ {t : Th}, findS s t = some d → (s, d) ∈ t
  | [], h => by simp [findS] at h
  | (c, d') :: r, h => by
    simp only [findS] at h
    by_cases hd : c = s
    · subst hd; simp at h; subst h; simp
    · rw [beqF hd] at h; exact List.mem_cons_of_mem _ (findS_mem h)
theorem findN_eq_none {d : Nat} {t : Th} (h : d ∉ snds t) : findN d t = none := by
  cases hf : findN d t with
  | none => rfl
  | some s => exact absurd (mem_snds (findN_mem hf)) h
theorem ren_eq {t : Th} {n0 b b' : Nat} (hn : nodupN (snds t) = true) (hd : ∀ d ∈ snds t, n0 ≤ d) (h : ren t n0 b = some b') (i : Nat) : φ.ren t n0 b' i = φ b i := by
  unfold ren at h
  cases hf : findS b t with
  | some d =>
    rw [hf] at h; injection h with h; subst h
    simp only [Phi.ren, mem_findN hn (findS_mem hf)]
  | none =>
    rw [hf] at h; simp only at h
    cases hb : Nat.blt b n0 with
    | false => rw [hb] at h; simp at h
    | true =>
      rw [hb] at h; simp at h; subst h
      have hlt : b < n0 := Nat.le_of_ble_eq_true hb
      have : findN b t = none := findN_eq_none fun hm => by have := hd b hm; omega
      simp only [Phi.ren, this, if_pos hlt]
theorem sameK_eq' {k k' : IntKind} (h : sameK k k' = true) : k = k' := by cases k <;> cases k' <;> simp_all [sameK]
theorem allInts_eq' {k : IntKind} : ∀ {l : List C} {q : List Int}, allInts k l = some q → l = q.map (.int k)
  | [], q, h => by simp only [allInts] at h; injection h with h; subst h; rfl
  | c :: r, q, h => by
    cases c <;> simp only [allInts] at h <;> try (simp at h; done)
    rename_i k' n
    cases hs : sameK k k' with
    | false => rw [hs] at h; simp at h
    | true =>
      rw [hs] at h; simp only [cond_true] at h
      split at h
      · rename_i q' hq
        injection h with h; subst h
        rw [List.map_cons, ← allInts_eq' hq, sameK_eq' hs]
      · simp at h
theorem rowOf_eq {l : List C} {k : IntKind} {q : List Int} (h : rowOf l = some (k, q)) : l = q.map (.int k) ∧ q ≠ [] := by
  cases l with
  | nil => simp [rowOf] at h
  | cons c r =>
    cases c <;> simp only [rowOf] at h <;> try (simp at h; done)
    split at h
    · rename_i q' hq
      injection h with h; injection h with e1 e2; subst e1; subst e2
      exact ⟨by rw [List.map_cons, ← allInts_eq' hq], by simp⟩
    · simp at h
theorem normBody_len (b : Body) : (normBody b).len = b.len := by
  cases b with
  | cells l =>
    simp only [normBody]
    split
    · rename_i k q hq
      obtain ⟨rfl, _⟩ := rowOf_eq hq
      simp [Body.len]
    · rfl
  | ints k l => rfl
  | gen n f => rfl
  | row n w f => rfl
  | ig n kf g => rfl
theorem normBody_get (b : Body) (j : Nat) (hj : j < b.len) : (normBody b).get j = b.get j := by
  cases b with
  | cells l =>
    simp only [normBody]
    split
    · rename_i k q hq
      obtain ⟨rfl, _⟩ := rowOf_eq hq
      simp only [Body.len, List.length_map] at hj
      simp [Body.get, hj]
    · rfl
  | ints k l => rfl
  | gen n f => rfl
  | row n w f => rfl
  | ig n kf g => rfl
section
variable {t : Th} {n0 : Nat} (hn : nodupN (snds t) = true) (hd : ∀ d ∈ snds t, n0 ≤ d)
include hn hd
theorem renPs_rel : ∀ {l l' : List (Nat × Nat × Nat)} {vs : List Value}, renPs t n0 l = some l' → All2 (RP φ) l vs → All2 (RP (φ.ren t n0)) l' vs
  | [], _, _, h, .nil => by simp only [renPs] at h; injection h with h; subst h; exact .nil
  | (b, i, o) :: r, _, _, h, .cons h0 h1 => by
    simp only [renPs] at h
    split at h
    · rename_i b' l' hb hl
      injection h with h; subst h
      obtain ⟨l, hl', hv⟩ := h0
      exact .cons ⟨l, by show φ.ren t n0 b' i = some l; rw [ren_eq hn hd hb]; exact hl', hv⟩ (renPs_rel hl h1)
    · simp at h
theorem renC_rel {c : C} {v : Value} (h : RC φ c v) : RC (φ.ren t n0) (renC t n0 c) v := by
  cases c <;> simp only [renC] <;> try exact h
  case ptr b i o =>
    cases hb : ren t n0 b with
    | none => exact h.one
    | some b' =>
      obtain ⟨l, hl, hv⟩ := h
      exact ⟨l, by show φ.ren t n0 b' i = some l; rw [ren_eq hn hd hb]; exact hl, hv⟩
  case sl b i o n es =>
    cases hb : ren t n0 b with
    | none => exact h.one
    | some b' =>
      obtain ⟨a, cap, e, h1, h2⟩ := h
      refine ⟨a, cap, e, h1, ?_⟩
      rcases h2 with h2 | ⟨l, hl, h3⟩
      · exact .inl h2
      · exact .inr ⟨l, by rw [ren_eq hn hd hb]; exact hl, h3⟩
  case fn f l =>
    cases hl : renPs t n0 l with
    | none => exact h.one
    | some l' =>
      obtain ⟨vs, e, hv⟩ := h
      exact ⟨vs, e, renPs_rel hn hd hl hv⟩
theorem renV1_rel {x : V} {v : Value} (h : RV1 φ x v) : RV1 (φ.ren t n0) (renV1 t n0 x) v := by
  cases x <;> simp only [renV1] <;> try exact h
  case c c => exact renC_rel hn hd h
  case agg l =>
    obtain ⟨a, e, h⟩ := h
    exact ⟨a, e, All2.map_left.2 (h.imp fun _ _ h => renC_rel hn hd h)⟩
theorem renV_rel {x : V} {v : Value} (h : RV φ x v) : RV (φ.ren t n0) (renV t n0 x) v := by
  cases x
  case tup l =>
    obtain ⟨a, e, h⟩ := h
    exact ⟨a, e, All2.map_left.2 (h.imp fun _ _ h => renV1_rel hn hd h)⟩
  all_goals (simp only [RV, renV] at h ⊢; exact renV1_rel hn hd h)
omit hn hd in
theorem renBody_len (b : Body) : (renBody t n0 b).len = b.len := by
  cases b <;> simp [renBody, Body.len]
omit hn hd in
theorem renBody_get (b : Body) (j : Nat) (hj : j < b.len) : (renBody t n0 b).get j = renC t n0 (b.get j) := by
  cases b with
  | cells l =>
    simp only [Body.len] at hj
    simp [renBody, Body.get, hj]
  | ints k l => rfl
  | gen n f => rfl
  | ig n kf g => rfl
  | row n w f =>
    simp only [renBody, Body.get, recGet, List.getD_eq_getElem?_getD, List.getElem?_map]
    cases (f (j / w))[j % w]? <;> rfl
theorem renBlk_rel {l : Loc} {k : Blk} (h : RB φ l k w) : RB (φ.ren t n0) l (renBlk t n0 k) w := by
  have e : (renBlk t n0 k).len = k.len := (normBody_len _).trans (renBody_len _)
  refine ⟨h.own, by rw [e]; exact h.fits, fun hx => by rw [e]; exact h.exact hx, h.there, fun j hj => ?_, h.free⟩
  rw [e] at hj
  obtain ⟨v, h1, h2⟩ := h.cell j hj
  refine ⟨v, h1, ?_⟩
  show RC _ ((normBody (renBody t n0 k.body)).get j) v
  rw [normBody_get _ _ (by rw [renBody_len]; exact hj), renBody_get _ _ hj]
  exact renC_rel hn hd h2
end
theorem getT_viewT {t : Th} {n0 : Nat} {tm : Tm} : ∀ (l : List Nat) (n : Nat), getT (viewT t n0 tm l) n = .unk ∨ getT (viewT t n0 tm l) n = renV t n0 (getT tm n)
  | [], n => .inl rfl
  | c :: r, n => by
    simp only [viewT, getT]
    by_cases h : c = n
    · subst h; simp
    · rw [beqF h]; exact getT_viewT r n
theorem renE_at {t : Th} {n0 : Nat} {e : Ent} {i : Nat} {k : Blk} (h : (renE t n0 e).at i = some k) : ∃ k0, e.at i = some k0 ∧ k = renBlk t n0 k0 := by
  cases e with
  | one k0 =>
    simp only [renE, Ent.at] at h ⊢
    cases hi : Nat.beq i 0 with
    | false => rw [hi] at h; simp at h
    | true => rw [hi] at h; simp at h; exact ⟨k0, rfl, h.symm⟩
  | many f =>
    simp only [renE, Ent.at] at h ⊢
    cases hf : f i with
    | none => simp only [renF, hf] at h; simp at h
    | some k0 => simp only [renF, hf] at h; injection h with h; exact ⟨k0, rfl, h.symm⟩
theorem ent_viewB {t : Th} {n0 : Nat} {me : Mem} : ∀ {l : List Nat} {b : Nat} {e : Ent}, ent (viewB t n0 me l) b = some e → ∃ o e0, o ∈ l ∧ ren t n0 o = some b ∧ ent me o = some e0 ∧ e = renE t n0 e0
  | [], b, e, h => by simp [viewB, ent] at h
  | c :: r, b, e, h => by
    simp only [viewB] at h
    split at h
    · rename_i b' e0 hb he
      simp only [ent] at h
      by_cases hb' : b' = b
      · subst hb'
        simp at h
        exact ⟨c, e0, by simp, hb, he, h.symm⟩
      · rw [beqF hb'] at h
        obtain ⟨o, e1, h1, h2⟩ := ent_viewB h
        exact ⟨o, e1, List.mem_cons_of_mem _ h1, h2⟩
    · obtain ⟨o, e1, h1, h2⟩ := ent_viewB h
      exact ⟨o, e1, List.mem_cons_of_mem _ h1, h2⟩
theorem look_viewB {t : Th} {n0 : Nat} {me : Mem} {l : List Nat} {b i : Nat} {k : Blk} (h : look (viewB t n0 me l) b i = some k) : ∃ o k0, o ∈ l ∧ ren t n0 o = some b ∧ look me o i = some k0 ∧ k = renBlk t n0 k0 := by
  unfold look at h ⊢
  cases he : ent (viewB t n0 me l) b with
  | none => rw [he] at h; simp at h
  | some e =>
    rw [he] at h
    obtain ⟨o, e0, h1, h2, h3, h4⟩ := ent_viewB he
    subst h4
    obtain ⟨k0, h5, h6⟩ := renE_at h
    exact ⟨o, k0, h1, h2, by rw [h3]; exact h5, h6⟩
theorem RS.view {Γ : Ctx} {tm : Tm} {me : Mem} {a : Act} (v : SView) {n0 nx : Nat} (hok : v.ok n0 = true) (h0 : Γ.n0 ≤ n0) (hf0 : Fresh Γ.φ0 Γ.n0) (R : RS Γ φ tm me a w) :
    RS Γ (φ.ren v.t n0) (v.app n0 ⟨tm, me, nx⟩).tm (v.app n0 ⟨tm, me, nx⟩).me a w ∧ (Fresh (φ.ren v.t n0) v.nx ∧ Γ.n0 ≤ v.nx) := by
  simp only [SView.ok, Bool.and_eq_true, List.all_eq_true] at hok
  obtain ⟨⟨⟨⟨⟨⟨h1, h2⟩, h3⟩, h4⟩, h5⟩, h6⟩, h7⟩ := hok
  have hd : ∀ d ∈ snds v.t, n0 ≤ d := fun d hd => Nat.le_of_ble_eq_true (h3 d hd).1
  have hd' : ∀ d ∈ snds v.t, d < v.nx := fun d hd => Nat.le_of_ble_eq_true (h3 d hd).2
  have hnx : n0 ≤ v.nx := Nat.le_of_ble_eq_true h4
  have hpos : 0 < n0 := Nat.le_of_ble_eq_true h7
  have low : ∀ b, b < n0 → ∀ i, φ.ren v.t n0 b i = φ b i := fun b hb i => by
    have : findN b v.t = none := findN_eq_none fun hm => by have := hd b hm; omega
    simp only [Phi.ren, this, if_pos hb]
  refine ⟨⟨?_, ?_, ?_, R.keeps, ?_, R.size, R.defers, ?_⟩, ?_, by omega⟩
  · intro b i l h
    have hb : b < n0 := by
      by_cases hb : b < Γ.n0
      · omega
      · rw [hf0 b (by omega) i] at h; simp at h
    rw [low b hb]; exact R.le _ _ _ h
  · refine ⟨fun g => ?_, ?_, ?_⟩
    · obtain ⟨l, hl, h⟩ := R.mem.glob g
      exact ⟨l, by rw [low 0 hpos]; exact hl, h⟩
    · intro b i k h
      obtain ⟨o, k0, _, q2, q3, rfl⟩ := look_viewB h
      obtain ⟨l, hl, hB⟩ := R.mem.blk _ _ _ q3
      exact ⟨l, by rw [ren_eq h2 hd q2]; exact hl, renBlk_rel h2 hd hB⟩
    · intro b i k l b' i' k' l' h h' hl hl' ho hz hz' heq
      obtain ⟨o, k0, q1, q2, q3, rfl⟩ := look_viewB h
      obtain ⟨o', k0', q1', q2', q3', rfl⟩ := look_viewB h'
      rw [ren_eq h2 hd q2] at hl
      rw [ren_eq h2 hd q2'] at hl'
      obtain ⟨rfl, rfl⟩ := R.mem.inj _ _ _ _ _ _ _ _ q3 q3' hl hl' ho hz hz' heq
      rw [q2] at q2'; injection q2' with q2'
      exact ⟨q2', rfl⟩
  · intro n
    rcases getT_viewT (t := v.t) (n0 := n0) (tm := tm) v.keepT n with h | h
    · exact .inl h
    · rcases R.tmp n with hu | ⟨x, hx, hr⟩
      · left
        show getT (viewT v.t n0 tm v.keepT) n = .unk
        rw [h, hu]; rfl
      · right
        refine ⟨x, hx, ?_⟩
        show RV _ (getT (viewT v.t n0 tm v.keepT) n) x
        rw [h]
        exact renV_rel h2 hd hr
  · intro b i k l h hl
    obtain ⟨o, k0, _, q2, q3, rfl⟩ := look_viewB h
    rw [ren_eq h2 hd q2] at hl
    exact R.owned _ _ _ _ q3 hl
  · intro b i l h
    unfold Phi.ren at h
    split at h
    · rename_i o ho
      right
      have := hd b (mem_snds (findN_mem ho)); omega
    · split at h
      · exact R.new _ _ _ h
      · simp at h
  · intro b hb i
    have hn : findN b v.t = none := findN_eq_none fun hm => by have := hd' b hm; omega
    simp only [Phi.ren, hn]
    rw [if_neg (by omega)]
end Go.Proofs.Ytohleiikedpmkaa.Vm

namespace Go.Proofs.Ytohleiikedpmkaa.Vm
open Go
variable {P : Program} {T T' : Nat → V} {m m' : Mem} {nid : Nat} {h : H} {e : Eff}
theorem vv_congr {x : Opd} (hT : ∀ t ∈ x.rd, T' t = T t) : vv T' x = vv T x := by
  cases x with
  | t n => exact hT n (by simp [Opd.rd])
  | k v => rfl
theorem vvs_congr : ∀ {l : List Opd}, (∀ t ∈ rds l, T' t = T t) → vvs T' l = vvs T l
  | [], _ => rfl
  | x :: r, hT => by
    simp only [rds, List.mem_append] at hT
    rw [vvs, vvs, vv_congr (fun t ht => hT t (.inl ht)), vvs_congr (fun t ht => hT t (.inr ht))]
theorem vvO_congr {x : Option Opd} (hT : ∀ t ∈ rdO x, T' t = T t) : vvO T' x = vvO T x := by
  cases x with
  | none => rfl
  | some x => simp only [vvO]; rw [vv_congr hT]
theorem vparts_congr : ∀ {l : List (Nat × Nat × Opd)}, (∀ t ∈ rdP l, T' t = T t) → vparts T' l = vparts T l
  | [], _ => rfl
  | (o, s, x) :: r, hT => by
    simp only [rdP, List.mem_append] at hT
    rw [vparts, vparts, vv_congr (fun t ht => hT t (.inl ht)), vparts_congr (fun t ht => hT t (.inr ht))]
theorem mapO_congr {α β : Type} {f g : α → Option β} : ∀ {l : List α}, (∀ x ∈ l, f x = g x) → mapO f l = mapO g l
  | [], _ => rfl
  | x :: r, h => by
    rw [mapO, mapO, h x (by simp), mapO_congr (fun y hy => h y (by simp [hy]))]
theorem rds_mem {x : Opd} : ∀ {l : List Opd}, x ∈ l → ∀ t ∈ x.rd, t ∈ rds l
  | y :: r, h, t, ht => by
    simp only [rds, List.mem_append]
    rcases List.mem_cons.1 h with rfl | h
    · exact .inl ht
    · exact .inr (rds_mem h t ht)
theorem vop_T {i : I} (hT : ∀ t ∈ i.rd, T' t = T t) : vop i T' m nid h = vop i T m nid h := by
  cases i <;> simp only [I.rd, List.mem_append] at hT
  case pick c a b => simp only [vop, vv_congr (fun t ht => hT t (.inl ht)), vv_congr (fun t ht => hT t (.inr (.inl ht))), vv_congr (fun t ht => hT t (.inr (.inr ht)))]
  case zero => rfl
  case build z ps => simp only [vop, vparts_congr hT]
  case buildSl es n z ps => simp only [vop, vparts_congr hT]
  case mkfn f l =>
    simp only [vop]
    rw [mapO_congr (fun x hx => by rw [vv_congr (fun t ht => hT t (rds_mem hx t ht))])]
  case slA n es x lo hi => simp only [vop, vv_congr (fun t ht => hT t (.inl ht)), vvO_congr (fun t ht => hT t (.inr (.inl ht))), vvO_congr (fun t ht => hT t (.inr (.inr ht)))]
  case sl es x lo hi => simp only [vop, vv_congr (fun t ht => hT t (.inl ht)), vvO_congr (fun t ht => hT t (.inr (.inl ht))), vvO_congr (fun t ht => hT t (.inr (.inr ht)))]
  case slS x lo hi => simp only [vop, vv_congr (fun t ht => hT t (.inl ht)), vvO_congr (fun t ht => hT t (.inr (.inl ht))), vvO_congr (fun t ht => hT t (.inr (.inr ht)))]
  case call => rfl
  case callv => rfl
  case mm3 mx x y z => simp only [vop, vv_congr (fun t ht => hT t (.inl ht)), vv_congr (fun t ht => hT t (.inr (.inl ht))), vv_congr (fun t ht => hT t (.inr (.inr ht)))]
  case add64 x y z => simp only [vop, vv_congr (fun t ht => hT t (.inl ht)), vv_congr (fun t ht => hT t (.inr (.inl ht))), vv_congr (fun t ht => hT t (.inr (.inr ht)))]
  case mv => simp only [vop, vv_congr hT]
  case box => simp only [vop, vv_congr hT]
  case load => simp only [vop, vv_congr hT]
  case nilc => simp only [vop, vv_congr hT]
  case un => simp only [vop, vv_congr hT]
  case conv => simp only [vop, vv_congr hT]
  case s2b => simp only [vop, vv_congr hT]
  case b2s => simp only [vop, vv_congr hT]
  case cvs => simp only [vop, vv_congr hT]
  case fa => simp only [vop, vv_congr hT]
  case fld => simp only [vop, vv_congr hT]
  case ext => simp only [vop, vv_congr hT]
  case len => simp only [vop, vv_congr hT]
  all_goals simp only [vop, vv_congr (fun t ht => hT t (Or.inl ht)), vv_congr (fun t ht => hT t (Or.inr ht))]
theorem look_congr {b : Nat} (hb : ent m' b = ent m b) (i : Nat) : look m' b i = look m b i := by unfold look; rw [hb]
theorem srcOf_congr {es : Nat} {v : V} {n : Nat} {s : Body} {rd : List Nat} {x y : Nat} (h : srcOf m es v = some (n, s, rd, x, y)) (hm : ∀ b ∈ rd, ent m' b = ent m b) : srcOf m' es v = some (n, s, rd, x, y) := by
  unfold srcOf at h ⊢
  split at h
  · exact h
  · obtain ⟨hb, h1⟩ := bifS h
    split at h1
    · rename_i k hk
      injection h1 with h1; injection h1 with _ h1; injection h1 with _ h1; injection h1 with h1 _
      subst h1
      rw [look_congr (hm _ (by simp))]
      exact h
    · simp at h1
  · exact h
  · simp at h
theorem vop_m {i : I} (hv : vop i T m nid h = some e) (hm : ∀ b ∈ e.rd, ent m' b = ent m b) : vop i T m' nid h = some e := by
  cases i
  case load agg sz x =>
    simp only [vop] at hv ⊢
    split at hv
    · rename_i b i q hx
      split at hv
      · rename_i k hk
        have hrd : e.rd = [b] := by
          split at hv
          · rcases bif2 hv with h1 | h1
            · unfold readE at h1; injection h1 with h1; subst h1; rfl
            · obtain ⟨_, h1⟩ := bifS h1; unfold readE at h1; injection h1 with h1; subst h1; rfl
          · simp at hv
        rw [look_congr (hm b (by rw [hrd]; simp)), hk]
        exact hv
      · simp at hv
    · simp at hv
  case store sz x y =>
    simp only [vop] at hv ⊢
    split at hv
    · rename_i b i q s hx hy
      split at hv
      · rename_i k hk
        have hrd : e.rd = [b] := by
          split at hv
          · obtain ⟨_, h1⟩ := bifS hv; injection h1 with h1; subst h1; rfl
          · simp at hv
        have hb := hm b (by rw [hrd]; simp)
        have hu : ∀ kk, upd m' b i kk = upd m b i kk := fun kk => by unfold upd; rw [hb]
        simp only [look_congr hb, hk, hu]
        exact hv
      · simp at hv
    · simp at hv
  case cvs x =>
    simp only [vop] at hv ⊢
    split at hv
    · rename_i b o n es hx
      split at hv
      · rename_i k hk
        have hrd : e.rd = [b] := by
          obtain ⟨_, h1⟩ := bifS hv
          split at h1
          · injection h1 with h1; subst h1; rfl
          · simp at h1
        have hb := hm b (by rw [hrd]; simp)
        simp only [look_congr hb, hk]
        exact hv
      · simp at hv
    · simp at hv
  case b2s x =>
    simp only [vop] at hv ⊢
    split at hv
    · exact hv
    · rename_i b i q n es hx
      have hrd : e.rd = [b] := by
        split at hv
        · split at hv
          · unfold readE at hv; injection hv with h1; subst h1; rfl
          · simp at hv
        · split at hv
          · unfold readE at hv; injection hv with h1; subst h1; rfl
          · simp at hv
        · simp at hv
      have hb := hm b (by rw [hrd]; simp)
      simp only [seg?, look_congr hb] at hv ⊢
      exact hv
    · simp at hv
  case slA n es x lo hi =>
    simp only [vop] at hv ⊢
    split at hv
    · rename_i b i q l u hx hy
      split at hv
      · rename_i k hk
        have hrd : e.rd = [b] := by
          split at hv
          · unfold readE at hv; injection hv with h1; subst h1; rfl
          · simp at hv
        rw [look_congr (hm b (by rw [hrd]; simp)), hk]
        exact hv
      · simp at hv
    · simp at hv
  case app es bytes x y =>
    simp only [vop] at hv ⊢
    split at hv
    · rename_i n s rd p q hsrc hx
      have hrd : e.rd = rd := by
        split at hv
        · injection hv with h1; subst h1; rfl
        · simp at hv
      rw [srcOf_congr hsrc (fun b hb => hm b (by rw [hrd]; exact hb)), hx]
      exact hv
    · rename_i n s rd p q b i o l es' hsrc hx
      split at hv
      · rename_i k hk
        have hrd : e.rd = b :: rd := by
          split at hv
          · obtain ⟨_, h1⟩ := bifS hv; injection h1 with h1; subst h1; rfl
          · simp at hv
        rw [srcOf_congr hsrc (fun b' hb => hm b' (by rw [hrd]; simp [hb])), hx]
        simp only [look_congr (hm b (by rw [hrd]; simp)), hk]
        exact hv
      · simp at hv
    · simp at hv
  case copy es x y =>
    simp only [vop] at hv ⊢
    split at hv
    · rename_i n s rd p q b i o l es' hsrc hx
      split at hv
      · rename_i k hk
        have hrd : e.rd = b :: rd := by
          split at hv
          · obtain ⟨_, h1⟩ := bifS hv; injection h1 with h1; subst h1; rfl
          · simp at hv
        have hb := hm b (by rw [hrd]; simp)
        have hu : ∀ kk, upd m' b i kk = upd m b i kk := fun kk => by unfold upd; rw [hb]
        rw [srcOf_congr hsrc (fun b' hb => hm b' (by rw [hrd]; simp [hb])), hx]
        simp only [look_congr hb, hk, hu]
        exact hv
      · simp at hv
    · simp at hv
  all_goals exact hv
theorem restr_congr : ∀ {ids : List Nat}, (∀ b ∈ ids, ent m' b = ent m b) → restr m' ids = restr m ids
  | [], _ => rfl
  | b :: r, h => by
    unfold restr
    rw [h b (by simp), restr_congr (fun c hc => h c (by simp [hc]))]
theorem vcall_congr {f : Nat} {args : List V} (hv : vcall P f args m nid h = some e) (hm : ∀ b ∈ e.rd, ent m' b = ent m b) : vcall P f args m' nid h = some e := by
  unfold vcall at hv ⊢
  split at hv
  · injection hv with hv
    subst hv
    rw [restr_congr hm]
  · simp at hv
theorem vins_congr {i : I} (hv : vins P i T m nid h = some e) (hT : ∀ t ∈ i.rd, T' t = T t) (hm : ∀ b ∈ e.rd, ent m' b = ent m b) : vins P i T' m' nid h = some e := by
  cases i
  case call f args =>
    simp only [vins, I.rd] at hv hT ⊢
    rw [vvs_congr hT]
    exact vcall_congr hv hm
  case callv x args =>
    simp only [vins, I.rd, List.mem_append] at hv hT ⊢
    rw [vv_congr (fun t ht => hT t (.inl ht)), vvs_congr (fun t ht => hT t (.inr ht))]
    split at hv
    · obtain ⟨hb, h1⟩ := bifS hv
      rw [hb]
      exact vcall_congr h1 hm
    · simp at hv
  all_goals
    simp only [vins] at hv ⊢
    rw [vop_T hT]
    exact vop_m hv hm
theorem stepI_congr {ins : Ins} {hint : Hint} (hv : stepI P ins T m nid hint = some e) (hT : ∀ t ∈ ins.rd, T' t = T t) (hm : ∀ b ∈ e.rd, ent m' b = ent m b) : stepI P ins T' m' nid hint = some e := by
  have hg : guardOk T' ins.g = guardOk T ins.g := by
    unfold guardOk
    split
    · rfl
    · rename_i t want hgg
      rw [hT t (by simp [Ins.rd, hgg])]
  unfold stepI at hv ⊢
  rw [hg]
  split at hv
  · split at hv
    · rename_i e0 he0
      have hrd : e0.rd = e.rd := by
        split at hv
        · injection hv with hv; rw [hv]
        · injection hv with hv; rw [← hv]
      rw [vins_congr he0 (fun t ht => hT t (by simp [Ins.rd, ht])) (fun b hb => hm b (by rw [← hrd]; exact hb))]
      exact hv
    · simp at hv
  · exact hv
  · simp at hv
end Go.Proofs.Ytohleiikedpmkaa.Vm

namespace Go.Proofs.Ytohleiikedpmkaa.Vm
open Go
def val {X Y : Type} (f : Nat → X → Option Y) (S : Nat → Bool) (g : X → Y) : Nat → X → Y
  | 0, x => g x
  | n + 1, x => if S n = true then (match f n x with | some y => y | none => val f S g n x) else val f S g n x
theorem val_skip {X Y : Type} {f : Nat → X → Option Y} {S : Nat → Bool} {g : X → Y} {x : X} {j : Nat} : ∀ n, j ≤ n → (∀ i, j ≤ i → i < n → S i = true → f i x = none) → val f S g n x = val f S g j x
  | 0, h, _ => by have : j = 0 := by omega
                  subst this; rfl
  | n + 1, h, H => by
    by_cases hj : j = n + 1
    · subst hj; rfl
    · rw [val]
      have ih := val_skip (f := f) (S := S) (g := g) (x := x) n (by omega) (fun i h1 h2 => H i h1 (by omega))
      split
      · rename_i hs
        rw [H n (by omega) (by omega) hs]; exact ih
      · exact ih
theorem val_all {X Y : Type} {f : Nat → X → Option Y} {S : Nat → Bool} {g : X → Y} {x : X} : ∀ j, (∀ i, i < j → f i x ≠ none → S i = true) → val f S g j x = val f (fun _ => true) g j x
  | 0, _ => rfl
  | n + 1, H => by
    rw [val, val]
    have ih := val_all (f := f) (S := S) (g := g) (x := x) n (fun i h1 => H i (by omega))
    simp only [if_true]
    cases hf : f n x with
    | none => simp [ih]
    | some y => rw [H n (by omega) (by rw [hf]; simp)]; simp
theorem val_add {X Y : Type} {f : Nat → X → Option Y} {S : Nat → Bool} {g : X → Y} {x : X} {j : Nat} : ∀ n, j < n → (∀ i, j < i → i < n → S i = true → f i x ≠ none → f j x = none) →
    val f (fun i => if i = j then true else S i) g n x = match f j x with | some y => y | none => val f S g n x
  | 0, h, _ => by omega
  | n + 1, h, H => by
    by_cases hj : j = n
    · subst hj
      rw [val]
      simp only [if_true]
      have e1 : val f (fun i => if i = j then true else S i) g j x = val f S g j x := by
        have : ∀ k, k ≤ j → val f (fun i => if i = j then true else S i) g k x = val f S g k x := by
          intro k
          induction k with
          | zero => intro _; rfl
          | succ k ih =>
            intro hk
            rw [val, val, ih (by omega)]
            have : ¬ k = j := by omega
            simp [this]
        exact this j (Nat.le_refl _)
      cases hf : f j x with
      | some y => rfl
      | none =>
        simp only
        rw [e1, val]
        split <;> simp [hf]
    · have ih := val_add (f := f) (S := S) (g := g) (x := x) n (by omega) (fun i h1 h2 => H i h1 (by omega))
      rw [val]
      have hnj : ¬ n = j := fun h => hj h.symm
      simp only [if_neg hnj]
      by_cases hs : S n = true
      · rw [if_pos hs]
        cases hf : f n x with
        | some y =>
          have hjn := H n (by omega) (by omega) hs (by rw [hf]; simp)
          rw [hjn]
          simp only
          rw [val, if_pos hs, hf]
        | none =>
          simp only
          rw [ih]
          cases f j x with
          | some y => rfl
          | none => simp only; rw [val, if_pos hs, hf]
      · rw [if_neg hs, ih]
        cases f j x with
        | some y => rfl
        | none => simp only; rw [val, if_neg hs]
def stT : List Ins → List Eff → Nat → Tm → Tm
  | i :: r, e :: es, k + 1, tm => stT r es k (putD tm i.dst e.v)
  | _, _, _, tm => tm
def stM : List Eff → Nat → Mem → Mem
  | e :: es, k + 1, m => stM es k (e.app m)
  | _, _, m => m
theorem stT_succ : ∀ {l : List Ins} {es : List Eff} {k : Nat} {tm : Tm} {i : Ins} {e : Eff}, l[k]? = some i → es[k]? = some e → stT l es (k + 1) tm = putD (stT l es k tm) i.dst e.v
  | [], _, _, _, _, _, h, _ => by simp at h
  | _ :: _, [], _, _, _, _, _, h => by simp at h
  | i' :: r, e' :: es, 0, tm, i, e, h1, h2 => by
    simp at h1 h2; subst h1; subst h2
    cases r <;> cases es <;> simp [stT]
  | i' :: r, e' :: es, k + 1, tm, i, e, h1, h2 => by
    simp at h1 h2
    rw [stT, stT_succ h1 h2, stT]
theorem stM_succ : ∀ {es : List Eff} {k : Nat} {m : Mem} {e : Eff}, es[k]? = some e → stM es (k + 1) m = e.app (stM es k m)
  | [], _, _, _, h => by simp at h
  | e' :: es, 0, m, e, h => by
    simp at h; subst h
    cases es <;> simp [stM]
  | e' :: es, k + 1, m, e, h => by
    simp at h
    rw [stM, stM_succ h, stM]
theorem vregs_trace {P : Program} {nt base : Nat} : ∀ {l : List Ins} {j : Nat} {tm : Tm} {me : Mem} {g : G} {tm' : Tm} {me' : Mem} {g' : G} {es : List Eff}, vregs P nt base l j tm me g = some (tm', me', g', es) →
    es.length = l.length ∧ tm' = stT l es l.length tm ∧ me' = stM es l.length me ∧ ∀ (k : Nat) (i : Ins) (e : Eff), l[k]? = some i → es[k]? = some e → effOk e = true ∧ dstOk nt i.dst = true ∧ ∃ hint, stepI P i (getT (stT l es k tm)) (stM es k me) (base + WW * (j + k)) hint = some e
  | [], j, tm, me, g, tm', me', g', es, h => by
    simp only [vregs] at h
    injection h with h; injection h with e1 h; injection h with e2 h; injection h with e3 e4
    subst e1; subst e2; subst e4
    exact ⟨rfl, rfl, rfl, by simp⟩
  | ins :: r, j, tm, me, g, tm', me', g', es, h => by
    simp only [vregs] at h
    split at h
    · simp at h
    · rename_i e he
      obtain ⟨hb, h⟩ := bifS h
      simp only [Bool.and_eq_true] at hb
      split at h
      · rename_i tm2 me2 g2 es2 h2
        injection h with h; injection h with e1 h; injection h with e2 h; injection h with e3 e4
        subst e1; subst e2; subst e3; subst e4
        obtain ⟨k1, k2, k3, k4⟩ := vregs_trace h2
        refine ⟨by simp [k1], by simpa [stT] using k2, by simpa [stM] using k3, ?_⟩
        intro k i e' h1 h2
        cases k with
        | zero =>
          simp at h1 h2; subst h1; subst h2
          refine ⟨hb.1, hb.2, g.hint, ?_⟩
          simp only [stT, stM]
          exact he
        | succ k =>
          simp at h1 h2
          obtain ⟨q1, q2, hint, q3⟩ := k4 k i e' h1 h2
          refine ⟨q1, q2, hint, ?_⟩
          rw [stT, stM]
          have : j + (k + 1) = j + 1 + k := by omega
          rw [this]
          exact q3
      · simp at h
def fT (l : List Ins) (es : List Eff) (j : Nat) (t : Nat) : Option V :=
  match l[j]?, es[j]? with
  | some i, some e => if i.dst = some t then some e.v else none
  | _, _ => none
def fM (es : List Eff) (j : Nat) (b : Nat) : Option (Option Ent) :=
  match es[j]? with
  | some e => if b ∈ keysOf e.up then some (ent e.up b) else if b ∈ e.kill then some none else none
  | none => none
theorem getT_putD (tm : Tm) (d : Option Nat) (v : V) (t : Nat) : getT (putD tm d v) t = if d = some t then v else getT tm t := by
  cases d with
  | none => simp [putD]
  | some d =>
    rw [putD, getT_putT]
    by_cases h : t = d
    · subst h; simp
    · have : ¬ d = t := fun e => h e.symm
      simp [h, this]
theorem stT_val {tm : Tm} {l : List Ins} {es : List Eff} (hl : es.length = l.length) : ∀ k, k ≤ l.length → ∀ t, getT (stT l es k tm) t = val (fT l es) (fun _ => true) (getT tm) k t
  | 0, _, t => by
    cases l <;> cases es <;> rfl
  | k + 1, hk, t => by
    have h1 : l[k]? = some l[k] := by simp
    have h2 : es[k]? = some (es[k]'(by omega)) := by simp
    rw [stT_succ h1 h2, getT_putD, val]
    simp only [if_true, fT, h1, h2]
    rw [stT_val hl k (by omega) t]
    split <;> rfl
theorem stM_val {me : Mem} {es : List Eff} (hok : ∀ (k : Nat) (e : Eff), es[k]? = some e → effOk e = true) : ∀ k, k ≤ es.length → ∀ b, ent (stM es k me) b = val (fM es) (fun _ => true) (ent me) k b
  | 0, _, b => by cases es <;> rfl
  | k + 1, hk, b => by
    have h2 : es[k]? = some es[k] := by simp
    rw [stM_succ h2, ent_app (hok k _ h2), val]
    simp only [if_true, fM, h2]
    rw [stM_val hok k (by omega) b]
    by_cases h1 : b ∈ keysOf es[k].up
    · simp [h1]
    · by_cases h3 : b ∈ es[k].kill <;> simp [h1, h3]
theorem meetN_false {l l' : List Nat} : meetN l l' = false → ∀ b ∈ l, b ∉ l' := by
  induction l with
  | nil => intro _ b h; simp at h
  | cons c r ih =>
    intro h b hb
    simp only [meetN, Bool.or_eq_false_iff, memN_false] at h
    rcases List.mem_cons.1 hb with rfl | hb
    · exact h.1
    · exact ih h.2 b hb
theorem uniN_mem {q : Nat} : ∀ {l acc : List Nat}, q ∈ uniN l acc → q ∈ l ∨ q ∈ acc
  | [], _, h => .inr h
  | x :: r, acc, h => by
    unfold uniN at h
    cases hb : memN x acc with
    | true =>
      rw [hb] at h
      rcases uniN_mem (l := r) h with h | h
      · exact .inl (List.mem_cons_of_mem _ h)
      · exact .inr h
    | false =>
      rw [hb] at h
      rcases uniN_mem (l := r) h with h | h
      · exact .inl (List.mem_cons_of_mem _ h)
      · rcases List.mem_cons.mp h with h | h
        · exact .inl (h ▸ List.mem_cons_self)
        · exact .inr h
theorem aheadA_mem {cl : List (List Nat)} {q : Nat} : ∀ {pre acc : List Nat}, q ∈ aheadA cl pre acc → q ∈ acc ∨ q ∈ pre ∨ ∃ p ∈ pre, q ∈ cl.getD p []
  | [], _, h => .inl h
  | p :: r, [], h => by
    unfold aheadA at h
    rcases aheadA_mem (pre := r) h with h | h | ⟨p', h1, h2⟩
    · rcases List.mem_cons.mp h with h | h
      · exact .inr (.inl (h ▸ List.mem_cons_self))
      · exact .inr (.inr ⟨p, List.mem_cons_self, h⟩)
    · exact .inr (.inl (List.mem_cons_of_mem _ h))
    · exact .inr (.inr ⟨p', List.mem_cons_of_mem _ h1, h2⟩)
  | p :: r, a :: acc, h => by
    unfold aheadA at h
    cases hb : memN p (a :: acc) with
    | true =>
      rw [hb] at h
      rcases aheadA_mem (pre := r) h with h | h | ⟨p', h1, h2⟩
      · exact .inl h
      · exact .inr (.inl (List.mem_cons_of_mem _ h))
      · exact .inr (.inr ⟨p', List.mem_cons_of_mem _ h1, h2⟩)
    | false =>
      rw [hb] at h
      rcases aheadA_mem (pre := r) h with h | h | ⟨p', h1, h2⟩
      · rcases uniN_mem h with h | h
        · exact .inr (.inr ⟨p, List.mem_cons_self, h⟩)
        · rcases List.mem_cons.mp h with h | h
          · exact .inr (.inl (h ▸ List.mem_cons_self))
          · exact .inl h
      · exact .inr (.inl (List.mem_cons_of_mem _ h))
      · exact .inr (.inr ⟨p', List.mem_cons_of_mem _ h1, h2⟩)
theorem ahead_mem {cl : List (List Nat)} {q : Nat} {pre : List Nat} (h : q ∈ ahead cl pre) : q ∈ pre ∨ ∃ p ∈ pre, q ∈ cl.getD p [] := by
  rcases aheadA_mem h with h | h
  · cases h
  · exact h
theorem clos_get : ∀ (l : List Ins) (cl : List (List Nat)) (j : Nat), (j < cl.length → (clos l cl).getD j [] = cl.getD j []) ∧ (∀ i, l[j]? = some i → (clos l cl).getD (cl.length + j) [] = ahead ((clos l cl).take (cl.length + j)) i.pre)
  | [], cl, j => ⟨fun _ => rfl, by simp⟩
  | i :: r, cl, j => by
    have hpre : ∀ (l : List Ins) (c : List (List Nat)), ∃ t, clos l c = c ++ t := by
      intro l
      induction l with
      | nil => intro c; exact ⟨[], by simp [clos]⟩
      | cons x r ih => intro c; obtain ⟨t, ht⟩ := ih (c ++ [ahead c x.pre]); exact ⟨ahead c x.pre :: t, by rw [clos, ht]; simp⟩
    refine ⟨fun h => ?_, fun x hx => ?_⟩
    · rw [clos, (clos_get r _ j).1 (by simp; omega)]
      simp [List.getD_eq_getElem?_getD, List.getElem?_append, h]
    · cases j with
      | zero =>
        simp at hx; subst hx
        obtain ⟨t, ht⟩ := hpre r (cl ++ [ahead cl i.pre])
        rw [clos, ht]
        simp [List.getD_eq_getElem?_getD]
      | succ j =>
        simp at hx
        have := (clos_get r (cl ++ [ahead cl i.pre]) j).2 x hx
        rw [clos]
        simp only [List.length_append, List.length_cons, List.length_nil] at this
        rw [show cl.length + (j + 1) = cl.length + (0 + 1) + j by omega]
        exact this
theorem cl_step {l : List Ins} {j q : Nat} {i : Ins} (hi : l[j]? = some i) (h : q ∈ (clos l []).getD j []) : q ∈ i.pre ∨ ∃ p ∈ i.pre, q ∈ (clos l []).getD p [] := by
  have := (clos_get l [] j).2 i hi
  simp only [List.length_nil, Nat.zero_add] at this
  rw [this] at h
  rcases ahead_mem h with h | ⟨p, h1, h2⟩
  · exact .inl h
  · refine .inr ⟨p, h1, ?_⟩
    simp only [List.getD_eq_getElem?_getD, List.getElem?_take] at h2 ⊢
    split at h2
    · exact h2
    · simp at h2
theorem okPairs_get {cl : List (List Nat)} {j : Nat} {ij : Ins} {ej : Eff} : ∀ (l : List Ins) (es : List Eff) (k : Nat), okPairs cl j ij ej l es k = true → ∀ (n : Nat) (i : Ins) (e : Eff), l[n]? = some i → es[n]? = some e → k + n < j → clash i ij e ej = true → k + n ∈ cl.getD j []
  | [], _, _, _, n, i, e, h, _, _, _ => by simp at h
  | _ :: _, [], _, _, n, i, e, _, h, _, _ => by simp at h
  | i' :: r, e' :: es, k, H, n, i, e, h1, h2, hn, hc => by
    unfold okPairs at H
    have hkj : Nat.blt k j = true := by simp only [Nat.blt]; exact Nat.ble_eq_true_of_le (by omega)
    rw [hkj] at H
    simp only [cond_true, Bool.and_eq_true, Bool.or_eq_true, Bool.not_eq_true', memN_iff] at H
    cases n with
    | zero =>
      simp at h1 h2; subst h1; subst h2
      rcases H.1 with h | h
      · rw [hc] at h; simp at h
      · exact h
    | succ n =>
      simp at h1 h2
      have := okPairs_get r es (k + 1) H.2 n i e h1 h2 (by omega) hc
      rw [show k + (n + 1) = k + 1 + n by omega]
      exact this
theorem below_mem {j : Nat} : ∀ {l : List Nat}, below j l = true → ∀ p ∈ l, p < j
  | [], _, p, h => by simp at h
  | q :: r, H, p, h => by
    simp only [below, Bool.and_eq_true] at H
    rcases List.mem_cons.1 h with rfl | h
    · exact Nat.lt_of_succ_le (Nat.le_of_ble_eq_true H.1)
    · exact below_mem H.2 p h
theorem okDraws_get {cl : List (List Nat)} {ops : List Ins} {es0 : List Eff} : ∀ (l : List Ins) (es : List Eff) (j0 : Nat), okDraws cl ops es0 l es j0 = true → ∀ (n : Nat) (i : Ins) (e : Eff), l[n]? = some i → es[n]? = some e → below (j0 + n) i.pre = true ∧ okPairs cl (j0 + n) i e ops es0 0 = true
  | [], _, _, _, n, i, e, h, _ => by simp at h
  | _ :: _, [], _, _, n, i, e, _, h => by simp at h
  | i' :: r, e' :: es, j0, H, n, i, e, h1, h2 => by
    unfold okDraws at H
    simp only [Bool.and_eq_true] at H
    cases n with
    | zero => simp at h1 h2; subst h1; subst h2; exact H.1
    | succ n =>
      simp at h1 h2
      have := okDraws_get r es (j0 + 1) H.2 n i e h1 h2
      rw [show j0 + (n + 1) = j0 + 1 + n by omega]
      exact this
theorem clash_false {i j : Ins} {e f : Eff} (h : clash i j e f = false) : (∀ d, i.dst = some d → d ∉ j.rd) ∧ (∀ d, j.dst = some d → d ∉ i.rd) ∧ (∀ d, i.dst = some d → j.dst ≠ some d) ∧ (∀ b ∈ e.writes, b ∉ f.rd) ∧ (∀ b ∈ e.writes, b ∉ f.writes) ∧ (∀ b ∈ e.rd, b ∉ f.writes) := by
  simp only [clash, Bool.or_eq_false_iff] at h
  obtain ⟨⟨⟨⟨⟨h1, h2⟩, h3⟩, h4⟩, h5⟩, h6⟩ := h
  refine ⟨?_, ?_, ?_, meetN_false h4, meetN_false h5, meetN_false h6⟩
  · intro d hd
    rw [hd] at h1
    exact memN_false.1 h1
  · intro d hd
    rw [hd] at h2
    exact memN_false.1 h2
  · intro d hd hj
    rw [hd, hj] at h3
    simp [dstEq] at h3
end Go.Proofs.Ytohleiikedpmkaa.Vm

namespace Go.Proofs.Ytohleiikedpmkaa.Vm
open Go
variable {Γ : Ctx} {P : Program} {φ φ' : Phi} {tm : Tm} {me : Mem} {a : Act} {w w' : World} {e : Eff}
theorem mapO_get {α β : Type} {f : α → Option β} : ∀ {l : List α} {r : List β}, mapO f l = some r → l.length = r.length ∧ ∀ (j : Nat) (x : α), l[j]? = some x → ∃ y, r[j]? = some y ∧ f x = some y := by
  intro l r h
  have := mapO_all2 h
  refine ⟨this.length.symm, fun j x hx => ?_⟩
  have hj : j < r.length := by
    have := (List.getElem?_eq_some_iff.1 hx).1
    rw [(mapO_all2 h).length]; exact this
  obtain ⟨y, hy, hr⟩ := this.get j r[j] (by simp [hj])
  rw [hx] at hy
  injection hy with hy
  subst hy
  exact ⟨r[j], by simp [hj], hr⟩
theorem RS.congr {tm' : Tm} {me' : Mem} (R : RS Γ φ tm me a w) (ht : ∀ t, getT tm' t = getT tm t) (hm : ∀ b, ent me' b = ent me b) : RS Γ φ tm' me' a w := by
  have hl : ∀ b i, look me' b i = look me b i := fun b i => look_congr (hm b) i
  refine ⟨R.le, ⟨R.mem.glob, fun b i k h => R.mem.blk b i k (by rw [← hl]; exact h), fun b i k l b' i' k' l' h h' => R.mem.inj b i k l b' i' k' l' (by rw [← hl]; exact h) (by rw [← hl]; exact h')⟩, fun n => by rw [ht]; exact R.tmp n, R.keeps, fun b i k l h => R.owned b i k l (by rw [← hl]; exact h), R.size, R.defers, R.new⟩
theorem fT_writes {l : List Ins} {es : List Eff} {j t : Nat} {i : Ins} {e : Eff} (h1 : l[j]? = some i) (h2 : es[j]? = some e) (h : fT l es j t ≠ none) : i.dst = some t := by
  simp only [fT, h1, h2] at h
  by_cases hd : i.dst = some t
  · exact hd
  · simp [hd] at h
theorem fM_writes {es : List Eff} {j b : Nat} {e : Eff} (h2 : es[j]? = some e) (h : fM es j b ≠ none) : b ∈ e.writes := by
  simp only [fM, h2] at h
  simp only [Eff.writes, List.mem_append]
  by_cases h1 : b ∈ keysOf e.up
  · exact .inr h1
  · by_cases h3 : b ∈ e.kill
    · exact .inl h3
    · simp [h1, h3] at h
theorem draw_sound {ops : Array Oper} {base : Nat} {Q : Exit → Act → World → Prop} (hP : Γ.P = P) (hn0 : Γ.n0 ≤ base) {l : List Ins} {g g' : G} {tm' : Tm} {me' : Mem} {es : List Eff}
    (hl : mapO (cIns P ops) ops.toList = some l) (hv : vregs P Γ.nt base l 0 tm me g = some (tm', me', g', es)) (hcs : ∀ q ∈ g'.cs, q) (hdr : okDraw l es = true) (R : RS Γ φ tm me a w) (hf : Fresh φ base)
    (hQ : ∀ φ' a' w', φ.le φ' → Fresh φ' (base + WW * l.length) → RS Γ φ' tm' me' a' w' → Q .normal a' w') :
    wpAny P .any ops Q ops.size (Array.replicate ops.size false) a w := by
  obtain ⟨hel, htm, hme, htr⟩ := vregs_trace hv
  obtain ⟨hlen, hget⟩ := mapO_get hl
  have hall := (vregs_cs hv hcs).2
  have hsz : ops.size = l.length := by simpa using hlen
  have hokE : ∀ (k : Nat) (e : Eff), es[k]? = some e → effOk e = true := by
    intro k e he
    have hk : k < l.length := by have := (List.getElem?_eq_some_iff.1 he).1; omega
    exact (htr k l[k] e (by simp [hk]) he).1
  have hpair : ∀ (i j : Nat) (ii ij : Ins) (ei ej : Eff), l[i]? = some ii → l[j]? = some ij → es[i]? = some ei → es[j]? = some ej → i < j → clash ii ij ei ej = true → i ∈ (clos l []).getD j [] := by
    intro i j ii ij ei ej h1 h2 h3 h4 hij hc
    have := okDraws_get l es 0 hdr j ij ej h2 h4
    simp only [Nat.zero_add] at this
    have := okPairs_get l es 0 this.2 i ii ei h1 h3 (by omega) hc
    simpa using this
  have hbelow : ∀ (j : Nat) (ij : Ins), l[j]? = some ij → ∀ p ∈ ij.pre, p < j := by
    intro j ij h2
    have hj : j < es.length := by have := (List.getElem?_eq_some_iff.1 h2).1; omega
    have := okDraws_get l es 0 hdr j ij es[j] h2 (by simp [hj])
    simp only [Nat.zero_add] at this
    exact below_mem this.1
  have hafter : ∀ (j : Nat) (o : Oper), ops[j]? = some o → ∃ ij, l[j]? = some ij ∧ cIns P ops o = some ij ∧ ij.pre = (o.after.toList.filter (Region.binds .any)).map (·.on) := by
    intro j o ho
    obtain ⟨ij, h1, h2⟩ := hget j o (by simpa using ho)
    refine ⟨ij, h1, h2, ?_⟩
    unfold cIns at h2
    split at h2
    · simp at h2
    · simp only at h2
      split at h2
      · injection h2 with h2; subst h2; rfl
      · split at h2
        · injection h2 with h2; subst h2; rfl
        · simp at h2
  suffices key : ∀ (fuel : Nat) (listed : Array Bool) (φ1 : Phi) (tm1 : Tm) (me1 : Mem) (a1 : Act) (w1 : World),
      listed.size = ops.size → ((List.range ops.size).countP fun i => listed.getD i false) + fuel = ops.size →
      (∀ j, j < ops.size → listed.getD j false = true → ∀ p ∈ (clos l []).getD j [], listed.getD p false = true) →
      φ.le φ1 → (∀ b i lc, φ1 b i = some lc → φ b i = some lc ∨ ∃ q, q < ops.size ∧ listed.getD q false = true ∧ base + WW * q ≤ b ∧ b < base + WW * q + WW) →
      RS Γ φ1 tm1 me1 a1 w1 → (∀ t, getT tm1 t = val (fT l es) (fun i => listed.getD i false) (getT tm) l.length t) → (∀ b, ent me1 b = val (fM es) (fun i => listed.getD i false) (ent me) l.length b) →
      wpAny P .any ops Q fuel listed a1 w1 by
    have hrep : ∀ i, (Array.replicate ops.size false).getD i false = false := by
      intro i
      rw [Array.getD_eq_getD_getElem?, Array.getElem?_replicate]
      split <;> rfl
    refine key ops.size _ φ tm me a w (by simp) ?_ ?_ (Phi.le_refl φ) (fun _ _ _ h => .inl h) R ?_ ?_
    · have : ((List.range ops.size).countP fun i => (Array.replicate ops.size false).getD i false) = 0 := by
        rw [List.countP_eq_zero]
        intro i _
        rw [hrep]; simp
      omega
    · intro j _ h
      rw [hrep] at h; simp at h
    · intro t
      rw [val_skip l.length (Nat.zero_le _) (fun i _ hi hs => by rw [hrep] at hs; simp at hs)]
      rfl
    · intro b
      rw [val_skip l.length (Nat.zero_le _) (fun i _ hi hs => by rw [hrep] at hs; simp at hs)]
      rfl
  have done : ∀ (listed : Array Bool) (φ1 : Phi) (tm1 : Tm) (me1 : Mem) (a1 : Act) (w1 : World), (∀ j, j < ops.size → listed.getD j false = true) → φ.le φ1 →
      (∀ b i lc, φ1 b i = some lc → φ b i = some lc ∨ ∃ q, q < ops.size ∧ listed.getD q false = true ∧ base + WW * q ≤ b ∧ b < base + WW * q + WW) →
      RS Γ φ1 tm1 me1 a1 w1 → (∀ t, getT tm1 t = val (fT l es) (fun i => listed.getD i false) (getT tm) l.length t) → (∀ b, ent me1 b = val (fM es) (fun i => listed.getD i false) (ent me) l.length b) → Q .normal a1 w1 := by
    intro listed φ1 tm1 me1 a1 w1 hA hle hnew R1 ht hm
    refine hQ φ1 a1 w1 hle ?_ (R1.congr ?_ ?_)
    · intro b hb i
      cases hφ : φ1 b i with
      | none => rfl
      | some lc =>
        rcases hnew b i lc hφ with h | ⟨q, hq, _, h1, h2⟩
        · rw [hf b (by omega) i] at h; simp at h
        · have : WW * (q + 1) ≤ WW * l.length := Nat.mul_le_mul_left _ (by omega)
          rw [Nat.mul_succ] at this
          omega
    · intro t
      rw [htm, stT_val hel _ (Nat.le_refl _), ht]
      exact (val_all _ fun i hi _ => hA i (by omega)).symm
    · intro b
      rw [hme, stM_val hokE _ (by omega), hm]
      exact (val_all _ fun i hi _ => hA i (by omega)).symm
  intro fuel
  induction fuel with
  | zero =>
    intro listed φ1 tm1 me1 a1 w1 hs hcount hcl hle hnew R1 ht hm
    have hA : ∀ j, j < ops.size → listed.getD j false = true := by
      intro j hj
      have h1 : ((List.range ops.size).countP fun i => listed.getD i false) = (List.range ops.size).length := by rw [List.length_range]; omega
      rw [List.countP_eq_length] at h1
      exact h1 j (by simpa using hj)
    refine ⟨?_, done listed φ1 tm1 me1 a1 w1 hA hle hnew R1 ht hm⟩
    unfold Region.ready
    rw [List.filter_eq_nil_iff]
    intro i hi
    simp at hi
    have := hA i hi
    have h2 : listed.getD i true = true := by
      have hi' : i < listed.size := by omega
      simpa [hi'] using this
    simp [h2]
  | succ fuel ih =>
    intro listed φ1 tm1 me1 a1 w1 hs hcount hcl hle hnew R1 ht hm
    refine ⟨fun hr => ?_, fun j hj => ?_⟩
    ·
      refine done listed φ1 tm1 me1 a1 w1 ?_ hle hnew R1 ht hm
      intro j
      induction j using Nat.strongRecOn with
      | _ j ihj =>
        intro hj
        cases hlj : listed.getD j false with
        | true => rfl
        | false =>
          exfalso
          have ho : ops[j]? = some ops[j] := by simp [hj]
          obtain ⟨ij, h1, h2, h3⟩ := hafter j _ ho
          have : j ∈ Region.ready .any ops listed := by
            unfold Region.ready
            rw [List.mem_filter]
            refine ⟨by simpa using hj, ?_⟩
            have hj' : j < listed.size := by omega
            have hlt : listed.getD j true = false := by simpa [hj'] using hlj
            simp only [hlt, Bool.not_false, Bool.true_and, ho, Option.map_some, Option.getD_some, Array.all_eq_true_iff_forall_mem]
            intro ed hed
            cases hb : Region.binds .any ed with
            | false => simp
            | true =>
              have hp : ed.on ∈ ij.pre := by
                rw [h3, List.mem_map]
                exact ⟨ed, by rw [List.mem_filter]; exact ⟨by simpa using hed, hb⟩, rfl⟩
              have hlt2 := hbelow j ij h1 _ hp
              simp [ihj _ hlt2 (by omega)]
          rw [hr] at this
          simp at this
    ·
      unfold Region.ready at hj
      rw [List.mem_filter] at hj
      obtain ⟨hjr, hj2⟩ := hj
      have hjs : j < ops.size := by simpa using hjr
      have hjl : j < listed.size := by omega
      have ho : ops[j]? = some ops[j] := by simp [hjs]
      obtain ⟨ij, hij, hcij, hpre⟩ := hafter j _ ho
      have hje : j < es.length := by omega
      have hej : es[j]? = some es[j] := by simp [hje]
      simp only [ho, Option.map_some, Option.getD_some, Bool.and_eq_true, Bool.not_eq_true', Array.all_eq_true_iff_forall_mem] at hj2
      obtain ⟨hnl, hpr⟩ := hj2
      have hnl' : listed.getD j false = false := by simpa [hjl] using hnl
      have hprS : ∀ p ∈ ij.pre, listed.getD p false = true := by
        intro p hp
        rw [hpre, List.mem_map] at hp
        obtain ⟨ed, h1, rfl⟩ := hp
        rw [List.mem_filter] at h1
        have := hpr ed (by simpa using h1.1)
        simpa [h1.2] using this
      have hclj : ∀ q ∈ (clos l []).getD j [], listed.getD q false = true := by
        intro q hq
        rcases cl_step hij hq with h | ⟨p, h1, h2⟩
        · exact hprS q h
        · have hp := hprS p h1
          have hpj := hbelow j ij hij p h1
          exact hcl p (by omega) hp q h2
      have before : ∀ (i : Nat) (ii : Ins) (ei : Eff), l[i]? = some ii → es[i]? = some ei → i < j → clash ii ij ei es[j] = true → listed.getD i false = true := by
        intro i ii ei h1 h2 h3 h4
        exact hclj i (hpair i j ii ij ei es[j] h1 hij h2 hej h3 h4)
      have behind : ∀ (i : Nat) (ii : Ins) (ei : Eff), l[i]? = some ii → es[i]? = some ei → j < i → listed.getD i false = true → clash ij ii es[j] ei = false := by
        intro i ii ei h1 h2 h3 h4
        cases hc : clash ij ii es[j] ei with
        | false => rfl
        | true =>
          have hi : i < ops.size := by have := (List.getElem?_eq_some_iff.1 h1).1; omega
          have := hcl i hi h4 j (hpair j i ij ii es[j] ei hij h1 hej h2 h3 hc)
          rw [hnl'] at this
          simp at this
      have getl : ∀ i, i < l.length → ∃ ii ei, l[i]? = some ii ∧ es[i]? = some ei := fun i hi => ⟨l[i], es[i]'(by omega), by simp [hi], by simp⟩
      obtain ⟨hok, hd, hint, hst⟩ := htr j ij es[j] hij hej
      have hT : ∀ t ∈ ij.rd, getT tm1 t = getT (stT l es j tm) t := by
        intro t ht'
        rw [ht, stT_val hel j (by omega)]
        rw [val_skip (j := j) l.length (by omega) (fun i h1 h2 h3 => ?_)]
        · refine val_all j fun i h1 h2 => ?_
          obtain ⟨ii, ei, k1, k2⟩ := getl i (by omega)
          refine before i ii ei k1 k2 h1 ?_
          cases hc : clash ii ij ei es[j] with
          | true => rfl
          | false => exact absurd ht' ((clash_false hc).1 t (fT_writes k1 k2 h2))
        · by_cases hij' : i = j
          · subst hij'; rw [hnl'] at h3; simp at h3
          · obtain ⟨ii, ei, k1, k2⟩ := getl i h2
            have hc := behind i ii ei k1 k2 (by omega) h3
            cases hff : fT l es i t with
            | none => rfl
            | some y => exact absurd ht' ((clash_false hc).2.1 t (fT_writes k1 k2 (by rw [hff]; simp)))
      have hM : ∀ b ∈ (es[j]).rd, ent me1 b = ent (stM es j me) b := by
        intro b hb'
        rw [hm, stM_val hokE j (by omega)]
        rw [val_skip (j := j) l.length (by omega) (fun i h1 h2 h3 => ?_)]
        · refine val_all j fun i h1 h2 => ?_
          obtain ⟨ii, ei, k1, k2⟩ := getl i (by omega)
          refine before i ii ei k1 k2 h1 ?_
          cases hc : clash ii ij ei es[j] with
          | true => rfl
          | false => exact absurd hb' ((clash_false hc).2.2.2.1 b (fM_writes k2 h2))
        · by_cases hij' : i = j
          · subst hij'; rw [hnl'] at h3; simp at h3
          · obtain ⟨ii, ei, k1, k2⟩ := getl i h2
            have hc := behind i ii ei k1 k2 (by omega) h3
            cases hff : fM es i b with
            | none => rfl
            | some y => exact absurd (fM_writes k2 (by rw [hff]; simp)) ((clash_false hc).2.2.2.2.2 b hb')
      have hst1 := stepI_congr hst hT hM
      simp only [Nat.zero_add] at hst1
      refine stepI_sound (Γ := Γ) hP hcij ho hst1 (hall _ (List.getElem_mem hje)) hok hd R1 (Nat.le_trans hn0 (Nat.le_add_right _ _)) ?_ ?_
      · intro b hb1 hb2 i
        cases hφ : φ1 b i with
        | none => rfl
        | some lc =>
          rcases hnew b i lc hφ with h | ⟨q, hq, hq2, h1, h2⟩
          · rw [hf b (by omega) i] at h; simp at h
          · exfalso
            have hqj : q ≠ j := fun e => by subst e; rw [hnl'] at hq2; simp at hq2
            rcases Nat.lt_or_gt_of_ne hqj with hlt | hgt
            · have : WW * (q + 1) ≤ WW * j := Nat.mul_le_mul_left _ hlt
              rw [Nat.mul_succ] at this; omega
            · have : WW * (j + 1) ≤ WW * q := Nat.mul_le_mul_left _ hgt
              rw [Nat.mul_succ] at this; omega
      · intro φ2 a2 w2 hle2 hnew2 R2
        have hgd : ∀ i, (listed.setIfInBounds j true).getD i false = if i = j then true else listed.getD i false := by
          intro i
          simp only [Array.getD_eq_getD_getElem?, Array.getElem?_setIfInBounds]
          by_cases hi : j = i
          · subst hi; simp [hjl]
          · have : ¬ i = j := fun e => hi e.symm
            simp [hi, this]
        refine ih (listed.setIfInBounds j true) φ2 _ _ a2 w2 (by simp [hs]) ?_ ?_ (Phi.le_trans hle hle2) ?_ R2 ?_ ?_
        · have hcnt : ((List.range ops.size).countP fun i => (listed.setIfInBounds j true).getD i false) = ((List.range ops.size).countP fun i => listed.getD i false) + 1 := by
            have gen : ∀ n, ((List.range n).countP fun i => (listed.setIfInBounds j true).getD i false) = ((List.range n).countP fun i => listed.getD i false) + (if j < n then 1 else 0) := by
              intro n
              induction n with
              | zero => simp
              | succ n ihn =>
                rw [List.range_succ, List.countP_append, List.countP_append, ihn]
                simp only [List.countP_singleton, hgd]
                by_cases hnj : n = j
                · subst hnj
                  simp [hnl']
                · have h1 : (j < n + 1) = (j < n) := by apply propext; omega
                  simp only [h1, if_neg hnj]
                  omega
            rw [gen ops.size, if_pos hjs]
          omega
        · intro i hi hli p hp
          rw [hgd] at hli ⊢
          by_cases hpj : p = j
          · simp [hpj]
          · rw [if_neg hpj]
            by_cases hij' : i = j
            · subst hij'; exact hclj p hp
            · rw [if_neg hij'] at hli
              exact hcl i hi hli p hp
        · intro b i lc h
          rcases hnew2 b i lc h with h | ⟨h1, h2⟩
          · rcases hnew b i lc h with h | ⟨q, hq, hq2, h1, h2⟩
            · exact .inl h
            · refine .inr ⟨q, hq, ?_, h1, h2⟩
              rw [hgd]; split
              · rfl
              · exact hq2
          · exact .inr ⟨j, hjs, by rw [hgd]; simp, h1, h2⟩
        · intro t
          have hfe : (fun i => (listed.setIfInBounds j true).getD i false) = (fun i => if i = j then true else listed.getD i false) := funext hgd
          rw [hfe, val_add l.length (by omega) (fun i h1 h2 h3 h4 => ?_), getT_putD, ht]
          · simp only [fT, hij, hej]
            by_cases hdd : ij.dst = some t
            · simp [hdd]
            · simp [hdd]
          · obtain ⟨ii, ei, k1, k2⟩ := getl i h2
            have hc := behind i ii ei k1 k2 h1 h3
            have hdi := fT_writes k1 k2 h4
            cases hff : fT l es j t with
            | none => rfl
            | some y => exact absurd hdi ((clash_false hc).2.2.1 t (fT_writes hij hej (by rw [hff]; simp)))
        · intro b
          have hfe : (fun i => (listed.setIfInBounds j true).getD i false) = (fun i => if i = j then true else listed.getD i false) := funext hgd
          rw [hfe, val_add l.length (by omega) (fun i h1 h2 h3 h4 => ?_), ent_app hok, hm]
          · simp only [fM, hej]
            by_cases h1 : b ∈ keysOf es[j].up
            · simp [h1]
            · by_cases h3 : b ∈ es[j].kill <;> simp [h1, h3]
          · obtain ⟨ii, ei, k1, k2⟩ := getl i h2
            have hc := behind i ii ei k1 k2 h1 h3
            have hdi := fM_writes k2 h4
            cases hff : fM es j b with
            | none => rfl
            | some y => exact absurd hdi ((clash_false hc).2.2.2.2.1 b (fM_writes hej (by rw [hff]; simp)))
end Go.Proofs.Ytohleiikedpmkaa.Vm

namespace Go.Proofs.Ytohleiikedpmkaa.Vm
open Go
variable {Γ : Ctx} {P : Program} {φ φ' : Phi} {tm : Tm} {me : Mem} {a : Act} {w w' : World} {e : Eff}
theorem VT.mono {c : Code} {s : S0} {Q Q' : Ex → S0 → Prop} (h : VT Γ c s Q) (hq : ∀ x s, Q x s → Q' x s) : VT Γ c s Q' :=
  fun φ a w R hf => wp_mono (h φ a w R hf) fun _ _ _ ⟨x, s, φ, h1, h2, h3⟩ => ⟨x, s, φ, h1, hq _ _ h2, h3⟩
theorem VT_seq {x y : Code} {s : S0} {Q : Ex → S0 → Prop} (h : VT Γ x s fun e s' => match e with | .normal => VT Γ y s' Q | e => Q e s') : VT Γ (.seq x y) s Q := by
  intro φ a w R hf
  refine wp_seq (wp_mono (h φ a w R hf) ?_)
  rintro e a' w' ⟨ex, s', φ', h1, h2, h3, h4⟩
  cases ex <;> cases e <;> simp only [Ex.is] at h1
  · exact h2 φ' a' w' h3 h4
  · subst h1; exact ⟨.exit _, s', φ', rfl, h2, h3, h4⟩
  · exact ⟨.ret, s', φ', trivial, h2, h3, h4⟩
theorem VT_block {id : Nat} {c : Code} {s : S0} {Q : Ex → S0 → Prop} (h : VT Γ c s fun e s' => match e with | .exit j => if j = id then Q .normal s' else Q (.exit j) s' | e => Q e s') : VT Γ (.block id c) s Q := by
  intro φ a w R hf
  refine wp_block (wp_mono (h φ a w R hf) ?_)
  rintro e a' w' ⟨ex, s', φ', h1, h2, h3, h4⟩
  cases ex <;> cases e <;> simp only [Ex.is] at h1
  · exact ⟨.normal, s', φ', trivial, h2, h3, h4⟩
  · subst h1
    rename_i j
    simp only [Exit.inBlock] at h2 ⊢
    by_cases hj : j = id
    · rw [if_pos hj] at h2 ⊢; exact ⟨.normal, s', φ', trivial, h2, h3, h4⟩
    · rw [if_neg hj] at h2 ⊢; exact ⟨.exit j, s', φ', rfl, h2, h3, h4⟩
  · exact ⟨.ret, s', φ', trivial, h2, h3, h4⟩
theorem VT_cond {x : Operand} {y : Opd} {t : Bool} {c d : Code} {s : S0} {Q : Ex → S0 → Prop} (hx : cOpd x = some y) (ht : vv (getT s.tm) y = .c (.bool t)) (h1 : t = true → VT Γ c s Q) (h2 : t = false → VT Γ d s Q) : VT Γ (.cond x c d) s Q := by
  intro φ a w R hf
  have hE : EV φ (getT s.tm) a := RT.ev R.mem.glob R.tmp
  have := hE x y hx
  rw [ht] at this
  exact wp_cond_split this.bool (fun e => h1 e φ a w R hf) (fun e => h2 e φ a w R hf)
theorem VT_loop {α : Type} {c : Code} (I : α → S0) (μ : α → Nat) {Q : Ex → S0 → Prop} (h : ∀ x, VT Γ c (I x) fun e s' => match e with
    | .normal => ∃ y, μ y < μ x ∧ ∀ φ a w, RS Γ φ s'.tm s'.me a w → (Fresh φ s'.nx ∧ Γ.n0 ≤ s'.nx) → ∃ φ', RS Γ φ' (I y).tm (I y).me a w ∧ (Fresh φ' (I y).nx ∧ Γ.n0 ≤ (I y).nx)
    | e => Q e s') (x : α) : VT Γ (.loop c) (I x) Q := by
  intro φ a w R hf
  have key : ∀ n x, μ x < n → ∀ φ a w, RS Γ φ (I x).tm (I x).me a w → (Fresh φ (I x).nx ∧ Γ.n0 ≤ (I x).nx) → Code.rounds Γ.P c (VPost Γ Q) n a w := by
    intro n
    induction n with
    | zero => intro x hx; omega
    | succ n ih =>
      intro x hx φ a w R hf
      rw [rounds_succ]
      refine wp_mono (h x φ a w R hf) ?_
      rintro e a' w' ⟨ex, s', φ', h1, h2, h3, h4⟩
      cases ex <;> cases e <;> simp only [Ex.is] at h1
      · obtain ⟨y, hy, hv⟩ := h2
        obtain ⟨φ2, h5, h6⟩ := hv φ' a' w' h3 h4
        exact ih y (by omega) φ2 a' w' h5 h6
      · subst h1; exact ⟨.exit _, s', φ', rfl, h2, h3, h4⟩
      · exact ⟨.ret, s', φ', trivial, h2, h3, h4⟩
  exact wp_loop_rounds (μ x + 1) (key (μ x + 1) x (by omega) φ a w R hf)
theorem getT_dropT (l : List Nat) : ∀ (t : Tm) (n : Nat), getT (dropT l t) n = .unk ∨ getT (dropT l t) n = getT t n := by
  have del : ∀ (t : Tm) (d n : Nat), getT (delT t d) n = .unk ∨ getT (delT t d) n = getT t n := by
    intro t d n
    induction t with
    | nil => exact .inr rfl
    | cons p r ih =>
      obtain ⟨c, v⟩ := p
      unfold delT
      by_cases h : c = d
      · subst h
        simp only [Nat.beq_refl, cond_true]
        by_cases hn : c = n
        · subst hn
          left
          have : ∀ (r : Tm), getT (delT r c) c = .unk := by
            intro r
            induction r with
            | nil => rfl
            | cons p r ih =>
              obtain ⟨c', v'⟩ := p
              unfold delT
              by_cases h : c' = c
              · subst h; simpa using ih
              · simp only [beqF h, cond_false, getT, ih]
          exact this r
        · simp only [getT, beqF hn, cond_false]; exact ih
      · simp only [beqF h, cond_false, getT]
        by_cases hn : c = n
        · subst hn; simp
        · simp only [beqF hn, cond_false]; exact ih
  induction l with
  | nil => intro t n; exact .inr rfl
  | cons d r ih =>
    intro t n
    rw [dropT]
    rcases ih (delT t d) n with h | h
    · exact .inl h
    · rw [h]; exact del t d n
theorem RS.drop (R : RS Γ φ tm me a w) (dt db : List Nat) : RS Γ φ (dropT dt tm) (delAll db me) a w := by
  have hl : ∀ b i k, look (delAll db me) b i = some k → look me b i = some k := by
    intro b i k h
    unfold look at h ⊢
    rw [ent_delAll] at h
    by_cases hb : b ∈ db
    · simp [hb] at h
    · simpa [hb] using h
  exact ⟨R.le, R.mem.sub hl, fun n => by
    rcases getT_dropT dt tm n with h | h
    · exact .inl h
    · rw [h]; exact R.tmp n, R.keeps, fun b i k l h => R.owned b i k l (hl b i k h), R.size, R.defers, R.new⟩
theorem vcode_cs {nt fuel : Nat} : ∀ (k : K) (s : S0) (g : G) (x : Ex) (s' : S0) (g' : G), vcode P nt fuel k (s, g) = some (x, s', g') → (∀ q ∈ g'.cs, q) → ∀ q ∈ g.cs, q
  | .skip, s, g, x, s', g', h, hq => by
    simp only [vcode] at h; injection h with h; injection h with _ h; injection h with _ h; subst h; exact hq
  | .reg ops dr, s, g, x, s', g', h, hq => by
    simp only [vcode] at h
    split at h
    · rename_i tm me g2 es hv
      obtain ⟨_, h⟩ := bifS h
      injection h with h; injection h with _ h; injection h with _ h; subst h
      exact (vregs_cs hv hq).1
    · simp at h
  | .seq a b, s, g, x, s', g', h, hq => by
    simp only [vcode] at h
    split at h
    · rename_i s1 h1
      obtain ⟨s1, g1⟩ := s1
      exact vcode_cs a s g _ s1 g1 h1 (vcode_cs b s1 g1 x s' g' h hq)
    · exact vcode_cs a s g x s' g' h hq
  | .cond c a b, s, g, x, s', g', h, hq => by
    simp only [vcode] at h
    split at h
    · obtain ⟨_, h⟩ := bifS h
      injection h with h; injection h with _ h; injection h with _ h; subst h
      rw [G.next_cs] at hq; exact fun q hq' => hq q (by simp [hq'])
    · split at h
      · rename_i t ht
        split at h
        · rename_i u hu
          cases u with
          | true => have := vcode_cs a s _ x s' g' h hq; rw [G.next_cs] at this; exact fun q hq => this q (by simp [hq])
          | false => have := vcode_cs b s _ x s' g' h hq; rw [G.next_cs] at this; exact fun q hq => this q (by simp [hq])
        · cases t with
          | true => have := vcode_cs a s _ x s' g' h hq; rw [G.next_cs] at this; exact fun q hq => this q (by simp [hq])
          | false => have := vcode_cs b s _ x s' g' h hq; rw [G.next_cs] at this; exact fun q hq => this q (by simp [hq])
      · simp at h
  | .block id k, s, g, x, s', g', h, hq => by
    simp only [vcode] at h
    split at h
    · rename_i j s1 h1
      obtain ⟨s1, g1⟩ := s1
      have : g' = g1 := by
        cases hb : Nat.beq j id with
        | true => rw [hb] at h; simp at h; exact h.2.2.symm
        | false => rw [hb] at h; simp at h; exact h.2.2.symm
      subst this
      exact vcode_cs k s g _ s1 _ h1 hq
    · exact vcode_cs k s g x s' g' h hq
  | .loop k, s, g, x, s', g', h, hq => by
    simp only [vcode] at h
    split at h
    · obtain ⟨_, h⟩ := bifS h
      injection h with h; injection h with _ h; injection h with _ h; subst h
      rw [G.next_cs] at hq; exact fun q hq' => hq q (by simp [hq'])
    have key : ∀ n s g, iter (fun s => vcode P nt fuel k s) n (s, g) = some (x, s', g') → ∀ q ∈ g.cs, q := by
      intro n
      induction n with
      | zero => intro s g h; simp [iter] at h
      | succ n ih =>
        intro s g h
        simp only [iter] at h
        split at h
        · rename_i s1 h1
          obtain ⟨s1, g1⟩ := s1
          exact vcode_cs k s g _ s1 g1 h1 (ih s1 g1 h)
        · exact vcode_cs k s g x s' g' h hq
    exact key fuel s g h
  | .exit id, s, g, x, s', g', h, hq => by
    simp only [vcode] at h; injection h with h; injection h with _ h; injection h with _ h; subst h; exact hq
  | .ret, s, g, x, s', g', h, hq => by
    simp only [vcode] at h; injection h with h; injection h with _ h; injection h with _ h; subst h; exact hq
  | .gh dt db k, s, g, x, s', g', h, hq => by
    simp only [vcode] at h
    exact vcode_cs k _ g x s' g' h hq
theorem vcode_sound {fuel : Nat} (hP : Γ.P = P) (hmx : P.follows .mixedOrders = true) (hf0 : Fresh Γ.φ0 Γ.n0) : ∀ (k : K) (c : Code) (s : S0) (g : G) (x : Ex) (s' : S0) (g' : G), vcode P Γ.nt fuel k (s, g) = some (x, s', g') → (∀ q ∈ g'.cs, q) → cK P c = some k.strip → VT Γ c s fun x' s'' => x' = x ∧ s'' = s'
  | .gh dt db k, c, s, g, x, s', g', h, hq, hc => by
    simp only [vcode] at h
    intro φ a w R hf
    exact vcode_sound hP hmx hf0 k c ⟨dropT dt s.tm, delAll db s.me, s.nx⟩ g x s' g' h hq hc φ a w (R.drop dt db) hf
  | .skip, c, s, g, x, s', g', h, hq, hc => by
    simp only [vcode] at h; injection h with h; injection h with e1 h; injection h with e2 e3; subst e1; subst e2
    cases c <;> simp only [cK, K.strip] at hc <;> try (exfalso; revert hc; (repeat' split) <;> simp; done)
    intro φ a w R hf
    exact wp_skip ⟨.normal, s, φ, trivial, ⟨rfl, rfl⟩, R, hf⟩
  | .exit id, c, s, g, x, s', g', h, hq, hc => by
    simp only [vcode] at h; injection h with h; injection h with e1 h; injection h with e2 e3; subst e1; subst e2
    cases c <;> simp only [cK, K.strip] at hc <;> try (exfalso; revert hc; (repeat' split) <;> simp; done)
    injection hc with hc; injection hc with hc; subst hc
    intro φ a w R hf
    exact wp_exit ⟨.exit _, s, φ, rfl, ⟨rfl, rfl⟩, R, hf⟩
  | .ret, c, s, g, x, s', g', h, hq, hc => by
    simp only [vcode] at h; injection h with h; injection h with e1 h; injection h with e2 e3; subst e1; subst e2
    cases c <;> simp only [cK, K.strip] at hc <;> try (exfalso; revert hc; (repeat' split) <;> simp; done)
    intro φ a w R hf
    exact wp_ret ⟨.ret, s, φ, trivial, ⟨rfl, rfl⟩, R, hf⟩
  | .reg ops dr, c, s, g, x, s', g', h, hq, hc => by
    simp only [vcode] at h
    split at h
    · rename_i tm me g2 es hv
      obtain ⟨hdr, h⟩ := bifS h
      injection h with h; injection h with e1 h; injection h with e2 e3; subst e1; subst e2; subst e3
      cases c <;> simp only [cK, K.strip] at hc <;> try (exfalso; revert hc; (repeat' split) <;> simp; done)
      rename_i id os d
      split at hc
      · rename_i l hl
        injection hc with hc; injection hc with e1 e2; subst e1; subst e2
        intro φ a w R hf
        have hlen := (mapO_get hl).1
        cases d with
        | false =>
          refine wp_region ?_
          have := regs_sound (Γ := Γ) (Q := VPost Γ fun x' s'' => x' = .normal ∧ s'' = ⟨tm, me, s.nx + WW * l.length⟩) hP hf.2 os.toList l 0 φ s.tm s.me g a w tm me _ es (by simp) hl hv hq R (by simpa using hf.1) (by
            intro φ' a' w' _ hf' R'
            exact ⟨.normal, _, φ', trivial, ⟨rfl, rfl⟩, R', by simpa using hf', Nat.le_trans hf.2 (Nat.le_add_right _ _)⟩)
          rw [hP]
          rw [List.range_eq_range']
          simpa using this
        | true =>
          simp only [Bool.not_true, Bool.false_or] at hdr
          rw [hP]
          refine wp_region_any hmx ?_
          have R2 : RS Γ φ s.tm s.me a { w with drawn := w.drawn + 1 } := by
            refine ⟨R.le, R.mem.drew, R.tmp, ⟨R.keeps.os, R.keeps.tape, R.keeps.output, R.keeps.size, R.keeps.block⟩, R.owned, R.size, R.defers, R.new⟩
          exact draw_sound (Γ := Γ) hP hf.2 hl hv hq hdr R2 hf.1 (by
            intro φ' a' w' _ hf' R'
            exact ⟨.normal, _, φ', trivial, ⟨rfl, rfl⟩, R', hf', Nat.le_trans hf.2 (Nat.le_add_right _ _)⟩)
      · simp at hc
    · simp at h
  | .seq ka kb, c, s, g, x, s', g', h, hq, hc => by
    simp only [vcode] at h
    cases c <;> simp only [cK, K.strip] at hc <;> try (exfalso; revert hc; (repeat' split) <;> simp; done)
    rename_i ca cb
    split at hc
    · rename_i xa xb ha hb
      injection hc with hc; injection hc with e1 e2; subst e1; subst e2
      refine VT_seq ?_
      split at h
      · rename_i s1 h1
        obtain ⟨s1, g1⟩ := s1
        refine (vcode_sound hP hmx hf0 ka ca s g _ s1 g1 h1 (vcode_cs kb s1 g1 x s' g' h hq) ha).mono ?_
        rintro x' s'' ⟨rfl, rfl⟩
        exact vcode_sound hP hmx hf0 kb cb _ g1 x s' g' h hq hb
      · rename_i hn
        refine (vcode_sound hP hmx hf0 ka ca s g x s' g' h hq ha).mono ?_
        rintro x' s'' ⟨rfl, rfl⟩
        cases x' with
        | normal => exact absurd h (hn (s'', g'))
        | exit j => exact ⟨rfl, rfl⟩
        | ret => exact ⟨rfl, rfl⟩
    · simp at hc
  | .cond z ka kb, c, s, g, x, s', g', h, hq, hc => by
    simp only [vcode] at h
    cases c <;> simp only [cK, K.strip] at hc <;> try (exfalso; revert hc; (repeat' split) <;> simp; done)
    rename_i x0 ca cb
    split at hc
    · rename_i z0 xa xb hz ha hb
      injection hc with hc; injection hc with e0 e1 e2; subst e0; subst e1; subst e2
      split at h
      · obtain ⟨hok, h⟩ := bifS h
        injection h with h; injection h with e1 h; injection h with e2 e3; subst e1; subst e2; subst e3
        rw [G.next_cs] at hq
        intro φ a w R hf
        obtain ⟨q5, q6⟩ := R.view (nx := s.nx) _ hok hf.2 hf0
        exact hq _ (List.mem_append_left _ (List.mem_singleton.2 rfl)) Γ _ hP rfl hf.2 hf0 (by simp only [cK, hz, ha, hb, K.strip]) _ a w q5 q6
      · split at h
        · rename_i t ht
          refine VT_cond hz ht ?_ ?_
          · rintro rfl
            split at h
            · rename_i u hu
              cases u with
              | true => exact vcode_sound hP hmx hf0 ka ca s _ x s' g' h hq ha
              | false =>
                have := vcode_cs kb s _ x s' g' h hq
                rw [G.next_cs] at this
                exact absurd (this _ (List.mem_append_left _ (List.mem_singleton.2 rfl))) (by decide)
            · exact vcode_sound hP hmx hf0 ka ca s _ x s' g' h hq ha
          · rintro rfl
            split at h
            · rename_i u hu
              cases u with
              | false => exact vcode_sound hP hmx hf0 kb cb s _ x s' g' h hq hb
              | true =>
                have := vcode_cs ka s _ x s' g' h hq
                rw [G.next_cs] at this
                exact absurd (this _ (List.mem_append_left _ (List.mem_singleton.2 rfl))) (by decide)
            · exact vcode_sound hP hmx hf0 kb cb s _ x s' g' h hq hb
        · simp at h
    · simp at hc
  | .block id k, c, s, g, x, s', g', h, hq, hc => by
    simp only [vcode] at h
    cases c <;> simp only [cK, K.strip] at hc <;> try (exfalso; revert hc; (repeat' split) <;> simp; done)
    rename_i id' cb
    split at hc
    · rename_i xa ha
      injection hc with hc; injection hc with e0 e1; subst e0; subst e1
      refine VT_block ?_
      split at h
      · rename_i j s1 h1
        obtain ⟨s1, g1⟩ := s1
        cases hb : Nat.beq j id' with
        | true =>
          rw [hb] at h; simp only [cond_true] at h
          injection h with h; injection h with e1 h; injection h with e2 e3; subst e1; subst e2; subst e3
          refine (vcode_sound hP hmx hf0 k cb s g _ s1 g1 h1 hq ha).mono ?_
          rintro x' s'' ⟨rfl, rfl⟩
          simp only [if_pos (Nat.eq_of_beq_eq_true hb)]
          first | exact ⟨rfl, rfl⟩ | exact ⟨trivial, trivial⟩
        | false =>
          rw [hb] at h; simp only [cond_false] at h
          injection h with h; injection h with e1 h; injection h with e2 e3; subst e1; subst e2; subst e3
          refine (vcode_sound hP hmx hf0 k cb s g _ s1 g1 h1 hq ha).mono ?_
          rintro x' s'' ⟨rfl, rfl⟩
          have hj : ¬ j = id' := fun e => by subst e; simp at hb
          simp only [if_neg hj]
          first | exact ⟨rfl, rfl⟩ | exact ⟨trivial, trivial⟩
      · rename_i hn
        refine (vcode_sound hP hmx hf0 k cb s g x s' g' h hq ha).mono ?_
        rintro x' s'' ⟨rfl, rfl⟩
        cases x' with
        | normal => exact ⟨rfl, rfl⟩
        | exit j => exact absurd h (hn j (s'', g'))
        | ret => exact ⟨rfl, rfl⟩
    · simp at hc
  | .loop k, c, s, g, x, s', g', h, hq, hc => by
    simp only [vcode] at h
    cases c <;> simp only [cK, K.strip] at hc <;> try (exfalso; revert hc; (repeat' split) <;> simp; done)
    rename_i cb
    split at hc
    · rename_i xa ha
      injection hc with hc; injection hc with e1; subst e1
      split at h
      · obtain ⟨hok, h⟩ := bifS h
        injection h with h; injection h with e1 h; injection h with e2 e3; subst e1; subst e2; subst e3
        rw [G.next_cs] at hq
        intro φ a w R hf
        obtain ⟨q5, q6⟩ := R.view (nx := s.nx) _ hok hf.2 hf0
        exact hq _ (List.mem_append_left _ (List.mem_singleton.2 rfl)) Γ _ hP rfl hf.2 hf0 (by simp only [cK, ha, K.strip]) _ a w q5 q6
      intro φ a w R hf
      have key : ∀ n s g, iter (fun s => vcode P Γ.nt fuel k s) n (s, g) = some (x, s', g') → ∀ φ a w, RS Γ φ s.tm s.me a w → (Fresh φ s.nx ∧ Γ.n0 ≤ s.nx) → Code.rounds Γ.P cb (VPost Γ fun x' s'' => x' = x ∧ s'' = s') n a w := by
        intro n
        induction n with
        | zero => intro s g h; simp [iter] at h
        | succ n ih =>
          intro s g h φ a w R hf
          rw [rounds_succ]
          simp only [iter] at h
          split at h
          · rename_i s1 h1
            obtain ⟨s1, g1⟩ := s1
            have hq1 : ∀ q ∈ g1.cs, q := by
              have key2 : ∀ n s g, iter (fun s => vcode P Γ.nt fuel k s) n (s, g) = some (x, s', g') → ∀ q ∈ g.cs, q := by
                intro n
                induction n with
                | zero => intro s g h; simp [iter] at h
                | succ n ih =>
                  intro s g h
                  simp only [iter] at h
                  split at h
                  · rename_i s1 h1
                    obtain ⟨s1, g1⟩ := s1
                    exact vcode_cs k s g _ s1 g1 h1 (ih s1 g1 h)
                  · exact vcode_cs k s g x s' g' h hq
              exact key2 n s1 g1 h
            refine wp_mono (vcode_sound hP hmx hf0 k cb s g _ s1 g1 h1 hq1 ha φ a w R hf) ?_
            rintro e a' w' ⟨ex, s2, φ', h1, ⟨rfl, rfl⟩, h3, h4⟩
            cases e <;> simp only [Ex.is] at h1
            exact ih _ _ h φ' a' w' h3 h4
          · rename_i hn
            refine wp_mono (vcode_sound hP hmx hf0 k cb s g x s' g' h hq ha φ a w R hf) ?_
            rintro e a' w' ⟨ex, s2, φ', h1, ⟨rfl, rfl⟩, h3, h4⟩
            cases ex with
            | normal => exact absurd h (hn (s2, g'))
            | exit j => cases e <;> simp only [Ex.is] at h1; subst h1; exact ⟨.exit _, _, φ', rfl, ⟨rfl, rfl⟩, h3, h4⟩
            | ret => cases e <;> simp only [Ex.is] at h1; exact ⟨.ret, _, φ', trivial, ⟨rfl, rfl⟩, h3, h4⟩
      exact wp_loop_rounds fuel (key fuel s g h φ a w R hf)
    · simp at hc
end Go.Proofs.Ytohleiikedpmkaa.Vm

namespace Go.Proofs.Ytohleiikedpmkaa.Vm
open Go
variable {P : Program} {φ φ' : Phi} {m : Mem} {w w' : World}
structure Step0 (φ φ' : Phi) (m up : Mem) (wr : List Nat) (n0 : Nat) (w w' : World) : Prop where
  le : φ.le φ'
  new : ∀ b i l, φ' b i = some l → φ b i = some l ∨ n0 ≤ b
  keeps : Keeps (fun r => ∃ b i k l, b ∈ wr ∧ look m b i = some k ∧ φ b i = some l ∧ l.own = true ∧ 0 < l.sz ∧ l.r = r) w w'
  blk : ∀ b i k, look up b i = some k → ∃ l, φ' b i = some l ∧ RB φ' l k w'
  src : ∀ b i k l, look up b i = some k → φ' b i = some l → 0 < l.sz → w.heap.size ≤ l.r ∨ ∃ b0 i0 k0 l0, b0 ∈ wr ∧ look m b0 i0 = some k0 ∧ φ b0 i0 = some l0 ∧ l0.own = true ∧ 0 < l0.sz ∧ l0.r = l.r
  inj : ∀ b i k l b' i' k' l', look up b i = some k → look up b' i' = some k' → φ' b i = some l → φ' b' i' = some l' → l.own = true → 0 < l.sz → 0 < l'.sz → l.r = l'.r → b = b' ∧ i = i'
def Contract0 (P : Program) (f : Nat) (args : List V) (m : Mem) (n0 : Nat) (res : V) (kill : List Nat) (up : Mem) : Prop :=
  ∀ (φ : Phi) (w : World) (vals : List Value), RM φ m w → Fresh φ n0 → All2 (RV φ) args vals →
    Calls P f vals.toArray w fun e w' => ∃ v φ', e = .returned v ∧ RV φ' res v ∧ Step0 φ φ' m up (kill ++ up.map Prod.fst) n0 w w'
def tmOf : List V → Nat → Tm
  | [], _ => []
  | v :: r, n => (n, v) :: tmOf r (n + 1)
def vres1 (P : Program) (s : S0) : ResultVar → Option V
  | .tmp t => some (getT s.tm t)
  | .cell a t => match getT s.tm a, P.underlying t, sizeT P t with
    | .c (.ptr b i o), some d, some sz => match look s.me b i with
      | some k => bif Nat.ble (o + sz) k.len then (bif aggD d then some (k.body.seg o sz).agg else bif Nat.beq sz 1 then some (.c (k.body.get o)) else none) else none
      | none => none
    | _, _, _ => none
def vres (P : Program) (rs : List ResultVar) (s : S0) : Option V :=
  match mapO (vres1 P s) rs with
  | some [v] => some v
  | some l => some (.tup l)
  | none => none
def flatV : V → Bool
  | .tup _ => false
  | _ => true
theorem getT_tmOf : ∀ (l : List V) (n t : Nat), getT (tmOf l n) t = if n ≤ t then l.getD (t - n) .unk else .unk
  | [], n, t => by simp [tmOf, getT]
  | v :: r, n, t => by
    rw [tmOf, getT]
    by_cases h : n = t
    · subst h; simp
    · rw [beqF h, cond_false, getT_tmOf r (n + 1) t]
      by_cases h1 : n ≤ t
      · have : t - n = (t - (n + 1)) + 1 := by omega
        rw [if_pos (by omega), if_pos h1, this]; simp
      · rw [if_neg (by omega), if_neg h1]
def resOf (tmps : Array Value) : ResultVar → Sem Value
  | .tmp t => pure (tmps.getD t undef)
  | .cell q t => do loadVar t (← asAddr (tmps.getD q undef))
theorem results_eq (fn : Func) (tmps : Array Value) : results fn tmps = (do let vs ← fn.results.mapM (resOf tmps); pure (if h : vs.size = 1 then vs[0] else .tuple vs)) := by
  unfold results
  congr 1
theorem vres1_run {Γ : Ctx} {s : S0} {a : Act} {r : ResultVar} {v : V} (_hP : Γ.P = P) (R : RS Γ φ s.tm s.me a w) (h : vres1 P s r = some v) :
    ∃ x, (resOf a.tmps r).run P w = .ok x w ∧ RV φ v x := by
  have hget : ∀ t, RV φ (getT s.tm t) (a.tmps.getD t undef) := by
    intro t
    rcases R.tmp t with h | ⟨x, h1, h2⟩
    · rw [h]; simp [RV, RV1]
    · simpa [Array.getD_eq_getD_getElem?, h1] using h2
  cases r with
  | tmp t =>
    simp only [vres1] at h
    injection h with h
    subst h
    exact ⟨_, rfl, hget t⟩
  | cell q t =>
    simp only [vres1] at h
    split at h
    · rename_i b i o d sz hq hu hs
      have h1 := hget q
      rw [hq] at h1
      obtain ⟨l, hl, hval⟩ := h1.ptr
      split at h
      · rename_i k hk
        obtain ⟨hb, h⟩ := bifS h
        have hle := Nat.le_of_ble_eq_true hb
        obtain ⟨l', hl', hB⟩ := R.mem.blk _ _ _ hk
        rw [hl] at hl'; injection hl' with hl'; subst hl'
        simp only [resOf, hval, asAddr, Sem.run_bind, Sem.run_pure, Result.andThen_ok]
        cases hag : aggD d with
        | true =>
          rw [hag] at h
          simp only [cond_true] at h
          injection h with h
          subst h
          obtain ⟨vs, hr, hrb⟩ := hB.load P hle
          exact ⟨.agg vs.toArray, by simp [loadVar, run_isAggD hu, hag, run_sizeT hs, hr w rfl], hrb.agg⟩
        | false =>
          rw [hag] at h
          simp only [cond_false] at h
          obtain ⟨h1, h⟩ := bifS h
          have := Nat.eq_of_beq_eq_true h1
          subst this
          injection h with h
          subst h
          obtain ⟨v, hv, hrv⟩ := hB.cell o (by omega)
          exact ⟨v, by simp [loadVar, run_isAggD hu, hag, hv], rv_c hrv⟩
      · simp at h
    · simp at h
theorem vres_run {Γ : Ctx} {s : S0} {a : Act} {fn : Func} {v : V} (hP : Γ.P = P) (R : RS Γ φ s.tm s.me a w) (h : vres P fn.results.toList s = some v) (hflat : ∀ l, mapO (vres1 P s) fn.results.toList = some l → l.all flatV = true) :
    ∃ x, (results fn a.tmps).run P w = .ok x w ∧ RV φ v x := by
  have key : ∀ (rs : List ResultVar) (l : List V), mapO (vres1 P s) rs = some l → ∃ xs : List Value, (rs.mapM (resOf a.tmps)).run P w = .ok xs w ∧ All2 (RV φ) l xs := by
    intro rs
    induction rs with
    | nil => intro l h; simp [mapO] at h; subst h; exact ⟨[], rfl, .nil⟩
    | cons r rs ih =>
      intro l h
      simp only [mapO] at h
      split at h
      · simp at h
      · rename_i y hy
        split at h
        · simp at h
        · rename_i l' hl'
          injection h with h
          subst h
          obtain ⟨x, hx, hr⟩ := vres1_run hP R hy
          obtain ⟨xs, hxs, hrs⟩ := ih l' hl'
          refine ⟨x :: xs, ?_, .cons hr hrs⟩
          rw [List.mapM_cons, Sem.run_bind, hx, Result.andThen_ok, Sem.run_bind, hxs]
          rfl
  unfold vres at h
  have fin : ∀ l, mapO (vres1 P s) fn.results.toList = some l → ∃ xs : List Value, (results fn a.tmps).run P w = .ok (if h : xs.toArray.size = 1 then xs.toArray[0] else .tuple xs.toArray) w ∧ All2 (RV φ) l xs := by
    intro l hl
    obtain ⟨xs, hxs, hall⟩ := key _ l hl
    refine ⟨xs, ?_, hall⟩
    rw [results_eq, Sem.run_bind, Array.mapM_eq_mapM_toList, Sem.run_map, hxs]
    rfl
  split at h
  · rename_i v' hl
    injection h with h
    subst h
    obtain ⟨xs, hxs, hall⟩ := fin _ hl
    cases hall with
    | cons h1 h2 => cases h2; exact ⟨_, hxs, h1⟩
  · rename_i l hno hl
    injection h with h
    subst h
    obtain ⟨xs, hxs, hall⟩ := fin _ hl
    have hlen := hall.length
    have hne : ¬ xs.toArray.size = 1 := by
      intro h1
      simp at h1
      cases l with
      | nil => simp at hlen; omega
      | cons v r =>
        cases r with
        | nil => exact hno v rfl
        | cons _ _ => simp at hlen; omega
    rw [dif_neg hne] at hxs
    refine ⟨_, hxs, ⟨xs.toArray, rfl, ?_⟩⟩
    have hfl := hflat l hl
    clear hxs hl hno hne hlen
    simp only []
    induction hall with
    | nil => exact .nil
    | cons h1 _ ih =>
      simp only [List.all_cons, Bool.and_eq_true] at hfl
      refine .cons ?_ (ih hfl.2)
      rename_i v x _ _ _
      cases v <;> first | exact h1 | simp [flatV] at hfl
  · simp at h
theorem contract_body {f : Nat} {fn : Func} {c : Code} {args : List V} {n0 : Nat} {res : V} {kill : List Nat} {up : Mem} (hfn : P.funcs[f]? = some fn) (hb : fn.body = some c) (hnt : args.length ≤ fn.ntmps)
    (hown : ∀ b i k, look m b i = some k → k.own = true → b ∈ kill ++ up.map Prod.fst)
    (hbody : ∀ Γ : Ctx, Γ.P = P → Γ.nt = fn.ntmps → Γ.n0 = n0 → Fresh Γ.φ0 Γ.n0 → VT Γ c ⟨tmOf args 0, m, n0⟩ fun x s => (match x with | .exit _ => False | _ => True) ∧ vres P fn.results.toList s = some res ∧ (∀ l, mapO (vres1 P s) fn.results.toList = some l → l.all flatV = true) ∧ (∀ b i k, look up b i = some k → look s.me b i = some k ∧ k.own = true)) :
    Contract0 P f args m n0 res kill up := by
  intro φ w vals hm hf hall
  refine calls_of_wp hfn hb ?_
  let Γ : Ctx := ⟨P, w, φ, fun r => ∃ b i k l, b ∈ kill ++ up.map Prod.fst ∧ look m b i = some k ∧ φ b i = some l ∧ l.own = true ∧ 0 < l.sz ∧ l.r = r, fn.ntmps, n0⟩
  have hlen := hall.length
  have R : RS Γ φ (tmOf args 0) m { tmps := vals.toArray ++ Array.replicate (fn.ntmps - vals.toArray.size) undef, defers := [] } w := by
    refine ⟨Phi.le_refl φ, hm, ?_, Keeps.refl _ _, ?_, ?_, rfl, fun _ _ _ h => .inl h⟩
    · intro n
      rw [getT_tmOf]
      simp only [Nat.zero_le, if_true, Nat.sub_zero]
      by_cases hn : n < args.length
      · right
        obtain ⟨x, hx, hr⟩ := hall.get n args[n] (by simp [hn])
        refine ⟨x, ?_, ?_⟩
        · show (vals.toArray ++ _)[n]? = some x
          rw [Array.getElem?_append, if_pos (by simp; omega)]
          simpa using hx
        · simpa [hn] using hr
      · left
        simp [List.getD_eq_getElem?_getD, List.getElem?_eq_none (Nat.le_of_not_lt hn)]
    · intro b i k l h1 h2 h3 h4
      left
      obtain ⟨l', hl', hB⟩ := hm.blk _ _ _ h1
      rw [h2] at hl'; injection hl' with hl'; subst hl'
      exact ⟨b, i, k, l, hown b i k h1 (by rw [← hB.own]; exact h3), h1, h2, h3, h4, rfl⟩
    · show (vals.toArray ++ Array.replicate (fn.ntmps - vals.toArray.size) undef).size = fn.ntmps
      simp; omega
  refine wp_mono (hbody Γ rfl rfl rfl hf φ _ w R ⟨hf, Nat.le_refl _⟩) ?_
  rintro e a' w' ⟨x, s, φ', h1, ⟨h2, h3, h3b, h4⟩, R', h5, h6⟩
  obtain ⟨v, hv, hrv⟩ := vres_run (Γ := Γ) rfl R' h3 h3b
  have hpost : ∃ v φ', Ending.returned v = .returned v ∧ RV φ' res v ∧ Step0 φ φ' m up (kill ++ up.map Prod.fst) n0 w w' := by
    refine ⟨v, φ', rfl, hrv, R'.le, R'.new, R'.keeps, ?_, ?_, ?_⟩
    · intro b i k h
      exact R'.mem.blk _ _ _ (h4 _ _ _ h).1
    · intro b i k l h hl hz
      obtain ⟨h7, h8⟩ := h4 _ _ _ h
      obtain ⟨l', hl', hB⟩ := R'.mem.blk _ _ _ h7
      rw [hl] at hl'; injection hl' with hl'; subst hl'
      rcases R'.owned _ _ _ _ h7 hl (by rw [hB.own]; exact h8) hz with h9 | h9
      · obtain ⟨b0, i0, k0, l0, q⟩ := h9
        exact .inr ⟨b0, i0, k0, l0, q⟩
      · exact .inl h9
    · intro b i k l b' i' k' l' h h'
      exact R'.mem.inj _ _ _ _ _ _ _ _ (h4 _ _ _ h).1 (h4 _ _ _ h').1
  obtain ⟨v', φ2, _, hrv2, hS⟩ := hpost
  cases x with
  | exit j => exact h2.elim
  | normal =>
    cases e <;> simp only [Ex.is] at h1
    exact ⟨R'.defers, v, hv, v, φ', rfl, hrv, R'.le, R'.new, R'.keeps, fun b i k h => R'.mem.blk _ _ _ (h4 _ _ _ h).1, fun b i k l h hl hz => by
      obtain ⟨h7, h8⟩ := h4 _ _ _ h
      obtain ⟨l', hl', hB⟩ := R'.mem.blk _ _ _ h7
      rw [hl] at hl'; injection hl' with hl'; subst hl'
      rcases R'.owned _ _ _ _ h7 hl (by rw [hB.own]; exact h8) hz with h9 | h9
      · obtain ⟨b0, i0, k0, l0, q⟩ := h9
        exact .inr ⟨b0, i0, k0, l0, q⟩
      · exact .inl h9, fun b i k l b' i' k' l' h h' => R'.mem.inj _ _ _ _ _ _ _ _ (h4 _ _ _ h).1 (h4 _ _ _ h').1⟩
  | ret =>
    cases e <;> simp only [Ex.is] at h1
    exact ⟨R'.defers, v, hv, v, φ', rfl, hrv, R'.le, R'.new, R'.keeps, fun b i k h => R'.mem.blk _ _ _ (h4 _ _ _ h).1, fun b i k l h hl hz => by
      obtain ⟨h7, h8⟩ := h4 _ _ _ h
      obtain ⟨l', hl', hB⟩ := R'.mem.blk _ _ _ h7
      rw [hl] at hl'; injection hl' with hl'; subst hl'
      rcases R'.owned _ _ _ _ h7 hl (by rw [hB.own]; exact h8) hz with h9 | h9
      · obtain ⟨b0, i0, k0, l0, q⟩ := h9
        exact .inr ⟨b0, i0, k0, l0, q⟩
      · exact .inl h9, fun b i k l b' i' k' l' h h' => R'.mem.inj _ _ _ _ _ _ _ _ (h4 _ _ _ h).1 (h4 _ _ _ h').1⟩
end Go.Proofs.Ytohleiikedpmkaa.Vm

namespace Go.Proofs.Ytohleiikedpmkaa.Vm
open Go
variable {P : Program} {φ φ' : Phi} {m : Mem} {w w' : World}
def memP (b b' : Nat) : Th → Bool
  | [] => false
  | (c, c') :: r => (Nat.beq c b && Nat.beq c' b') || memP b b' r
theorem memP_iff {b b' : Nat} : ∀ {t : Th}, memP b b' t = true ↔ (b, b') ∈ t
  | [] => by simp [memP]
  | (c, c') :: r => by
    simp only [memP, Bool.or_eq_true, Bool.and_eq_true, List.mem_cons, memP_iff (t := r), Prod.mk.injEq]
    constructor
    · rintro (⟨h1, h2⟩ | h)
      · exact .inl ⟨(Nat.eq_of_beq_eq_true h1).symm, (Nat.eq_of_beq_eq_true h2).symm⟩
      · exact .inr h
    · rintro (⟨rfl, rfl⟩ | h)
      · exact .inl ⟨by simp, by simp⟩
      · exact .inr h
def mapPs (t : Th) : List (Nat × Nat × Nat) → List (Nat × Nat × Nat) → Prop
  | [], [] => True
  | (b, i, o) :: r, (b', i', o') :: r' => memP b b' t = true ∧ i = i' ∧ o = o' ∧ mapPs t r r'
  | _, _ => False
def mapC (t : Th) : C → C → Prop
  | c, c' => match c' with
    | .unk => True
    | .ptr b' i' o' => match c with | .ptr b i o => memP b b' t = true ∧ i = i' ∧ o = o' | _ => False
    | .sl b' i' o' n' es' => match c with | .sl b i o n es => memP b b' t = true ∧ i = i' ∧ o = o' ∧ n = n' ∧ es = es' | .nils => i' = 0 ∧ o' = 0 ∧ n' = 0 | _ => False
    | .fn f' l' => match c with | .fn f l => f = f' ∧ mapPs t l l' | _ => False
    | c' => c = c'
def mapCs (t : Th) : List C → List C → Prop
  | [], [] => True
  | c :: r, c' :: r' => mapC t c c' ∧ mapCs t r r'
  | _, _ => False
def mapV1 (t : Th) : V → V → Prop
  | v, v' => match v' with
    | .unk => True
    | .c c' => match v with | .c c => mapC t c c' | _ => False
    | .agg l' => match v with | .agg l => mapCs t l l' | .aggi k l => mapCs t (l.map (.int k)) l' | _ => False
    | .aggi k' l' => match v with | .aggi k l => k = k' ∧ l = l' | .agg l => l = l'.map (.int k') | _ => False
    | .tup _ => False
def mapV1s (t : Th) : List V → List V → Prop
  | [], [] => True
  | v :: r, v' :: r' => mapV1 t v v' ∧ mapV1s t r r'
  | _, _ => False
def mapV (t : Th) : V → V → Prop
  | v, v' => match v' with
    | .tup l' => match v with | .tup l => mapV1s t l l' | _ => False
    | v' => mapV1 t v v'
def mapVs (t : Th) : List V → List V → Prop
  | [], [] => True
  | v :: r, v' :: r' => mapV t v v' ∧ mapVs t r r'
  | _, _ => False
def Moves (t : Th) (φ φ' : Phi) : Prop := ∀ b b' i l, (b, b') ∈ t → φ b i = some l → ∃ l', φ' b' i = some l' ∧ l'.r = l.r ∧ l'.s = l.s ∧ l'.sz = l.sz ∧ (l'.own = true → l.own = true)
theorem mapPs_rel {t : Th} (H : Moves t φ φ') : ∀ {l l' : List (Nat × Nat × Nat)} {vs : List Value}, mapPs t l l' → All2 (RP φ) l vs → All2 (RP φ') l' vs
  | [], [], _, _, .nil => .nil
  | (b, i, o) :: r, (b', i', o') :: r', _, h, .cons h0 h1 => by
    simp only [mapPs] at h
    obtain ⟨k1, rfl, rfl, k2⟩ := h
    obtain ⟨l, hl, hv⟩ := h0
    obtain ⟨l', hl', e1, e2, _⟩ := H _ _ _ _ (memP_iff.1 k1) hl
    exact .cons ⟨l', hl', by rw [hv, e1, e2]⟩ (mapPs_rel H k2 h1)
  | [], _ :: _, _, h, _ => by simp [mapPs] at h
  | _ :: _, [], _, h, _ => by simp [mapPs] at h
theorem mapC_rel {t : Th} {c c' : C} {v : Value} (H : Moves t φ φ') (h : mapC t c c') (hc : RC φ c v) : RC φ' c' v := by
  cases c'
  case unk => exact hc.one
  case ptr b' i' o' =>
    cases c <;> simp only [mapC] at h
    obtain ⟨k1, rfl, rfl⟩ := h
    obtain ⟨l, hl, hv⟩ := hc
    obtain ⟨l', hl', e1, e2, _⟩ := H _ _ _ _ (memP_iff.1 k1) hl
    exact ⟨l', hl', by rw [hv, e1, e2]⟩
  case sl b' i' o' n' es' =>
    cases c <;> simp only [mapC] at h
    case nils =>
      obtain ⟨rfl, rfl, rfl⟩ := h
      exact ⟨none, 0, hc, Nat.le_refl _, .inl rfl⟩
    obtain ⟨k1, rfl, rfl, rfl, rfl⟩ := h
    obtain ⟨a, cap, hv, hn, hcap⟩ := hc
    refine ⟨a, cap, hv, hn, ?_⟩
    rcases hcap with hcap | ⟨l, hl, ha, ho⟩
    · exact .inl hcap
    · obtain ⟨l', hl', e1, e2, e3, e4⟩ := H _ _ _ _ (memP_iff.1 k1) hl
      exact .inr ⟨l', hl', by rw [ha, e1, e2], fun hh => by rw [e2, e3]; exact ho (e4 hh)⟩
  case fn f' l' =>
    cases c <;> simp only [mapC] at h
    obtain ⟨rfl, k⟩ := h
    obtain ⟨vs, hv, hall⟩ := hc
    exact ⟨vs, hv, mapPs_rel H k hall⟩
  all_goals
    simp only [mapC] at h
    subst h
    exact hc
theorem mapCs_rel {t : Th} (H : Moves t φ φ') : ∀ {l l' : List C} {vs : List Value}, mapCs t l l' → All2 (RC φ) l vs → All2 (RC φ') l' vs
  | [], [], _, _, .nil => .nil
  | c :: r, c' :: r', _, h, .cons h0 h1 => .cons (mapC_rel H h.1 h0) (mapCs_rel H h.2 h1)
  | [], _ :: _, _, h, _ => by simp [mapCs] at h
  | _ :: _, [], _, h, _ => by simp [mapCs] at h
theorem ints_of_cells {k : IntKind} : ∀ {l : List Int} {q : List Value}, All2 (RC φ) (l.map (C.int k)) q → q = l.map (Value.int k)
  | [], _, .nil => rfl
  | n :: r, _, .cons h0 h1 => by
    simp only [RC] at h0
    subst h0
    simp [ints_of_cells h1]
theorem mapV1_rel {t : Th} {v v' : V} {x : Value} (H : Moves t φ φ') (h : mapV1 t v v') (hv : RV1 φ v x) : RV1 φ' v' x := by
  cases v'
  case unk => trivial
  case c c' =>
    cases v <;> simp only [mapV1] at h
    exact mapC_rel H h hv
  case agg l' =>
    cases v <;> simp only [mapV1] at h
    · obtain ⟨a, e, hall⟩ := hv
      exact ⟨a, e, mapCs_rel H h hall⟩
    · rename_i k l
      have hv' : x = .agg (l.map (Value.int k)).toArray := hv
      refine ⟨_, hv', mapCs_rel H h ?_⟩
      have := (RBd.of_ints (φ := φ) (k := k) (l := l)).list
      simpa [Body.list] using this
  case aggi k' l' =>
    cases v <;> simp only [mapV1] at h
    · subst h
      obtain ⟨a, e, hall⟩ := hv
      subst e
      have := ints_of_cells hall
      show Value.agg a = .agg (l'.map (Value.int k')).toArray
      rw [← this]
    · obtain ⟨rfl, rfl⟩ := h; exact hv
  case tup l' => simp [mapV1] at h
theorem mapV1s_rel {t : Th} (H : Moves t φ φ') : ∀ {l l' : List V} {vs : List Value}, mapV1s t l l' → All2 (RV1 φ) l vs → All2 (RV1 φ') l' vs
  | [], [], _, _, .nil => .nil
  | c :: r, c' :: r', _, h, .cons h0 h1 => .cons (mapV1_rel H h.1 h0) (mapV1s_rel H h.2 h1)
  | [], _ :: _, _, h, _ => by simp [mapV1s] at h
  | _ :: _, [], _, h, _ => by simp [mapV1s] at h
theorem mapV_rel {t : Th} {v v' : V} {x : Value} (H : Moves t φ φ') (h : mapV t v v') (hv : RV φ v x) : RV φ' v' x := by
  cases v'
  case tup l' =>
    cases v <;> simp only [mapV] at h
    simp only [RV] at hv ⊢
    obtain ⟨a, e, hall⟩ := hv
    exact ⟨a, e, mapV1s_rel H h hall⟩
  case unk => simp [RV, RV1]
  all_goals
    simp only [mapV] at h
    cases v
    case tup => simp [mapV1] at h
    all_goals
      simp only [RV] at hv ⊢
      exact mapV1_rel H h hv
theorem mapVs_rel {t : Th} (H : Moves t φ φ') : ∀ {l l' : List V} {vs : List Value}, mapVs t l l' → All2 (RV φ) l vs → All2 (RV φ') l' vs
  | [], [], _, _, .nil => .nil
  | c :: r, c' :: r', _, h, .cons h0 h1 => .cons (mapV_rel H h.1 h0) (mapVs_rel H h.2 h1)
  | [], _ :: _, _, h, _ => by simp [mapVs] at h
  | _ :: _, [], _, h, _ => by simp [mapVs] at h
def mapB (t : Th) : Body → Body → Prop
  | .cells l, .cells l' => mapCs t l l'
  | .ints k l, .ints k' l' => k = k' ∧ l = l'
  | .gen n f, .gen n' f' => n = n' ∧ ∀ j, j < n → mapC t (f j) (f' j)
  | .cells l, .ints k l' => l = l'.map (.int k)
  | .ints k l, .cells l' => mapCs t (l.map (.int k)) l'
  | .cells l, .gen n f' => l.length = n ∧ ∀ j, j < n → mapC t (l.getD j .unk) (f' j)
  | .ints k l, .gen n f' => l.length = n ∧ ∀ j, j < n → mapC t (.int k (l.getD j 0)) (f' j)
  | .gen n f, .cells l' => n = l'.length ∧ ∀ j, j < n → mapC t (f j) (l'.getD j .unk)
  | .gen n f, .ints k l' => n = l'.length ∧ ∀ j, j < n → f j = .int k (l'.getD j 0)
  | .row n w f, .row n' w' f' => n = n' ∧ ∀ j, j < n → mapC t (recGet w f j) (recGet w' f' j)
  | .ig n kf g, .ig n' kf' g' => n = n' ∧ ∀ j, j < n → mapC t (.int (kf j) (g j)) (.int (kf' j) (g' j))
  | .ig _ _ _, _ => False
  | _, .ig _ _ _ => False
  | .row _ _ _, _ => False
  | _, .row _ _ _ => False
theorem mapCs_get {t : Th} : ∀ {l l' : List C}, mapCs t l l' → l.length = l'.length ∧ ∀ j, j < l.length → mapC t (l.getD j .unk) (l'.getD j .unk)
  | [], [], _ => ⟨rfl, fun j h => by simp at h⟩
  | c :: r, c' :: r', h => by
    obtain ⟨h1, h2⟩ := mapCs_get h.2
    refine ⟨by simp [h1], fun j hj => ?_⟩
    cases j with
    | zero => simpa using h.1
    | succ j => simpa using h2 j (by simpa using hj)
  | [], _ :: _, h => by simp [mapCs] at h
  | _ :: _, [], h => by simp [mapCs] at h
theorem mapC_same {t : Th} {k : IntKind} {n : Int} : mapC t (.int k n) (.int k n) := rfl
theorem mapB_get {t : Th} {b b' : Body} (h : mapB t b b') : b.len = b'.len ∧ ∀ j, j < b.len → mapC t (b.get j) (b'.get j) := by
  cases b <;> cases b' <;> simp only [mapB] at h <;> simp only [Body.len, Body.get]
  · exact mapCs_get h
  · subst h; exact ⟨by simp, fun j hj => by rw [map_getD _ _ (by simpa using hj)]; exact mapC_same⟩
  · exact ⟨h.1, fun j hj => h.2 j (by omega)⟩
  · have := mapCs_get h
    refine ⟨by simpa using this.1, fun j hj => ?_⟩
    have h2 := this.2 j (by simpa using hj)
    rwa [map_getD _ _ hj] at h2
  · obtain ⟨rfl, rfl⟩ := h; exact ⟨rfl, fun j _ => mapC_same⟩
  · exact ⟨h.1, fun j hj => h.2 j (by omega)⟩
  · exact h
  · exact ⟨h.1, fun j hj => by rw [h.2 j hj]; exact mapC_same⟩
  · exact h
  · exact h
  · exact h
abbrev Th3 := List (Nat × Nat × Bool)
def dsts : Th3 → List Nat
  | [] => []
  | (_, d, _) :: r => d :: dsts r
def pairsIn : Th3 → Th
  | [] => []
  | (s, d, _) :: r => (s, d) :: pairsIn r
def pairsOut : Th3 → Th
  | [] => []
  | (s, d, ro) :: r => bif ro then pairsOut r else (d, s) :: pairsOut r
def findD (b : Nat) : Th3 → Option (Nat × Bool)
  | [] => none
  | (s, d, ro) :: r => bif Nat.beq d b then some (s, ro) else findD b r
def aloneT : Th3 → Th3 → Bool
  | [], _ => true
  | (s, d, ro) :: r, all => (ro || all.all fun p => !Nat.beq p.1 s || Nat.beq p.2.1 d) && aloneT r all
def okTh (t : Th3) (n0 : Nat) : Bool := nodupN (dsts t) && aloneT t t && (dsts t).all (fun d => Nat.blt d n0 && !Nat.beq d 0)
def Phi.via (φ : Phi) (t : Th3) : Phi := fun b i =>
  if b = 0 then (φ 0 i).map (fun l => { l with own := false }) else
  match findD b t with
  | some (s, ro) => (φ s i).map (fun l => if ro = true then { l with own := false } else l)
  | none => none
def zeroP : Th3 → Th := fun t => (0, 0) :: pairsIn t
def viewM (t : Th3) (m m' : Mem) : Prop := ∀ b' i k', look m' b' i = some k' → ∃ b ro k, (b, b', ro) ∈ t ∧ look m b i = some k ∧ k'.own = (k.own && !ro) ∧ (k'.ex = true → k.ex = true) ∧ mapB (zeroP t) k.body k'.body
theorem findD_mem {b s : Nat} {ro : Bool} : ∀ {t : Th3}, findD b t = some (s, ro) → (s, b, ro) ∈ t
  | [], h => by simp [findD] at h
  | (s', d, ro') :: r, h => by
    simp only [findD] at h
    by_cases hd : d = b
    · subst hd; simp at h; obtain ⟨rfl, rfl⟩ := h; simp
    · rw [beqF hd] at h; exact List.mem_cons_of_mem _ (findD_mem h)
theorem mem_dsts {s d : Nat} {ro : Bool} : ∀ {t : Th3}, (s, d, ro) ∈ t → d ∈ dsts t
  | (s', d', ro') :: r, h => by
    rcases List.mem_cons.1 h with h | h
    · injection h with _ h; injection h with h _; subst h; simp [dsts]
    · simp only [dsts, List.mem_cons]; exact .inr (mem_dsts h)
theorem mem_findD {b s : Nat} {ro : Bool} : ∀ {t : Th3}, nodupN (dsts t) = true → (s, b, ro) ∈ t → findD b t = some (s, ro)
  | (s', d, ro') :: r, hn, h => by
    simp only [dsts, nodupN, Bool.and_eq_true, Bool.not_eq_true', memN_false] at hn
    simp only [findD]
    rcases List.mem_cons.1 h with h | h
    · injection h with h1 h; injection h with h2 h3; subst h1; subst h2; subst h3; simp
    · have hd : d ≠ b := fun e => hn.1 (e ▸ mem_dsts h)
      rw [beqF hd]; exact mem_findD hn.2 h
theorem mem_pairsIn {s d : Nat} : ∀ {t : Th3}, (s, d) ∈ pairsIn t → ∃ ro, (s, d, ro) ∈ t
  | (s', d', ro) :: r, h => by
    simp only [pairsIn, List.mem_cons] at h
    rcases h with h | h
    · injection h with h1 h2; subst h1; subst h2; exact ⟨ro, by simp⟩
    · obtain ⟨ro', h⟩ := mem_pairsIn h; exact ⟨ro', by simp [h]⟩
theorem mem_pairsOut {s d : Nat} : ∀ {t : Th3}, (d, s) ∈ pairsOut t → (s, d, false) ∈ t
  | (s', d', ro) :: r, h => by
    simp only [pairsOut] at h
    cases ro with
    | true => simp only [cond_true] at h; exact List.mem_cons_of_mem _ (mem_pairsOut h)
    | false =>
      simp only [cond_false, List.mem_cons] at h
      rcases h with h | h
      · injection h with h1 h2; subst h1; subst h2; simp
      · exact List.mem_cons_of_mem _ (mem_pairsOut h)
theorem alone_get {s d : Nat} {all : Th3} : ∀ {t : Th3}, aloneT t all = true → (s, d, false) ∈ t → ∀ d' ro', (s, d', ro') ∈ all → d' = d
  | (s', d0, ro) :: r, ha, h, d', ro', hm => by
    simp only [aloneT, Bool.and_eq_true, Bool.or_eq_true] at ha
    rcases List.mem_cons.1 h with h | h
    · injection h with h1 h; injection h with h2 h3; subst h1; subst h2; subst h3
      have := ha.1
      simp only [Bool.false_eq_true, false_or, List.all_eq_true] at this
      have := this _ hm
      simp only [Nat.beq_refl, Bool.not_true, Bool.false_or] at this
      exact Nat.eq_of_beq_eq_true this
    · exact alone_get ha.2 h d' ro' hm
section call
variable {t : Th3} {n0 : Nat}
theorem via_dst (hn : nodupN (dsts t) = true) {s d : Nat} {ro : Bool} (h : (s, d, ro) ∈ t) (hd : d ≠ 0) (i : Nat) : φ.via t d i = (φ s i).map (fun l => if ro = true then { l with own := false } else l) := by
  simp only [Phi.via, if_neg hd, mem_findD hn h]
theorem moves_in (ht : okTh t n0 = true) : Moves (zeroP t) φ (φ.via t) := by
  simp only [okTh, Bool.and_eq_true, List.all_eq_true, Bool.not_eq_true'] at ht
  intro b b' i l hb hl
  simp only [zeroP, List.mem_cons, Prod.mk.injEq] at hb
  rcases hb with ⟨rfl, rfl⟩ | hb
  · exact ⟨{ l with own := false }, by simp [Phi.via, hl], rfl, rfl, rfl, by simp⟩
  · obtain ⟨ro, hm⟩ := mem_pairsIn hb
    have hd : b' ≠ 0 := fun e => by have := (ht.2 b' (mem_dsts hm)).2; rw [e] at this; simp at this
    refine ⟨if ro = true then { l with own := false } else l, by rw [via_dst ht.1.1 hm hd, hl]; rfl, ?_, ?_, ?_, ?_⟩ <;> cases ro <;> simp
theorem RM.via (ht : okTh t n0 = true) (hm : RM φ m w) {m' : Mem} (hv : viewM t m m') : RM (φ.via t) m' w := by
  have ht' := ht
  simp only [okTh, Bool.and_eq_true, List.all_eq_true, Bool.not_eq_true'] at ht
  have hd0 : ∀ {s d ro}, (s, d, ro) ∈ t → d ≠ 0 := fun {s d ro} h e => by have := (ht.2 d (mem_dsts h)).2; rw [e] at this; simp at this
  refine ⟨fun g => ?_, fun b' i k' h => ?_, fun b1 i1 k1 l1 b2 i2 k2 l2 h1 h2 hl1 hl2 ho hz1 hz2 heq => ?_⟩
  · obtain ⟨l, h1, h2, h3⟩ := hm.glob g
    exact ⟨{ l with own := false }, by simp [Phi.via, h1], h2, h3⟩
  · obtain ⟨b, ro, k, hmem, hk, hown, hex, hbody⟩ := hv _ _ _ h
    obtain ⟨l, hl, H⟩ := hm.blk _ _ _ hk
    obtain ⟨hlen, hget⟩ := mapB_get hbody
    refine ⟨if ro = true then { l with own := false } else l, by rw [via_dst ht.1.1 hmem (hd0 hmem), hl]; rfl, ?_⟩
    have e1 : (if ro = true then { l with own := false } else l).r = l.r ∧ (if ro = true then { l with own := false } else l).s = l.s ∧ (if ro = true then { l with own := false } else l).sz = l.sz := by cases ro <;> simp
    refine ⟨?_, ?_, fun he => ?_, fun hz => ?_, fun j hj => ?_, fun hoo j hj => ?_⟩
    · rw [hown, ← H.own]; cases ro <;> simp
    · rw [e1.2.1, e1.2.2]; show l.s + k'.body.len ≤ l.sz; rw [← hlen]; exact H.fits
    · rw [e1.2.1, e1.2.2]; obtain ⟨q1, q2⟩ := H.exact (hex he); exact ⟨q1, by rw [q2]; exact hlen⟩
    · rw [e1.1, e1.2.2]; rw [e1.2.2] at hz; exact H.there hz
    · have hj' : j < k.body.len := by rw [hlen]; exact hj
      obtain ⟨v, hv1, hv2⟩ := H.cell j hj'
      exact ⟨v, by rw [e1.1, e1.2.1]; exact hv1, mapC_rel (moves_in ht') (hget j hj') hv2⟩
    · rw [e1.1]; rw [e1.2.2] at hj
      refine H.free ?_ j hj
      cases ro with
      | true => simp at hoo
      | false => simpa using hoo
  · obtain ⟨c1, ro1, q1, hm1, hk1, hown1, _, _⟩ := hv _ _ _ h1
    obtain ⟨c2, ro2, q2, hm2, hk2, _, _, _⟩ := hv _ _ _ h2
    obtain ⟨p1, hp1, H1⟩ := hm.blk _ _ _ hk1
    obtain ⟨p2, hp2, H2⟩ := hm.blk _ _ _ hk2
    rw [via_dst ht.1.1 hm1 (hd0 hm1), hp1] at hl1
    rw [via_dst ht.1.1 hm2 (hd0 hm2), hp2] at hl2
    simp only [Option.map_some, Option.some.injEq] at hl1 hl2
    have hro : ro1 = false := by cases ro1 with | false => rfl | true => rw [← hl1] at ho; simp at ho
    subst hro
    simp only [Bool.false_eq_true, if_false] at hl1
    subst hl1
    have hz2' : 0 < p2.sz := by rw [← hl2] at hz2; cases ro2 <;> simpa using hz2
    have heq' : p1.r = p2.r := by rw [heq, ← hl2]; cases ro2 <;> simp
    obtain ⟨rfl, rfl⟩ := hm.inj _ _ _ _ _ _ _ _ hk1 hk2 hp1 hp2 ho hz1 hz2' heq'
    exact ⟨(alone_get ht.1.2 hm1 _ _ hm2).symm, rfl⟩
end call
end Go.Proofs.Ytohleiikedpmkaa.Vm

namespace Go.Proofs.Ytohleiikedpmkaa.Vm
open Go
variable {P : Program} {φ φ' : Phi} {m : Mem} {w w' : World}
def okNu (nu : Th) (n0 nid : Nat) : Bool := nodupN (fsts nu) && nodupN (snds nu) && (fsts nu).all (fun s => Nat.ble n0 s) && (snds nu).all (fun d => Nat.ble nid d && Nat.blt d (nid + WW))
def viewOut (t : Th) (up0 up : Mem) : Prop := ∀ b i k, look up b i = some k → ∃ b0 k0, (b0, b) ∈ t ∧ look up0 b0 i = some k0 ∧ k.own = k0.own ∧ (k.ex = true → k0.ex = true) ∧ mapB t k0.body k.body
theorem fsts_inj {s d d' : Nat} : ∀ {t : Th}, nodupN (fsts t) = true → (s, d) ∈ t → (s, d') ∈ t → d = d'
  | (c, e) :: r, hn, h, h' => by
    simp only [fsts, nodupN, Bool.and_eq_true, Bool.not_eq_true', memN_false] at hn
    rcases List.mem_cons.1 h with g | g <;> rcases List.mem_cons.1 h' with g' | g'
    · injection g with _ h2; injection g' with _ h3; rw [h2, h3]
    · injection g with h1 _; exact absurd (h1 ▸ mem_fsts (t := r) g') hn.1
    · injection g' with h1 _; exact absurd (h1 ▸ mem_fsts (t := r) g) hn.1
    · exact fsts_inj hn.2 g g'
def killOk (t : Th3) : List Nat → List Nat → Bool
  | [], _ => true
  | b0 :: r, wr => (match findD b0 t with | some (s, ro) => ro || memN s wr | none => true) && killOk t r wr
theorem killOk_get {t : Th3} {b0 s : Nat} : ∀ {l wr : List Nat}, killOk t l wr = true → b0 ∈ l → findD b0 t = some (s, false) → s ∈ wr
  | c :: r, wr, h, hb, hf => by
    simp only [killOk, Bool.and_eq_true] at h
    rcases List.mem_cons.1 hb with rfl | hb
    · rw [hf] at h; simpa [memN_iff] using h.1
    · exact killOk_get h.2 hb hf
theorem Contract0.call {f : Nat} {args0 args : List V} {m0 : Mem} {n0 nid : Nat} {res0 res : V} {kill0 kill : List Nat} {up0 up : Mem} (hC : Contract0 P f args0 m0 n0 res0 kill0 up0) (t : Th3) (nu : Th)
    (ht : okTh t n0 = true) (hnu : okNu nu n0 nid = true) (hv : viewM t m m0) (ha : mapVs (zeroP t) args args0) (hn0 : 0 < n0)
    (hres : mapV (pairsOut t ++ nu) res0 res) (hup : viewOut (pairsOut t ++ nu) up0 up) (hkill : killOk t (kill0 ++ up0.map Prod.fst) (kill ++ up.map Prod.fst) = true) :
    Contract P f args m nid res kill up := by
  intro φ w vals hm hf hall
  have ht' := ht
  simp only [okTh, Bool.and_eq_true, List.all_eq_true, Bool.not_eq_true'] at ht
  simp only [okNu, Bool.and_eq_true, List.all_eq_true] at hnu
  obtain ⟨⟨⟨hnf, hns⟩, hnf0⟩, hns0⟩ := hnu
  have hd0 : ∀ {s d ro}, (s, d, ro) ∈ t → d ≠ 0 ∧ d < n0 := fun {s d ro} h => ⟨fun e => by have := (ht.2 d (mem_dsts h)).2; rw [e] at this; simp at this, Nat.lt_of_succ_le (Nat.le_of_ble_eq_true (ht.2 d (mem_dsts h)).1)⟩
  have hfresh : Fresh (φ.via t) n0 := by
    intro b hb i
    have hb0 : b ≠ 0 := by omega
    simp only [Phi.via, if_neg hb0]
    cases hfd : findD b t with
    | none => rfl
    | some p =>
      obtain ⟨s, ro⟩ := p
      have := (hd0 (findD_mem hfd)).2
      omega
  refine (hC (φ.via t) w vals (hm.via ht' hv) hfresh (mapVs_rel (moves_in ht') ha hall)).mono ?_
  rintro e w' ⟨v, φ1, he, hrv, S⟩
  let φ2 : Phi := fun b i => match φ b i with | some l => some l | none => (match findN b nu with | some b0 => φ1 b0 i | none => none)
  have hle2 : φ.le φ2 := by
    intro b i l h
    show (match φ b i with | some l => some l | none => _) = some l
    rw [h]
  have hnew2 : ∀ b b0 i, (b0, b) ∈ nu → φ2 b i = φ1 b0 i := by
    intro b b0 i h
    have hb := hns0 b (mem_snds h)
    have h1 : φ b i = none := hf b (Nat.le_of_ble_eq_true hb.1) (Nat.lt_of_succ_le (Nat.le_of_ble_eq_true hb.2)) i
    show (match φ b i with | some l => some l | none => (match findN b nu with | some b0 => φ1 b0 i | none => none)) = _
    rw [h1, mem_findN hns h]
  have hold : ∀ s d i l, (s, d, false) ∈ t → φ1 d i = some l → φ s i = some l := by
    intro s d i l h h1
    rcases S.new d i l h1 with h2 | h2
    · rw [via_dst ht.1.1 h (hd0 h).1] at h2
      simpa using h2
    · have := (hd0 h).2; omega
  have hmv : ∀ b0 b i l, (b0, b) ∈ pairsOut t ++ nu → φ1 b0 i = some l → φ2 b i = some l := by
    intro b0 b i l h h1
    rcases List.mem_append.1 h with h | h
    · exact hle2 _ _ _ (hold b b0 i l (mem_pairsOut h) h1)
    · rw [hnew2 b b0 i h]; exact h1
  have hmoves : Moves (pairsOut t ++ nu) φ1 φ2 := fun b0 b i l h h1 => ⟨l, hmv b0 b i l h h1, rfl, rfl, rfl, fun h => h⟩
  have alias : ∀ {r : Nat}, (∃ b0 i0 k0 l0, b0 ∈ kill0 ++ up0.map Prod.fst ∧ look m0 b0 i0 = some k0 ∧ φ.via t b0 i0 = some l0 ∧ l0.own = true ∧ 0 < l0.sz ∧ l0.r = r) → ∃ b i k l, b ∈ kill ++ up.map Prod.fst ∧ look m b i = some k ∧ φ b i = some l ∧ l.own = true ∧ 0 < l.sz ∧ l.r = r := by
    rintro r ⟨b0, i0, k0, l0, h1, h2, h3, h4, h5, h6⟩
    obtain ⟨b, ro, k, hmem, hk, _, _, _⟩ := hv _ _ _ h2
    rw [via_dst ht.1.1 hmem (hd0 hmem).1] at h3
    obtain ⟨l, hl, e⟩ := Option.map_eq_some_iff.1 h3
    have hro : ro = false := by cases ro with | false => rfl | true => simp at e; rw [← e] at h4; simp at h4
    subst hro
    simp at e
    subst e
    exact ⟨b, i0, k, l, killOk_get hkill h1 (mem_findD ht.1.1 hmem), hk, hl, h4, h5, h6⟩
  refine ⟨v, φ2, he, mapV_rel hmoves hres hrv, hle2, ?_, ?_, ?_, ?_, ?_⟩
  · intro b i l h
    cases hb : φ b i with
    | some l' =>
      have := hle2 _ _ _ hb
      rw [h] at this
      exact .inl this.symm
    | none =>
      right
      have h' : (match φ b i with | some l => some l | none => (match findN b nu with | some b0 => φ1 b0 i | none => none)) = some l := h
      rw [hb] at h'
      simp only at h'
      cases hn : findN b nu with
      | none => rw [hn] at h'; simp at h'
      | some b0 =>
        have hb := hns0 b (mem_snds (findN_mem hn))
        exact ⟨Nat.le_of_ble_eq_true hb.1, Nat.lt_of_succ_le (Nat.le_of_ble_eq_true hb.2)⟩
  · exact S.keeps.imp fun r _ h => alias h
  · intro b i k h
    obtain ⟨b0, k0, hb, hk0, hown, hex, hbody⟩ := hup _ _ _ h
    obtain ⟨l, hl, H⟩ := S.blk _ _ _ hk0
    obtain ⟨hlen, hget⟩ := mapB_get hbody
    refine ⟨l, hmv _ _ _ _ hb hl, by rw [hown]; exact H.own, ?_, fun he => ?_, H.there, fun j hj => ?_, H.free⟩
    · show l.s + k.body.len ≤ l.sz; rw [← hlen]; exact H.fits
    · obtain ⟨q1, q2⟩ := H.exact (hex he); exact ⟨q1, by rw [q2]; exact hlen⟩
    · have hj' : j < k0.body.len := by rw [hlen]; exact hj
      obtain ⟨v, hv1, hv2⟩ := H.cell j hj'
      exact ⟨v, hv1, mapC_rel hmoves (hget j hj') hv2⟩
  · intro b i k l h hl hz
    obtain ⟨b0, k0, hb, hk0, hown, hex, hbody⟩ := hup _ _ _ h
    obtain ⟨l1, hl1, H⟩ := S.blk _ _ _ hk0
    have := hmv _ _ _ _ hb hl1
    rw [hl] at this
    injection this with this
    subst this
    rcases S.src _ _ _ _ hk0 hl1 hz with h1 | h1
    · exact .inl h1
    · obtain ⟨b', i', k', l', q1, q2, q3, q4, q5, q6⟩ := alias h1
      exact .inr (.inl ⟨b', i', k', l', q1, q2, q3, q4, q5, q6⟩)
  · intro b i k l b' i' k' l' h h' hl hl' ho hz hz' heq
    obtain ⟨b0, k0, hb, hk0, _, _, _⟩ := hup _ _ _ h
    obtain ⟨b0', k0', hb', hk0', _, _, _⟩ := hup _ _ _ h'
    obtain ⟨l1, hl1, _⟩ := S.blk _ _ _ hk0
    obtain ⟨l1', hl1', _⟩ := S.blk _ _ _ hk0'
    have e1 := hmv _ _ _ _ hb hl1
    rw [hl] at e1; injection e1 with e1; subst e1
    have e2 := hmv _ _ _ _ hb' hl1'
    rw [hl'] at e2; injection e2 with e2; subst e2
    obtain ⟨rfl, rfl⟩ := S.inj _ _ _ _ _ _ _ _ hk0 hk0' hl1 hl1' ho hz hz' heq
    refine ⟨?_, rfl⟩
    rcases List.mem_append.1 hb with q | q <;> rcases List.mem_append.1 hb' with q' | q'
    · have := mem_findD ht.1.1 (mem_pairsOut q)
      rw [mem_findD ht.1.1 (mem_pairsOut q')] at this
      simpa using this.symm
    · have h1 := (hd0 (mem_pairsOut q)).2
      have h2 := Nat.le_of_ble_eq_true (hnf0 _ (mem_fsts q'))
      omega
    · have h1 := (hd0 (mem_pairsOut q')).2
      have h2 := Nat.le_of_ble_eq_true (hnf0 _ (mem_fsts q))
      omega
    · exact fsts_inj hnf q q'
end Go.Proofs.Ytohleiikedpmkaa.Vm

namespace Go.Proofs.Ytohleiikedpmkaa.Vm
open Go
variable {P : Program} {φ φ' : Phi} {m : Mem} {w w' : World}
theorem mapCs_int {t : Th} {k : IntKind} : ∀ {l : List C} {q : List Int}, mapCs t l (q.map (.int k)) → l = q.map (.int k)
  | [], [], _ => rfl
  | [], _ :: _, h => by simp [mapCs] at h
  | _ :: _, [], h => by simp [mapCs] at h
  | c :: r, n :: q, h => by
    simp only [List.map_cons, mapCs, mapC] at h
    rw [List.map_cons, ← mapCs_int h.2, h.1]
theorem mapInt_inj {k : IntKind} : ∀ {l q : List Int}, l.map (C.int k) = q.map (C.int k) → l = q
  | [], [], _ => rfl
  | [], _ :: _, h => by simp at h
  | _ :: _, [], h => by simp at h
  | a :: l, b :: q, h => by
    simp only [List.map_cons, List.cons.injEq, C.int.injEq, true_and] at h
    rw [h.1, mapInt_inj h.2]
theorem mapV1_norm {t : Th} {v v' : V} (h : mapV1 t v v') : mapV1 t v (normV1 v') := by
  cases v'
  case agg l' =>
    simp only [normV1]
    split
    · rename_i k q hq
      obtain ⟨rfl, hne⟩ := rowOf_eq hq
      cases v <;> simp only [mapV1] at h ⊢
      · exact mapCs_int h
      · rename_i k0 l0
        have := mapCs_int h
        cases q with
        | nil => exact absurd rfl hne
        | cons n q =>
          cases l0 with
          | nil => simp at this
          | cons n0 l0 =>
            have hk : k0 = k := by
              simp only [List.map_cons, List.cons.injEq, C.int.injEq] at this
              exact this.1.1
            subst hk
            exact ⟨rfl, mapInt_inj this⟩
    · exact h
  all_goals exact h
theorem mapV_norm {t : Th} {v v' : V} (hn : ∀ l, v' ≠ .tup l) (h : mapV t v v') : mapV t v (normV v') := by
  cases v'
  case tup l => exact absurd rfl (hn l)
  case agg l' =>
    have : mapV1 t v (normV1 (.agg l')) := mapV1_norm (by simpa only [mapV] using h)
    simp only [normV]
    simp only [normV1] at this ⊢
    split <;> rename_i hq <;> rw [hq] at this <;> simpa only [mapV] using this
  all_goals exact h
theorem mapB_norm {t : Th} {l l' : List C} (h : mapCs t l l') : mapB t (.cells l) (normBody (.cells l')) := by
  simp only [normBody]
  split
  · rename_i k q hq
    obtain ⟨rfl, _⟩ := rowOf_eq hq
    exact mapCs_int h
  · exact h
theorem RC_ints {k : IntKind} : ∀ {q : List Int} {vs : List Value}, All2 (RC φ) (q.map (.int k)) vs → vs = q.map (Value.int k)
  | [], _, h => by cases h; rfl
  | n :: q, _, h => by
    cases h with
    | cons h0 h1 => rw [List.map_cons, ← RC_ints h1, h0]
theorem RV1.norm {v : V} {x : Value} (h : RV1 φ v x) : RV1 φ (normV1 v) x := by
  cases v
  case agg l =>
    simp only [normV1]
    split
    · rename_i k q hq
      obtain ⟨rfl, _⟩ := rowOf_eq hq
      obtain ⟨a, rfl, ha⟩ := h
      have := RC_ints ha
      show Value.agg a = .agg (q.map (Value.int k)).toArray
      rw [← this]
    · exact h
  all_goals exact h
theorem RV.norm {v : V} {x : Value} (h : RV φ v x) : RV φ (normV v) x := by
  cases v
  case tup l =>
    obtain ⟨a, e, h⟩ := h
    exact ⟨a, e, All2.map_left.2 (h.imp fun _ _ => RV1.norm)⟩
  case agg l =>
    have : RV1 φ (normV1 (.agg l)) x := RV1.norm h
    simp only [normV]
    simp only [normV1] at this ⊢
    split <;> rename_i hq <;> rw [hq] at this <;> exact this
  all_goals exact h
theorem Contract0.nres {f : Nat} {args : List V} {n0 : Nat} {res res' : V} {kill : List Nat} {up : Mem} (h : Contract0 P f args m n0 res kill up) (e : normV res = res') : Contract0 P f args m n0 res' kill up := by
  subst e
  intro φ w vals hm hf hall
  refine (h φ w vals hm hf hall).mono ?_
  rintro e w' ⟨v, φ', he, hr, hs⟩
  exact ⟨v, φ', he, hr.norm, hs⟩
end Go.Proofs.Ytohleiikedpmkaa.Vm

namespace Go.Proofs.Ytohleiikedpmkaa.Vm
open Go
variable {P : Program} {φ φ' : Phi} {m : Mem} {w w' : World}
def AllP : List Prop → Prop
  | [] => True
  | p :: r => p ∧ AllP r
theorem AllP.all : ∀ {l : List Prop}, AllP l → ∀ q ∈ l, q
  | p :: r, h, q, hq => by
    rcases List.mem_cons.1 hq with rfl | hq
    · exact h.1
    · exact AllP.all h.2 q hq
def runs (P : Program) (nt fuel n0 : Nat) (k : K) (s : S0) (hs : List (Nat × Hint)) (v : SView) : Option (Ex × S0 × List Prop) :=
  match vcode P nt fuel k (s, ⟨0, hs, []⟩) with
  | some (x, s', g) => bif v.ok n0 then some (x, v.app n0 s', g.cs) else none
  | none => none
theorem CodeOk.of_runs {nt fuel n0 : Nat} {k : K} {s : S0} {hs : List (Nat × Hint)} {v : SView} {x : Ex} {s' : S0} {cs : List Prop} (hmx : P.follows .mixedOrders = true)
    (h : runs P nt fuel n0 k s hs v = some (x, s', cs)) (hcs : AllP cs) : CodeOk P nt n0 k s x s' := by
  unfold runs at h
  split at h
  · rename_i x1 s1 g1 hv
    obtain ⟨hok, h⟩ := bifS h
    injection h with h; injection h with e1 h; injection h with e2 e3
    subst e1; subst e2; subst e3
    intro Γ c hP hnt hn0 hf0 hc φ a w R hf
    subst hP; subst hnt
    refine wp_mono (vcode_sound (Γ := Γ) rfl hmx hf0 k c s _ _ s1 g1 hv hcs.all hc φ a w R hf) ?_
    rintro e a' w' ⟨x', s'', φ', q1, ⟨rfl, rfl⟩, q3, q4⟩
    obtain ⟨q5, q6⟩ := q3.view (nx := s''.nx) v hok hn0 hf0
    exact ⟨x', _, _, q1, ⟨rfl, rfl⟩, q5, q6⟩
  · simp at h
theorem CodeOk.pre {nt n0 : Nat} {k : K} {s s1 s' : S0} {x : Ex} (v : SView) (hok : v.ok n0 = true) (hv : v.app n0 s = s1) (h : CodeOk P nt n0 k s1 x s') : CodeOk P nt n0 k s x s' := by
  subst hv
  intro Γ c hP hnt hn0 hf0 hc φ a w R hf
  obtain ⟨q5, q6⟩ := R.view (nx := s.nx) v hok hn0 hf0
  exact h Γ c hP hnt hn0 hf0 hc _ a w q5 q6
theorem CodeOk.mono {nt n0 n1 : Nat} {k : K} {s s' : S0} {x : Ex} (h : CodeOk P nt n0 k s x s') (hn : n1 ≤ n0) : CodeOk P nt n1 k s x s' :=
  fun Γ c hP hnt hn0 => h Γ c hP hnt (Nat.le_trans hn0 hn)
theorem CodeOk.loop {α : Type} {nt n0 : Nat} {k : K} {ex : Ex} {s' : S0} (I : α → S0) (Inv : α → Prop) (μ : α → Nat) (hex : ex ≠ .normal)
    (step : ∀ x, Inv x → (∃ y, Inv y ∧ μ y < μ x ∧ CodeOk P nt n0 k (I x) .normal (I y)) ∨ CodeOk P nt n0 k (I x) ex s') (x : α) (hx : Inv x) : CodeOk P nt n0 (.loop k) (I x) ex s' := by
  intro Γ c hP hnt hn0 hf0 hc
  cases c <;> simp only [cK, K.strip] at hc <;> try (exfalso; revert hc; (repeat' split) <;> simp; done)
  rename_i cb
  split at hc
  · rename_i xa ha
    injection hc with hc; injection hc with e1; subst e1
    refine VT_loop (α := {x // Inv x}) (fun y => I y.1) (fun y => μ y.1) ?_ ⟨x, hx⟩
    rintro ⟨y, hy⟩
    rcases step y hy with ⟨z, hz, hm, hk⟩ | hk
    · refine (hk Γ cb hP hnt hn0 hf0 ha).mono ?_
      rintro x' s'' ⟨rfl, rfl⟩
      exact ⟨⟨z, hz⟩, hm, fun φ a w R hf => ⟨φ, R, hf⟩⟩
    · refine (hk Γ cb hP hnt hn0 hf0 ha).mono ?_
      rintro x' s'' ⟨rfl, rfl⟩
      cases x' with
      | normal => exact absurd rfl hex
      | exit j => exact ⟨rfl, rfl⟩
      | ret => exact ⟨rfl, rfl⟩
  · simp at hc
def noExit : Ex → Bool
  | .exit _ => false
  | _ => true
def flatTup : Option (List V) → Bool
  | some l => l.all flatV
  | none => true
def pick (me : Mem) : List Nat → Mem
  | [] => []
  | b :: r => match ent me b with | some e => (b, e) :: pick me r | none => pick me r
theorem ent_pick {me : Mem} : ∀ {l : List Nat} {b : Nat} {e : Ent}, ent (pick me l) b = some e → ent me b = some e
  | [], b, e, h => by simp [pick, ent] at h
  | c :: r, b, e, h => by
    simp only [pick] at h
    split at h
    · rename_i e0 he
      simp only [ent] at h
      by_cases hb : c = b
      · subst hb; simp at h; subst h; exact he
      · rw [beqF hb] at h; exact ent_pick h
    · exact ent_pick h
def Ent.owned : Ent → Bool
  | .one k => k.own
  | .many _ => true
def OwnF (f : Nat → Option Blk) : Prop := ∀ i k, f i = some k → k.own = true
def RoF (f : Nat → Option Blk) : Prop := ∀ i k, f i = some k → k.own = false
theorem OwnF.of {g : Nat → Blk} (h : ∀ i, (g i).own = true) : OwnF (fun i => some (g i)) := fun i k e => by injection e with e; subst e; exact h i
theorem RoF.of {g : Nat → Blk} (h : ∀ i, (g i).own = false) : RoF (fun i => some (g i)) := fun i k e => by injection e with e; subst e; exact h i
def ownF : Mem → List Prop → List Prop
  | [], cs => cs
  | (_, .one _) :: r, cs => ownF r cs
  | (_, .many f) :: r, cs => OwnF f :: ownF r cs
theorem ownF_all : ∀ {m : Mem} {cs : List Prop}, AllP (ownF m cs) → AllP cs ∧ ∀ b f, ent m b = some (.many f) → OwnF f
  | [], cs, h => ⟨h, fun b f e => by simp [ent] at e⟩
  | (c, .one k) :: r, cs, h => by
    obtain ⟨h1, h2⟩ := ownF_all (m := r) h
    refine ⟨h1, fun b f e => ?_⟩
    simp only [ent] at e
    by_cases hc : c = b
    · subst hc; simp at e
    · rw [beqF hc] at e; exact h2 b f e
  | (c, .many g) :: r, cs, h => by
    obtain ⟨h0, h⟩ := h
    obtain ⟨h1, h2⟩ := ownF_all (m := r) h
    refine ⟨h1, fun b f e => ?_⟩
    simp only [ent] at e
    by_cases hc : c = b
    · subst hc; simp at e; subst e; exact h0
    · rw [beqF hc] at e; exact h2 b f e
def OwnedInP : Mem → List Nat → Prop
  | [], _ => True
  | (b, .one k) :: r, l => (!k.own || memN b l) = true ∧ OwnedInP r l
  | (b, .many f) :: r, l => (memN b l = true ∨ RoF f) ∧ OwnedInP r l
def ownedIn : Mem → List Nat → Bool
  | [], _ => true
  | (b, e) :: r, l => (match e with | .one k => !k.own || memN b l | .many _ => memN b l) && ownedIn r l
theorem ownedInP_get : ∀ {m : Mem} {l : List Nat} {b i : Nat} {k : Blk}, OwnedInP m l → look m b i = some k → k.own = true → b ∈ l
  | [], l, b, i, k, _, h, _ => by simp [look, ent] at h
  | (c, .one k0) :: r, l, b, i, k, ho, h, hk => by
    unfold look at h
    simp only [ent] at h
    by_cases hc : c = b
    · subst hc
      simp at h
      simp only [Ent.at] at h
      cases hi : Nat.beq i 0 with
      | false => rw [hi] at h; simp at h
      | true =>
        rw [hi] at h; simp at h; subst h
        have := ho.1
        simp only [hk, Bool.not_true, Bool.false_or] at this
        exact memN_iff.1 this
    · rw [beqF hc] at h
      exact ownedInP_get ho.2 (b := b) (i := i) (by unfold look; exact h) hk
  | (c, .many f) :: r, l, b, i, k, ho, h, hk => by
    unfold look at h
    simp only [ent] at h
    by_cases hc : c = b
    · subst hc
      simp at h
      rcases ho.1 with h1 | h1
      · exact memN_iff.1 h1
      · have := h1 i k h
        rw [hk] at this; cases this
    · rw [beqF hc] at h
      exact ownedInP_get ho.2 (b := b) (i := i) (by unfold look; exact h) hk
theorem ownedInP_of : ∀ {m : Mem} {l : List Nat}, ownedIn m l = true → OwnedInP m l
  | [], _, _ => trivial
  | (c, .one k) :: r, l, h => by simp only [ownedIn, Bool.and_eq_true] at h; exact ⟨h.1, ownedInP_of h.2⟩
  | (c, .many f) :: r, l, h => by simp only [ownedIn, Bool.and_eq_true] at h; exact ⟨.inl h.1, ownedInP_of h.2⟩
def frun (P : Program) (fn : Func) (fuel : Nat) (k : K) (args : List V) (m : Mem) (n0 : Nat) (hs : List (Nat × Hint)) (outs : List Nat) : Option (V × Mem × List Prop) :=
  match vcode P fn.ntmps fuel k (⟨tmOf args 0, m, n0⟩, ⟨0, hs, []⟩) with
  | some (x, s', g) => bif noExit x && flatTup (mapO (vres1 P s') fn.results.toList) && (pick s'.me outs).all (fun e => e.2.owned) then (match vres P fn.results.toList s' with | some v => some (normV v, pick s'.me outs, ownF (pick s'.me outs) g.cs) | none => none) else none
  | none => none
theorem Contract0.of_frunF {f : Nat} {fn : Func} {c : Code} {fuel : Nat} {k : K} {args : List V} {n0 : Nat} {hs : List (Nat × Hint)} {outs : List Nat} {res : V} {kill : List Nat} {up : Mem} {cs : List Prop}
    (hmx : P.follows .mixedOrders = true) (hfn : P.funcs[f]? = some fn) (hb : fn.body = some c) (hc : cK P c = some k.strip) (hnt : Nat.ble args.length fn.ntmps = true)
    (hown : OwnedInP m (kill ++ keysOf up))
    (h : frun P fn fuel k args m n0 hs outs = some (res, up, cs)) (hcs : AllP cs) : Contract0 P f args m n0 res kill up := by
  have hkeys : ∀ m : Mem, keysOf m = m.map Prod.fst := by
    intro m
    induction m with
    | nil => rfl
    | cons p r ih => simp [keysOf, ih]
  rw [hkeys] at hown
  unfold frun at h
  split at h
  · rename_i x s1 g1 hv
    obtain ⟨hok, h⟩ := bifS h
    split at h
    rotate_left
    · simp at h
    rename_i v0 e1
    injection h with h; injection h with e0 h; injection h with e2 e3
    refine Contract0.nres (res := v0) ?_ e0
    refine contract_body hfn hb (Nat.le_of_ble_eq_true hnt) (fun b i k h1 h2 => ownedInP_get hown h1 h2) ?_
    intro Γ hP hnt' hn0 hf0
    simp only [Bool.and_eq_true, List.all_eq_true] at hok
    subst e2; subst e3; subst hP
    obtain ⟨hcs, hF⟩ := ownF_all hcs
    rw [← hnt'] at hv
    refine (vcode_sound (Γ := Γ) rfl hmx hf0 k c _ _ _ s1 g1 hv hcs.all hc).mono ?_
    rintro x' s'' ⟨rfl, rfl⟩
    refine ⟨?_, e1, ?_, ?_⟩
    · have := hok.1.1
      cases x' <;> simp_all [noExit]
    · intro l hl
      have := hok.1.2
      rw [hl] at this
      exact this
    · intro b i k hk
      unfold look at hk ⊢
      cases he : ent (pick s''.me outs) b with
      | none => rw [he] at hk; simp at hk
      | some e =>
        rw [he] at hk
        rw [ent_pick he]
        refine ⟨hk, ?_⟩
        have mem_ent : ∀ (m : Mem) (b : Nat) (e : Ent), ent m b = some e → (b, e) ∈ m := by
          intro m
          induction m with
          | nil => intro b e h; simp [ent] at h
          | cons p r ih =>
            intro b e h
            obtain ⟨b', e'⟩ := p
            simp only [ent] at h
            by_cases hb : b' = b
            · subst hb; simp at h; subst h; simp
            · rw [beqF hb] at h; exact List.mem_cons_of_mem _ (ih b e h)
        have := hok.2 _ (mem_ent _ _ _ he)
        cases e with
        | one k0 =>
          simp only [Ent.at] at hk
          cases hi : Nat.beq i 0 with
          | false => rw [hi] at hk; simp at hk
          | true => rw [hi] at hk; simp at hk; subst hk; exact this
        | many f => exact hF b f he i k hk
  · simp at h
theorem Contract0.of_frun {f : Nat} {fn : Func} {c : Code} {fuel : Nat} {k : K} {args : List V} {n0 : Nat} {hs : List (Nat × Hint)} {outs : List Nat} {res : V} {kill : List Nat} {up : Mem} {cs : List Prop}
    (hmx : P.follows .mixedOrders = true) (hfn : P.funcs[f]? = some fn) (hb : fn.body = some c) (hc : cK P c = some k.strip) (hnt : Nat.ble args.length fn.ntmps = true)
    (hown : ownedIn m (kill ++ keysOf up) = true)
    (h : frun P fn fuel k args m n0 hs outs = some (res, up, cs)) (hcs : AllP cs) : Contract0 P f args m n0 res kill up :=
  Contract0.of_frunF hmx hfn hb hc hnt (ownedInP_of hown) h hcs
end Go.Proofs.Ytohleiikedpmkaa.Vm

namespace Go.Proofs.Ytohleiikedpmkaa.Vm
open Go
def w32 (n : Int) : Int := n % 4294967296
def bAnd (k : IntKind) (a b : Int) : Int := k.wrap (BitVec.ofInt k.bits a &&& BitVec.ofInt k.bits b).toNat
def bOr (k : IntKind) (a b : Int) : Int := k.wrap (BitVec.ofInt k.bits a ||| BitVec.ofInt k.bits b).toNat
def bXor (k : IntKind) (a b : Int) : Int := k.wrap (BitVec.ofInt k.bits a ^^^ BitVec.ofInt k.bits b).toNat
def kAt : K → List Bool → K
  | .seq a b, d :: r => bif d then kAt b r else kAt a r
  | .cond _ a b, d :: r => bif d then kAt b r else kAt a r
  | .block _ k, _ :: r => kAt k r
  | .loop k, _ :: r => kAt k r
  | .gh _ _ k, _ :: r => kAt k r
  | k, _ => k
def bodyOf (fn : Func) : Code := match fn.body with | some c => c | none => .skip
def kOf (P : Program) (fn : Func) : K := match cK P (bodyOf fn) with | some k => k | none => .skip
def plainC : C → Bool
  | .ptr _ _ _ | .sl _ _ _ _ _ | .fn _ _ | .unk => false
  | _ => true
def plainCs : List C → Bool
  | [] => true
  | c :: r => plainC c && plainCs r
def plainV1 : V → Bool
  | .c x => plainC x
  | .agg l => plainCs l
  | .aggi _ _ => true
  | _ => false
def plainV1s : List V → Bool
  | [] => true
  | v :: r => plainV1 v && plainV1s r
def plainV : V → Bool
  | .tup l => plainV1s l
  | v => plainV1 v
theorem mapC_plain {t : Th} {c : C} (h : plainC c = true) : mapC t c c := by
  cases c <;> simp_all [plainC, mapC]
theorem mapCs_plain {t : Th} : ∀ {l : List C}, plainCs l = true → mapCs t l l
  | [], _ => trivial
  | c :: r, h => by
    simp only [plainCs, Bool.and_eq_true] at h
    exact ⟨mapC_plain h.1, mapCs_plain h.2⟩
theorem mapV1_plain {t : Th} {v : V} (h : plainV1 v = true) : mapV1 t v v := by
  cases v <;> simp_all [plainV1, mapV1]
  · exact mapC_plain h
  · exact mapCs_plain h
theorem mapV1s_plain {t : Th} : ∀ {l : List V}, plainV1s l = true → mapV1s t l l
  | [], _ => trivial
  | c :: r, h => by
    simp only [plainV1s, Bool.and_eq_true] at h
    exact ⟨mapV1_plain h.1, mapV1s_plain h.2⟩
theorem mapV_plain {t : Th} {v : V} (h : plainV v = true) : mapV t v v := by
  cases v
  case tup l => exact mapV1s_plain (t := t) (l := l) h
  all_goals (simp only [mapV]; exact mapV1_plain h)
def PureF (P : Program) (f : Nat) (args : List V) (res : V) : Prop := Contract0 P f args [] 1 res [] []
end Go.Proofs.Ytohleiikedpmkaa.Vm

namespace Go.Proofs.Ytohleiikedpmkaa.Vm
open Go
theorem Contract0.fr {P : Program} {f : Nat} {fn : Func} {args : List V} {m : Mem} {n0 : Nat} {res : V} {kill : List Nat} {up : Mem} (fuel : Nat) (hs : List (Nat × Hint)) (outs : List Nat) (cs : List Prop) (hmx : P.follows .mixedOrders = true) (hfn : P.funcs[f]? = some fn)
    (h : (fn.body, cK P (bodyOf fn), Nat.ble args.length fn.ntmps, ownedIn m (kill ++ keysOf up), frun P fn fuel (kOf P fn) args m n0 hs outs) = (some (bodyOf fn), some (kOf P fn).strip, true, true, some (res, up, cs))) (hcs : AllP cs) : Contract0 P f args m n0 res kill up := by
  simp only [Prod.mk.injEq] at h
  exact Contract0.of_frun hmx hfn h.1 h.2.1 h.2.2.1 h.2.2.2.1 h.2.2.2.2 hcs
end Go.Proofs.Ytohleiikedpmkaa.Vm

namespace Go.Proofs.Ytohleiikedpmkaa.Vm
open Go
variable {P : Program}
def roM (th : Th) (m : Mem) : Th3 → Mem
  | [] => []
  | (s, d, ro) :: r => match ent m s with
    | some (.one k) => (d, .one ⟨k.own && !ro, k.ex, normBody (renBody th 0 k.body)⟩) :: roM th m r
    | _ => roM th m r
theorem memP_cons {b b' : Nat} {p : Nat × Nat} {t : Th} (h : memP b b' t = true) : memP b b' (p :: t) = true := by
  rw [memP_iff] at h ⊢; exact List.mem_cons_of_mem _ h
theorem ren0_mem {th : Th} {b b' : Nat} (h : ren th 0 b = some b') : memP b b' ((0, 0) :: th) = true := by
  unfold ren at h
  cases hf : findS b th with
  | some d => rw [hf] at h; injection h with h; subst h; exact memP_cons (memP_iff.2 (findS_mem hf))
  | none =>
    rw [hf] at h; simp only at h
    cases hb : Nat.blt b 0 with
    | false => rw [hb] at h; simp at h
    | true => have := Nat.le_of_ble_eq_true hb; omega
theorem mapPs_ren {th : Th} : ∀ {l l' : List (Nat × Nat × Nat)}, renPs th 0 l = some l' → mapPs ((0, 0) :: th) l l'
  | [], _, h => by simp only [renPs] at h; injection h with h; subst h; trivial
  | (b, i, o) :: r, _, h => by
    simp only [renPs] at h
    split at h
    · rename_i b' l' hb hl
      injection h with h; subst h
      exact ⟨ren0_mem hb, rfl, rfl, mapPs_ren hl⟩
    · simp at h
theorem mapC_ren {th : Th} (c : C) : mapC ((0, 0) :: th) c (renC th 0 c) := by
  cases c <;> simp only [renC] <;> try (simp only [mapC]; done)
  case ptr b i o =>
    cases hb : ren th 0 b with
    | none => trivial
    | some b' => exact ⟨ren0_mem hb, rfl, rfl⟩
  case sl b i o n es =>
    cases hb : ren th 0 b with
    | none => trivial
    | some b' => exact ⟨ren0_mem hb, rfl, rfl, rfl, rfl⟩
  case fn f l =>
    cases hl : renPs th 0 l with
    | none => trivial
    | some l' => exact ⟨rfl, mapPs_ren hl⟩
theorem mapCs_ren {th : Th} : ∀ (l : List C), mapCs ((0, 0) :: th) l (l.map (renC th 0))
  | [] => trivial
  | c :: r => ⟨mapC_ren c, mapCs_ren r⟩
theorem mapV1_ren {th : Th} (v : V) (h : ∀ l, v ≠ .tup l) : mapV1 ((0, 0) :: th) v (renV1 th 0 v) := by
  cases v <;> simp only [renV1, mapV1]
  case c c => exact mapC_ren c
  case agg l => exact mapCs_ren l
  case aggi k l => exact ⟨trivial, trivial⟩
  case tup l => exact absurd rfl (h l)
def noTup : List V → Bool
  | [] => true
  | .tup _ :: _ => false
  | _ :: r => noTup r
theorem mapVs_ren {th : Th} : ∀ {l : List V}, noTup l = true → mapVs ((0, 0) :: th) l (l.map fun v => normV (renV th 0 v))
  | [], _ => trivial
  | v :: r, h => by
    refine ⟨?_, mapVs_ren (by cases v <;> simp_all [noTup])⟩
    cases v
    case tup l => simp [noTup] at h
    all_goals (refine mapV_norm (by simp [renV, renV1]) ?_; simp only [renV, renV1, mapV]; exact mapV1_ren (th := th) _ (by simp))
theorem mapB_ren {th : Th} (b : Body) : mapB ((0, 0) :: th) b (normBody (renBody th 0 b)) := by
  cases b with
  | cells l => exact mapB_norm (mapCs_ren l)
  | ints k l => exact ⟨rfl, rfl⟩
  | ig n kf g => exact ⟨rfl, fun j _ => rfl⟩
  | gen n f => exact ⟨rfl, fun j _ => mapC_ren (f j)⟩
  | row n w f =>
    refine ⟨rfl, fun j _ => ?_⟩
    have e : recGet w (fun i => (f i).map (renC th 0)) j = renC th 0 (recGet w f j) := by
      simp only [recGet, List.getD_eq_getElem?_getD, List.getElem?_map]
      cases (f (j / w))[j % w]? <;> rfl
    rw [e]
    exact mapC_ren _
theorem viewM_ro {m : Mem} {t : Th3} : ∀ (r : Th3), (∀ x ∈ r, x ∈ t) → viewM t m (roM (pairsIn t) m r)
  | [], _, b', i, k', h => by simp [roM, look, ent] at h
  | (s, d, ro) :: r, hs, b', i, k', h => by
    simp only [roM] at h
    split at h
    · rename_i k hk
      unfold look at h
      simp only [ent] at h
      by_cases hd : d = b'
      · subst hd
        simp only [Nat.beq_refl, cond_true, Ent.at] at h
        cases hi : Nat.beq i 0 with
        | false => rw [hi] at h; simp at h
        | true =>
          rw [hi] at h; simp only [cond_true] at h
          injection h with h; subst h
          refine ⟨s, ro, k, hs _ (by simp), ?_, rfl, fun h => h, mapB_ren _⟩
          unfold look; rw [hk]; simp only [Ent.at, hi, cond_true]
      · rw [beqF hd] at h
        exact viewM_ro r (fun x hx => hs x (List.mem_cons_of_mem _ hx)) b' i k' (by unfold look; exact h)
    · exact viewM_ro r (fun x hx => hs x (List.mem_cons_of_mem _ hx)) b' i k' h
theorem Contract0.ro {f : Nat} {args args0 : List V} {m m0 : Mem} {n0 : Nat} {res : V} (hC : Contract0 P f args0 m0 n0 res [] []) (t : Th3)
    (ht : okTh t n0 = true) (hm : roM (pairsIn t) m t = m0) (hnt : noTup args = true) (ha : (args.map fun v => normV (renV (pairsIn t) 0 v)) = args0) (hr : plainV res = true) (hn0 : Nat.blt 0 n0 = true) (nid : Nat) : Contract P f args m nid res [] [] := by
  subst hm; subst ha
  refine Contract0.call hC t [] ht rfl (viewM_ro t fun _ h => h) (mapVs_ren hnt) (Nat.le_of_ble_eq_true hn0) (mapV_plain hr) ?_ rfl
  intro b i k hk; simp [look, ent] at hk
def EI (k : IntKind) (a b : Int) : Prop := V.c (C.int k a) = V.c (C.int k b)
def EB (a b : Bool) : Prop := V.c (C.bool a) = V.c (C.bool b)
theorem EI.mk {k : IntKind} {a b : Int} (h : a = b) : EI k a b := by unfold EI; rw [h]
theorem EB.mk {a b : Bool} (h : a = b) : EB a b := by unfold EB; rw [h]
end Go.Proofs.Ytohleiikedpmkaa.Vm

namespace Go.Proofs.Ytohleiikedpmkaa.Vm
open Go
variable {P : Program}
def RenIn (th T : Th) : Prop := ∀ b b', ren th 0 b = some b' → memP b b' T = true
theorem renIn_self (th : Th) : RenIn th th := by
  intro b b' h
  unfold ren at h
  cases hf : findS b th with
  | some d => rw [hf] at h; injection h with h; subst h; exact memP_iff.2 (findS_mem hf)
  | none =>
    rw [hf] at h; simp only at h
    cases hb : Nat.blt b 0 with
    | false => rw [hb] at h; simp at h
    | true => have := Nat.le_of_ble_eq_true hb; omega
theorem mapPs_in {th T : Th} (H : RenIn th T) : ∀ {l l' : List (Nat × Nat × Nat)}, renPs th 0 l = some l' → mapPs T l l'
  | [], _, h => by simp only [renPs] at h; injection h with h; subst h; trivial
  | (b, i, o) :: r, _, h => by
    simp only [renPs] at h
    split at h
    · rename_i b' l' hb hl
      injection h with h; subst h
      exact ⟨H _ _ hb, rfl, rfl, mapPs_in H hl⟩
    · simp at h
theorem mapC_in {th T : Th} (H : RenIn th T) (c : C) : mapC T c (renC th 0 c) := by
  cases c <;> simp only [renC] <;> try (simp only [mapC]; done)
  case ptr b i o =>
    cases hb : ren th 0 b with
    | none => trivial
    | some b' => exact ⟨H _ _ hb, rfl, rfl⟩
  case sl b i o n es =>
    cases hb : ren th 0 b with
    | none => trivial
    | some b' => exact ⟨H _ _ hb, rfl, rfl, rfl, rfl⟩
  case fn f l =>
    cases hl : renPs th 0 l with
    | none => trivial
    | some l' => exact ⟨rfl, mapPs_in H hl⟩
theorem mapCs_in {th T : Th} (H : RenIn th T) : ∀ (l : List C), mapCs T l (l.map (renC th 0))
  | [] => trivial
  | c :: r => ⟨mapC_in H c, mapCs_in H r⟩
def flat1 : V → Bool
  | .tup _ => false
  | _ => true
theorem mapV1_in {th T : Th} (H : RenIn th T) (v : V) (h : flat1 v = true) : mapV1 T v (renV1 th 0 v) := by
  cases v <;> simp only [renV1, mapV1]
  case c c => exact mapC_in H c
  case agg l => exact mapCs_in H l
  case aggi k l => exact ⟨trivial, trivial⟩
  case tup l => simp [flat1] at h
theorem mapV1s_in {th T : Th} (H : RenIn th T) : ∀ (l : List V), l.all flat1 = true → mapV1s T l (l.map (renV1 th 0))
  | [], _ => trivial
  | v :: r, h => by
    rw [List.all_cons, Bool.and_eq_true] at h
    exact ⟨mapV1_in H v h.1, mapV1s_in H r h.2⟩
def flatTup1 : V → Bool
  | .tup l => l.all flat1
  | _ => true
theorem mapV_in {th T : Th} (H : RenIn th T) (v : V) (h : flatTup1 v = true) : mapV T v (renV th 0 v) := by
  cases v
  case tup l => exact mapV1s_in H l h
  all_goals (simp only [renV, renV1, mapV]; first | exact mapV1_in H _ rfl | trivial)
theorem mapB_in {th T : Th} (H : RenIn th T) (b : Body) : mapB T b (normBody (renBody th 0 b)) := by
  cases b with
  | cells l => exact mapB_norm (mapCs_in H l)
  | ints k l => exact ⟨rfl, rfl⟩
  | ig n kf g => exact ⟨rfl, fun j _ => rfl⟩
  | gen n f => exact ⟨rfl, fun j _ => mapC_in H (f j)⟩
  | row n w f =>
    refine ⟨rfl, fun j _ => ?_⟩
    have e : recGet w (fun i => (f i).map (renC th 0)) j = renC th 0 (recGet w f j) := by
      simp only [recGet, List.getD_eq_getElem?_getD, List.getElem?_map]
      cases (f (j / w))[j % w]? <;> rfl
    rw [e]
    exact mapC_in H _
def outM (th : Th) (up0 : Mem) : Th → Mem
  | [] => []
  | (b0, b) :: r => match ent up0 b0 with
    | some (.one k) => (b, .one ⟨k.own, k.ex, normBody (renBody th 0 k.body)⟩) :: outM th up0 r
    | some (.many f) => (b, .many fun i => match f i with | some k => some ⟨k.own, k.ex, normBody (renBody th 0 k.body)⟩ | none => none) :: outM th up0 r
    | _ => outM th up0 r
theorem viewOut_gen {T : Th} {up0 : Mem} : ∀ (r : Th), (∀ x ∈ r, x ∈ T) → viewOut T up0 (outM T up0 r)
  | [], _, b', i, k', h => by simp [outM, look, ent] at h
  | (b0, b) :: r, hs, b', i, k', h => by
    simp only [outM] at h
    split at h
    · rename_i k hk
      unfold look at h
      simp only [ent] at h
      by_cases hd : b = b'
      · subst hd
        simp only [Nat.beq_refl, cond_true, Ent.at] at h
        cases hi : Nat.beq i 0 with
        | false => rw [hi] at h; simp at h
        | true =>
          rw [hi] at h; simp only [cond_true] at h
          injection h with h; subst h
          refine ⟨b0, k, hs _ (by simp), ?_, rfl, fun h => h, mapB_in (renIn_self T) _⟩
          unfold look; rw [hk]; simp only [Ent.at, hi, cond_true]
      · rw [beqF hd] at h
        exact viewOut_gen r (fun x hx => hs x (List.mem_cons_of_mem _ hx)) b' i k' (by unfold look; exact h)
    · rename_i f hk
      unfold look at h
      simp only [ent] at h
      by_cases hd : b = b'
      · subst hd
        simp only [Nat.beq_refl, cond_true, Ent.at] at h
        cases hf : f i with
        | none => rw [hf] at h; simp at h
        | some k =>
          rw [hf] at h
          injection h with h; subst h
          refine ⟨b0, k, hs _ (by simp), ?_, rfl, fun h => h, mapB_in (renIn_self T) _⟩
          unfold look; rw [hk]; exact hf
      · rw [beqF hd] at h
        exact viewOut_gen r (fun x hx => hs x (List.mem_cons_of_mem _ hx)) b' i k' (by unfold look; exact h)
    · exact viewOut_gen r (fun x hx => hs x (List.mem_cons_of_mem _ hx)) b' i k' h
theorem keysOf_map : ∀ m : Mem, keysOf m = m.map Prod.fst
  | [] => rfl
  | (b, e) :: r => by simp [keysOf, keysOf_map r]
theorem Contract0.gen {f : Nat} {args args0 : List V} {m m0 : Mem} {n0 nid : Nat} {res0 res : V} {kill0 : List Nat} {up0 up : Mem} (hC : Contract0 P f args0 m0 n0 res0 kill0 up0) (t : Th3) (nu : Th) (kill : List Nat)
    (ht : okTh t n0 = true) (hnu : okNu nu n0 nid = true) (hm : roM (pairsIn t) m t = m0) (hnt : noTup args = true) (ha : (args.map fun v => normV (renV (pairsIn t) 0 v)) = args0) (hn0 : Nat.blt 0 n0 = true)
    (hf : flatTup1 res0 = true) (hres : renV (pairsOut t ++ nu) 0 res0 = res) (hup : outM (pairsOut t ++ nu) up0 (pairsOut t ++ nu) = up) (hk : killOk t (kill0 ++ keysOf up0) (kill ++ keysOf up) = true) : Contract P f args m nid res kill up := by
  subst hm; subst ha; subst hres; subst hup
  rw [keysOf_map, keysOf_map] at hk
  exact Contract0.call hC t nu ht hnu (viewM_ro t fun _ h => h) (mapVs_ren hnt) (Nat.le_of_ble_eq_true hn0) (mapV_in (renIn_self _) res0 hf) (viewOut_gen _ fun _ h => h) hk
end Go.Proofs.Ytohleiikedpmkaa.Vm
namespace Go.Proofs.Ytohleiikedpmkaa.Vm
open Go
variable {P : Program}
end Go.Proofs.Ytohleiikedpmkaa.Vm

namespace Go.Proofs.Ytohleiikedpmkaa.Vm
open Go
section
variable {H : Type} {enc : TypeId × Value → H} {P : Program} {t e : TypeId} {n : Nat} {q : IntKind} {W : World} {base : Nat} {sp : Nat → Bool} {held : Bool}
end
theorem PureF.law {P : Program} {f : Nat} {args : List V} {b : Bool} {vals : List Value} (h : PureF P f args (.c (.bool b))) (W : World) (hv : ∀ φ, All2 (RV φ) args vals) :
    Calls P f vals.toArray W fun e W' => e = .returned (.bool b) ∧ RowKit.Below W.heap.size W W' := by
  let φ : Phi := fun b i => if b = 0 then some ⟨i, 0, 0, false⟩ else none
  have hm : RM φ [] W := by
    refine ⟨fun g => ⟨⟨g, 0, 0, false⟩, by simp [φ], rfl, rfl⟩, fun b i k hk => by simp [look, ent] at hk, fun b i k l b' i' k' l' hk => by simp [look, ent] at hk⟩
  have hf : Fresh φ 1 := by
    intro b hb i
    have : ¬ b = 0 := by omega
    simp [φ, this]
  refine (h φ W vals hm hf (hv φ)).mono ?_
  rintro e W' ⟨v, φ', he, hr, S⟩
  have : v = .bool b := hr
  subst this
  refine ⟨he, ⟨S.keeps.os, S.keeps.tape, S.keeps.output, S.keeps.size, fun k hk => S.keeps.block k hk ?_⟩⟩
  rintro ⟨b, i, k, l, hb, hl, _⟩
  simp at hb
end Go.Proofs.Ytohleiikedpmkaa.Vm

namespace Go.Proofs.Ytohleiikedpmkaa.Vm
open Go
theorem addr_add0 (b o j : Nat) : (Addr.mk b o none).add j = ⟨b, o + j, none⟩ := by
  unfold Addr.add
  by_cases h : j = 0
  · subst h; rfl
  · rw [if_neg h]
end Go.Proofs.Ytohleiikedpmkaa.Vm

namespace Go.Proofs.Ytohleiikedpmkaa.W
end Go.Proofs.Ytohleiikedpmkaa.W

namespace Go.Proofs.Ytohleiikedpmkaa.Vm
open Go
theorem bAnd64 {a b : Int} (h1 : 0 ≤ a) (h2 : a < 18446744073709551616) (h3 : 0 ≤ b) (h4 : b < 18446744073709551616) : bAnd .u64 a b = ((a.toNat &&& b.toNat : Nat) : Int) := u64_and a b h1 h2 h3 h4
end Go.Proofs.Ytohleiikedpmkaa.Vm
