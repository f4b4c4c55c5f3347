/- What functions of the program come to: parts of the walk (Ec). -/
import Derived.Test.YtmfnldkiaodkpaaDoorEb
import Derived.KernelRfl
import Derived.Test.YtmfnldkiaodkpaaDoorProg
import Derived.Test.YtmfnldkiaodkpaaDoorGd
set_option linter.unusedSimpArgs false
set_option linter.unusedVariables false
namespace Go.Proofs.YtmfnldkiaodkpaaDoor.Vm
open Go Go.Proofs Go.Proofs.YtmfnldkiaodkpaaDoor
set_option maxRecDepth 100000
theorem rapply_ok (k nn l : List Int) (c : Int) (o n : Nat) (G : Nat → List Int)
    (hk : k.length = 32)
    (hnn : nn.length = 12)
    (hkb : W.bytes k)
    (hnb : W.bytes nn)
    (hG : G 2 = W.rows)
    (hl : o + n ≤ l.length)
    (hn : n ≤ 1073741824)
    (hc : 0 ≤ c ∧ c < 4294967296) :
    Contract0 Tryd.prog 74 [(.aggi .u8 k), (.c (.int .u32 c)), (.aggi .u8 nn), (.c (.sl 1 0 o n 1))] [(0, (.many (fun j_ => some ⟨false, false, (.ints (W.gk j_) (G j_))⟩))), (1, (.one ⟨false, false, (.ints .u8 l)⟩))] 3 (.c (.sl 3 0 0 n 1)) [] [(3, (.one ⟨true, false, (.ints .u8 (W.apply k c nn (List.take n (List.drop o l))))⟩))] :=
  Contract0.renumG (Contract0.unkill pr_glob (Contract0.of_frun (res := (.c (.sl 67 0 0 n 1))) (up := [(67, (.one ⟨true, false, (.ints .u8 (W.apply k c nn (List.take n (List.drop o l))))⟩))]) (kill := [0]) (n0 := 3) (m := [(0, (.many (fun j_ => some ⟨false, false, (.ints (W.gk j_) (G j_))⟩))), (1, (.one ⟨false, false, (.ints .u8 l)⟩))]) (args := [(.aggi .u8 k), (.c (.int .u32 c)), (.aggi .u8 nn), (.c (.sl 1 0 o n 1))]) (fn := Tryd.f74) (c := bodyOf Tryd.f74) (fuel := 300) (k := kOf Tryd.prog Tryd.f74) (outs := [67]) (hs := [(4, ⟨.sum ⟨[4, 6, 8, 1, 3, 9], [0, 1, 3, 19], [], 67⟩ (.exit 0) (EAI k nn l n G ((c + (↑((n + 63) / 64) : Int)) % 4294967296) (o + n) 0 n (W.apply k c nn (List.take n (List.drop o l)))), none⟩)])
    (cs := [CodeOk Tryd.prog 35 67 (kAt (kOf Tryd.prog Tryd.f74) [true, true, false, false]) (EA0 k nn l c o n G) (.exit 0) (EAI k nn l n G ((c + (↑((n + 63) / 64) : Int)) % 4294967296) (o + n) 0 n (W.apply k c nn (List.take n (List.drop o l))))])
    mixed Tryd.func74 (by kernel_rfl) (by kernel_rfl) (by kernel_rfl) (by kernel_rfl) (by kernel_rfl) ⟨(rapp_loop k nn l c o n G (by omega) (by omega) (by omega) (by omega) (by omega) (by omega) (by omega) (by omega)), trivial⟩)) pr_glob [.b 1 1 true] [] [(67, 3)] [] rfl (by kernel_rfl) (by kernel_rfl) (by kernel_rfl) (by kernel_rfl) (by kernel_rfl)


def EFI (l : List Int) (n0 : Nat) (l1 : List Int) : S0 :=
  ⟨[(2, (.c .nils)), (3, (.c (.sl 82 0 0 n0 1)))], [(1, (.one ⟨false, false, (.ints .u8 l)⟩)), (82, (.one ⟨true, false, (.ints .u8 l1)⟩))], 98⟩
theorem EF_by {α : Type} (I : α → S0) (Inv : α → Prop) (μ : α → Nat) {ex : Ex} {s' : S0} (hex : ex ≠ .normal)
    (step : ∀ x, Inv x → (∃ y, Inv y ∧ μ y < μ x ∧ CodeOk Tryd.prog 15 82 (kAt (kOf Tryd.prog Tryd.f105) [true, true, false, false, false]) (I x) .normal (I y)) ∨ CodeOk Tryd.prog 15 82 (kAt (kOf Tryd.prog Tryd.f105) [true, true, false, false, false]) (I x) ex s') (x : α) (hx : Inv x) :
    CodeOk Tryd.prog 15 82 (kAt (kOf Tryd.prog Tryd.f105) [true, true, false, false]) (I x) ex s' := by
  have hk : (kAt (kOf Tryd.prog Tryd.f105) [true, true, false, false]) = .loop (kAt (kOf Tryd.prog Tryd.f105) [true, true, false, false, false]) := by kernel_rfl
  rw [hk]
  exact CodeOk.loop I Inv μ hex step x hx
def EF0 (l : List Int) (o n : Nat) : S0 :=
  ⟨[(2, (.c .nils)), (3, (.c (.sl 50 0 0 n 1)))], [(1, (.one ⟨false, false, (.ints .u8 l)⟩)), (50, (.one ⟨true, false, (.ints .u8 (List.take n (List.drop o l)))⟩))], 82⟩
theorem EF_enter (l : List Int) (o n : Nat) {ex : Ex} {s' : S0} (h : CodeOk Tryd.prog 15 82 (kAt (kOf Tryd.prog Tryd.f105) [true, true, false, false]) (EFI l n (List.take n (List.drop o l))) ex s') :
    CodeOk Tryd.prog 15 82 (kAt (kOf Tryd.prog Tryd.f105) [true, true, false, false]) (EF0 l o n) ex s' :=
  CodeOk.pre (v := ⟨[2, 3], [1, 50], [(50, 82)], 98⟩) (by kernel_rfl) (by kernel_rfl) h
theorem EF_rt (l : List Int) (o n n0 : Nat) (l1 : List Int)
    (hl : o + n ≤ l.length)
    (hn : n ≤ 1073741824)
    (h2 : ((↑(n0 % (16 : Nat)) : Int) > (0 : Int)))
    (c3 : ((1 : Nat) ≤ (1 : Nat) ∧ (2 : Nat) * (n0 + (1 : Nat)) ≤ (4398046511104 : Nat) ∧ (0 : Nat) + n0 * (1 : Nat) ≤ List.length l1)) :
    CodeOk Tryd.prog 15 82 (kAt (kOf Tryd.prog Tryd.f105) [true, true, false, false, false]) (EFI l n0 l1) .normal (EFI l (n0 + 1) (List.take n0 l1 ++ [0])) :=
  CodeOk.of_runs (fuel := 300) (v := ⟨[2, 3], [1, 194], [(194, 82)], 98⟩) (hs := [(3, ⟨.auto, some (.c (.bool (true)))⟩), (7, ⟨.ask, some (.c (.sl 194 0 0 (n0 + 1) 1))⟩)])
    (cs := [((.c (.sl 194 0 0 (addO n0 1) 1)) : V) = (.c (.sl 194 0 0 (n0 + 1) 1)),
      ((1 : Nat) ≤ (1 : Nat) ∧ (2 : Nat) * (n0 + (1 : Nat)) ≤ (4398046511104 : Nat) ∧ (0 : Nat) + n0 * (1 : Nat) ≤ List.length l1),
      EB (decide ((↑(n0 % 16) : Int) > 0)) true])
    mixed (by kernel_rfl) ⟨EV.sl (by rfl) (by simp only [addO_eq, mulE_eq, mulE_one, Int.toNat_natCast, IntKind.wrap_i64, mmin, mmax]), c3, .mk (decide_eq_true h2), trivial⟩
theorem EF_xf (l : List Int) (o n n0 : Nat) (l1 : List Int)
    (hl : o + n ≤ l.length)
    (hn : n ≤ 1073741824)
    (h2 : (¬(↑(n0 % (16 : Nat)) : Int) > (0 : Int))) :
    CodeOk Tryd.prog 15 82 (kAt (kOf Tryd.prog Tryd.f105) [true, true, false, false, false]) (EFI l n0 l1) (.exit 0) (EFI l n0 l1) :=
  CodeOk.of_runs (fuel := 300) (v := ⟨[2, 3], [1, 82], [(82, 82)], 98⟩) (hs := [(3, ⟨.auto, some (.c (.bool (false)))⟩)])
    (cs := [EB (decide ((↑(n0 % 16) : Int) > 0)) false])
    mixed (by kernel_rfl) ⟨.mk (decide_eq_false h2), trivial⟩

def ETI (k nn la lt : List Int) (oa na ot nt : Nat) (G : Nat → List Int) (i : Nat) (l1 : List Int) : S0 :=
  ⟨[(2, (.c (.sl 1 0 oa na 1))), (3, (.c (.sl 2 0 ot nt 1))), (8, (.c .nils)), (9, (.c (.ptr 100 0 0))), (10, (.c (.ptr 132 0 0))), (11, (.c (.int .i64 ((↑i : Int)))))], [(0, (.many (fun j_ => some ⟨false, false, (.ints (W.gk j_) (G j_))⟩))), (1, (.one ⟨false, false, (.ints .u8 la)⟩)), (2, (.one ⟨false, false, (.ints .u8 lt)⟩)), (100, (.one ⟨true, true, (.ints .u8 (W.block k 0 nn))⟩)), (132, (.one ⟨true, true, (.ints .u8 l1)⟩))], 164⟩
theorem ET_by {α : Type} (I : α → S0) (Inv : α → Prop) (μ : α → Nat) {ex : Ex} {s' : S0} (hex : ex ≠ .normal)
    (step : ∀ x, Inv x → (∃ y, Inv y ∧ μ y < μ x ∧ CodeOk Tryd.prog 46 164 (kAt (kOf Tryd.prog Tryd.f75) [true, true, true, false, true, false, false]) (I x) .normal (I y)) ∨ CodeOk Tryd.prog 46 164 (kAt (kOf Tryd.prog Tryd.f75) [true, true, true, false, true, false, false]) (I x) ex s') (x : α) (hx : Inv x) :
    CodeOk Tryd.prog 46 164 (kAt (kOf Tryd.prog Tryd.f75) [true, true, true, false, true, false]) (I x) ex s' := by
  have hk : (kAt (kOf Tryd.prog Tryd.f75) [true, true, true, false, true, false]) = .loop (kAt (kOf Tryd.prog Tryd.f75) [true, true, true, false, true, false, false]) := by kernel_rfl
  rw [hk]
  exact CodeOk.loop I Inv μ hex step x hx
def ET0 (k nn la lt : List Int) (oa na ot nt : Nat) (G : Nat → List Int) : S0 :=
  ⟨[(2, (.c (.sl 1 0 oa na 1))), (3, (.c (.sl 2 0 ot nt 1))), (8, (.c .nils)), (9, (.c (.ptr 100 0 0))), (10, (.c (.ptr 132 0 0))), (11, (.c (.int .i64 0)))], [(0, (.many (fun j_ => some ⟨false, false, (.ints (W.gk j_) (G j_))⟩))), (1, (.one ⟨false, false, (.ints .u8 la)⟩)), (2, (.one ⟨false, false, (.ints .u8 lt)⟩)), (100, (.one ⟨true, true, (.ints .u8 (W.block k 0 nn))⟩)), (132, (.one ⟨true, true, (.ints .u8 [0, 0, 0, 0, 0, 0, 0, 0, 0, 0, 0, 0, 0, 0, 0, 0, 0, 0, 0, 0, 0, 0, 0, 0, 0, 0, 0, 0, 0, 0, 0, 0])⟩))], 164⟩
theorem ET_rt (k nn la lt : List Int) (oa na ot nt : Nat) (G : Nat → List Int) (i : Nat) (l1 : List Int)
    (hk : k.length = 32)
    (hnn : nn.length = 12)
    (hkb : W.bytes k)
    (hnb : W.bytes nn)
    (hG : G 2 = W.rows)
    (hla : oa + na ≤ la.length)
    (hlt : ot + nt ≤ lt.length)
    (hs : na + nt ≤ 2000000)
    (hba : W.bytes la)
    (hbt : W.bytes lt)
    (hi : i ≤ 32)
    (hl : l1.length = 32)
    (h2 : ((↑i : Int) < (32 : Int))) :
    CodeOk Tryd.prog 46 164 (kAt (kOf Tryd.prog Tryd.f75) [true, true, true, false, true, false, false]) (ETI k nn la lt oa na ot nt G i l1) .normal (ETI k nn la lt oa na ot nt G (i + 1) (splice l1 i [List.getD (W.block k 0 nn) i 0])) :=
  CodeOk.of_runs (fuel := 300) (v := ⟨[2, 3, 8, 9, 10, 11], [0, 1, 2, 100, 132], [], 164⟩) (hs := [(1, ⟨.auto, some (.c (.bool (true)))⟩), (5, ⟨.ask, none⟩), (6, ⟨.ask, none⟩), (7, ⟨.ask, none⟩), (8, ⟨.ask, none⟩), (10, ⟨.auto, some (.c (.int .i64 (↑(i + 1))))⟩)])
    (cs := [EI .i64 (IntKind.wrap IntKind.i64 ((↑i : Int) + 1)) ((↑(i + 1) : Int)),
      (i + (1 : Nat) ≤ List.length l1 ∧ (1 : Nat) = (1 : Nat)),
      ((0 : Int) ≤ (↑i : Int) ∧ (↑i : Int) < (32 : Int)),
      (i + (1 : Nat) ≤ (64 : Nat)),
      ((0 : Int) ≤ (↑i : Int) ∧ (↑i : Int) < (64 : Int)),
      EB (decide ((↑i : Int) < 32)) true])
    mixed (by kernel_rfl) ⟨.mk (by simp only [addO_eq, mulE_eq, mulE_one, Int.toNat_natCast, IntKind.wrap_i64, mmin, mmax]; omega), (by omega), (by omega), (by omega), (by omega), .mk (decide_eq_true h2), trivial⟩
theorem ET_xf (k nn la lt : List Int) (oa na ot nt : Nat) (G : Nat → List Int) (i : Nat) (l1 : List Int)
    (hk : k.length = 32)
    (hnn : nn.length = 12)
    (hkb : W.bytes k)
    (hnb : W.bytes nn)
    (hG : G 2 = W.rows)
    (hla : oa + na ≤ la.length)
    (hlt : ot + nt ≤ lt.length)
    (hs : na + nt ≤ 2000000)
    (hba : W.bytes la)
    (hbt : W.bytes lt)
    (hi : i ≤ 32)
    (hl : l1.length = 32)
    (h2 : (¬(↑i : Int) < (32 : Int))) :
    CodeOk Tryd.prog 46 164 (kAt (kOf Tryd.prog Tryd.f75) [true, true, true, false, true, false, false]) (ETI k nn la lt oa na ot nt G i l1) (.exit 0) (ETI k nn la lt oa na ot nt G i l1) :=
  CodeOk.of_runs (fuel := 300) (v := ⟨[2, 3, 8, 9, 10, 11], [0, 1, 2, 100, 132], [], 164⟩) (hs := [(1, ⟨.auto, some (.c (.bool (false)))⟩)])
    (cs := [EB (decide ((↑i : Int) < 32)) false])
    mixed (by kernel_rfl) ⟨.mk (decide_eq_false h2), trivial⟩

end Go.Proofs.YtmfnldkiaodkpaaDoor.Vm

namespace Go.Proofs.YtmfnldkiaodkpaaDoor.W
theorem zs_len {n : Nat} : (zs n).length = (16 - n % 16) % 16 := by unfold zs; exact List.length_replicate
theorem zs_bytes {n : Nat} : bytes (zs n) := by unfold zs; exact bytes_zero
end Go.Proofs.YtmfnldkiaodkpaaDoor.W
namespace Go.Proofs.YtmfnldkiaodkpaaDoor.Vm
open Go Go.Proofs Go.Proofs.YtmfnldkiaodkpaaDoor
theorem rfill_loop (l : List Int) (o n : Nat) (hl : o + n ≤ l.length) (hn : n ≤ 1073741824) :
    CodeOk Tryd.prog 15 82 (kAt (kOf Tryd.prog Tryd.f105) [true, true, false, false]) (EF0 l o n) (.exit 0) (EFI l (n + (16 - n % 16) % 16) (List.take n (List.drop o l) ++ W.zs n)) := by
  refine EF_enter l o n ?_
  have hX : (List.take n (List.drop o l)).length = n := seg_len hl
  unfold W.zs
  generalize List.take n (List.drop o l) = X at *
  generalize hz : (16 - n % 16) % 16 = z
  have h0 : EFI l n X = EFI l (n + 0) (X ++ List.replicate 0 0) := by rw [List.replicate_zero, List.append_nil]; rfl
  rw [h0]
  refine EF_by (ex := .exit 0) (fun j : Nat => EFI l (n + j) (X ++ List.replicate j 0)) (fun j => j ≤ z) (fun j => z - j) (by simp) ?_ 0 (by omega)
  intro j hj
  have hll : (X ++ List.replicate j 0).length = n + j := by rw [List.length_append, List.length_replicate, hX]
  by_cases h : j < z
  · refine .inl ⟨j + 1, h, by omega, ?_⟩
    have run := EF_rt l o n (n + j) (X ++ List.replicate j 0) hl hn (by omega) (by omega)
    have e : List.take (n + j) (X ++ List.replicate j 0) ++ [0] = X ++ List.replicate (j + 1) 0 := by
      rw [List.take_of_length_le (by omega), List.append_assoc, List.replicate_succ']
    rw [e] at run
    exact run
  · have e : j = z := by omega
    subst e
    exact .inr (EF_xf l o n (n + j) (X ++ List.replicate j 0) hl hn (by omega))
theorem rtagof_loop (k nn la lt : List Int) (oa na ot nt : Nat) (G : Nat → List Int) (hk : k.length = 32) (hnn : nn.length = 12) (hkb : W.bytes k) (hnb : W.bytes nn) (hG : G 2 = W.rows) (hla : oa + na ≤ la.length) (hlt : ot + nt ≤ lt.length) (hs : na + nt ≤ 2000000) (hba : W.bytes la) (hbt : W.bytes lt) :
    CodeOk Tryd.prog 46 164 (kAt (kOf Tryd.prog Tryd.f75) [true, true, true, false, true, false]) (ET0 k nn la lt oa na ot nt G) (.exit 0) (ETI k nn la lt oa na ot nt G 32 (W.once k nn)) := by
  have hX : (W.once k nn).length = 32 := rfl
  have key : ∀ i, i < 32 → List.getD (W.block k 0 nn) i 0 = (W.once k nn).getD i 0 := by
    intro i hi; unfold W.once; rw [take_getD hi]
  generalize W.once k nn = X at *
  have h0 : ET0 k nn la lt oa na ot nt G = ETI k nn la lt oa na ot nt G 0 (X.take 0 ++ List.replicate (32 - 0) 0) := rfl
  rw [h0]
  refine ET_by (ex := .exit 0) (fun i : Nat => ETI k nn la lt oa na ot nt G i (X.take i ++ List.replicate (32 - i) 0)) (fun i => i ≤ 32) (fun i => 32 - i) (by simp) ?_ 0 (by omega)
  intro i hi
  have hl : (X.take i ++ List.replicate (32 - i) 0).length = 32 := by rw [List.length_append, List.length_take, List.length_replicate]; omega
  by_cases h : i < 32
  · refine .inl ⟨i + 1, h, by omega, ?_⟩
    have run := ET_rt k nn la lt oa na ot nt G i _ hk hnn hkb hnb hG hla hlt hs hba hbt hi hl (by omega)
    rw [fill_step hX h (key i h)] at run
    exact run
  · have e : i = 32 := by omega
    subst e
    have run := ET_xf k nn la lt oa na ot nt G 32 _ hk hnn hkb hnb hG hla hlt hs hba hbt hi hl (by omega)
    have f : X.take 32 ++ List.replicate (32 - 32) 0 = X := by rw [List.take_of_length_le (by omega)]; exact List.append_nil _
    rw [f] at run
    refine .inr ?_
    show CodeOk _ _ _ _ (ETI k nn la lt oa na ot nt G 32 (X.take 32 ++ List.replicate (32 - 32) 0)) _ _
    rw [f]
    exact run
end Go.Proofs.YtmfnldkiaodkpaaDoor.Vm

namespace Go.Proofs.YtmfnldkiaodkpaaDoor.Vm
open Go Go.Proofs Go.Proofs.YtmfnldkiaodkpaaDoor
set_option maxRecDepth 100000
theorem rfill_ok (l : List Int) (o n : Nat)
    (hl : o + n ≤ l.length)
    (hn : n ≤ 1073741824) :
    Contract0 Tryd.prog 105 [(.c (.sl 1 0 o n 1))] [(1, (.one ⟨false, false, (.ints .u8 l)⟩))] 2 (.c (.sl 2 0 0 (n + (16 - n % 16) % 16) 1)) [] [(2, (.one ⟨true, false, (.ints .u8 (List.take n (List.drop o l) ++ W.zs n))⟩))] :=
  Contract0.renum (Contract0.of_frun (res := (.c (.sl 82 0 0 (n + (16 - n % 16) % 16) 1))) (up := [(82, (.one ⟨true, false, (.ints .u8 (List.take n (List.drop o l) ++ W.zs n))⟩))]) (kill := []) (n0 := 2) (m := [(1, (.one ⟨false, false, (.ints .u8 l)⟩))]) (args := [(.c (.sl 1 0 o n 1))]) (fn := Tryd.f105) (c := bodyOf Tryd.f105) (fuel := 300) (k := kOf Tryd.prog Tryd.f105) (outs := [82]) (hs := [(3, ⟨.ask, none⟩), (5, ⟨.sum ⟨[2, 3], [1, 50], [], 82⟩ (.exit 0) (EFI l (n + (16 - n % 16) % 16) (List.take n (List.drop o l) ++ W.zs n)), none⟩)])
    (cs := [CodeOk Tryd.prog 15 82 (kAt (kOf Tryd.prog Tryd.f105) [true, true, false, false]) (EF0 l o n) (.exit 0) (EFI l (n + (16 - n % 16) % 16) (List.take n (List.drop o l) ++ W.zs n)),
      (o + n * (1 : Nat) ≤ List.length l ∧ (2 : Nat) * ((0 : Nat) + n) ≤ (4398046511104 : Nat) ∧ (0 : Nat) ≤ (0 : Nat))])
    mixed Tryd.func105 (by kernel_rfl) (by kernel_rfl) (by kernel_rfl) (by kernel_rfl) (by kernel_rfl) ⟨(rfill_loop l o n (by omega) (by omega)), (by omega), trivial⟩) [.b 1 1 true] [] [(82, 2)] [] (by kernel_rfl) (by kernel_rfl) (by kernel_rfl) (by kernel_rfl) (by kernel_rfl)


theorem rtagof (k nn la lt : List Int) (oa na ot nt : Nat) (G : Nat → List Int)
    (hk : k.length = 32)
    (hnn : nn.length = 12)
    (hkb : W.bytes k)
    (hnb : W.bytes nn)
    (hG : G 2 = W.rows)
    (hla : oa + na ≤ la.length)
    (hlt : ot + nt ≤ lt.length)
    (hs : na + nt ≤ 2000000)
    (hba : W.bytes la)
    (hbt : W.bytes lt) :
    Contract0 Tryd.prog 75 [(.aggi .u8 k), (.aggi .u8 nn), (.c (.sl 1 0 oa na 1)), (.c (.sl 2 0 ot nt 1))] [(0, (.many (fun j_ => some ⟨false, false, (.ints (W.gk j_) (G j_))⟩))), (1, (.one ⟨false, false, (.ints .u8 la)⟩)), (2, (.one ⟨false, false, (.ints .u8 lt)⟩))] 4 (.c (.sl 4 0 0 16 1)) [] [(4, (.one ⟨true, true, (.ints .u8 (W.tag (W.once k nn) (List.take (na + (16 - na % 16) % 16 + nt + (16 - nt % 16) % 16 + 16) (List.take (na + (16 - na % 16) % 16 + (nt + (16 - nt % 16) % 16) + 8) (List.take (na + (16 - na % 16) % 16 + (nt + (16 - nt % 16) % 16)) (List.take (na + (16 - na % 16) % 16) (List.take na (List.drop oa la) ++ W.zs na) ++ List.take (nt + (16 - nt % 16) % 16) (List.take nt (List.drop ot lt) ++ W.zs nt)) ++ List.take 8 (W.p8 (↑na : Int))) ++ List.take 8 (W.p8 (↑nt : Int))))))⟩))] :=
  Contract0.renumG (Contract0.unkill pr_glob (Contract0.of_frun (res := (.c (.sl 500 0 0 16 1))) (up := [(500, (.one ⟨true, true, (.ints .u8 (W.tag (W.once k nn) (List.take (na + (16 - na % 16) % 16 + nt + (16 - nt % 16) % 16 + 16) (List.take (na + (16 - na % 16) % 16 + (nt + (16 - nt % 16) % 16) + 8) (List.take (na + (16 - na % 16) % 16 + (nt + (16 - nt % 16) % 16)) (List.take (na + (16 - na % 16) % 16) (List.take na (List.drop oa la) ++ W.zs na) ++ List.take (nt + (16 - nt % 16) % 16) (List.take nt (List.drop ot lt) ++ W.zs nt)) ++ List.take 8 (W.p8 (↑na : Int))) ++ List.take 8 (W.p8 (↑nt : Int))))))⟩))]) (kill := [0]) (n0 := 4) (m := [(0, (.many (fun j_ => some ⟨false, false, (.ints (W.gk j_) (G j_))⟩))), (1, (.one ⟨false, false, (.ints .u8 la)⟩)), (2, (.one ⟨false, false, (.ints .u8 lt)⟩))]) (args := [(.aggi .u8 k), (.aggi .u8 nn), (.c (.sl 1 0 oa na 1)), (.c (.sl 2 0 ot nt 1))]) (fn := Tryd.f75) (c := bodyOf Tryd.f75) (fuel := 300) (k := kOf Tryd.prog Tryd.f75) (outs := [500]) (hs := [(3, ⟨.ask, some (.aggi .u8 k)⟩), (4, ⟨.ask, some (.aggi .u8 nn)⟩), (5, ⟨.call [0] (.aggi .u8 (W.block k 0 nn)) [] [], none⟩), (10, ⟨.sum ⟨[2, 3, 8, 9, 10, 11], [0, 1, 2, 100, 132], [], 164⟩ (.exit 0) (ETI k nn la lt oa na ot nt G 32 (W.once k nn)), none⟩), (12, ⟨.call [1] (.c (.sl 180 0 0 (na + (16 - na % 16) % 16) 1)) [] [(180, (.one ⟨true, false, (.ints .u8 (List.take na (List.drop oa la) ++ W.zs na))⟩))], none⟩), (14, ⟨.call [2] (.c (.sl 212 0 0 (nt + (16 - nt % 16) % 16) 1)) [] [(212, (.one ⟨true, false, (.ints .u8 (List.take nt (List.drop ot lt) ++ W.zs nt))⟩))], none⟩), (15, ⟨.ask, some (.c (.sl 228 0 0 (na + (16 - na % 16) % 16 + (nt + (16 - nt % 16) % 16)) 1))⟩), (20, ⟨.auto, some (.c (.int .u64 (↑na)))⟩), (21, ⟨.call [] (.c (.sl 324 0 0 8 1)) [] [(324, (.one ⟨true, false, (.ints .u8 (W.p8 (↑na : Int)))⟩))], none⟩), (22, ⟨.ask, some (.c (.sl 340 0 0 (na + (16 - na % 16) % 16 + (nt + (16 - nt % 16) % 16) + 8) 1))⟩), (25, ⟨.auto, some (.c (.int .u64 (↑nt)))⟩), (26, ⟨.call [] (.c (.sl 404 0 0 8 1)) [] [(404, (.one ⟨true, false, (.ints .u8 (W.p8 (↑nt : Int)))⟩))], none⟩), (27, ⟨.ask, some (.c (.sl 420 0 0 (na + (16 - na % 16) % 16 + nt + (16 - nt % 16) % 16 + 16) 1))⟩), (31, ⟨.call [420] (.aggi .u8 (W.tag (W.once k nn) (List.take (na + (16 - na % 16) % 16 + nt + (16 - nt % 16) % 16 + 16) (List.take (na + (16 - na % 16) % 16 + (nt + (16 - nt % 16) % 16) + 8) (List.take (na + (16 - na % 16) % 16 + (nt + (16 - nt % 16) % 16)) (List.take (na + (16 - na % 16) % 16) (List.take na (List.drop oa la) ++ W.zs na) ++ List.take (nt + (16 - nt % 16) % 16) (List.take nt (List.drop ot lt) ++ W.zs nt)) ++ List.take 8 (W.p8 (↑na : Int))) ++ List.take 8 (W.p8 (↑nt : Int)))))) [] [], none⟩)])
    (cs := [Contract Tryd.prog 106 [(.aggi .u8 (W.once k nn)), (.c (.sl 420 0 0 (na + (16 - na % 16) % 16 + nt + (16 - nt % 16) % 16 + 16) 1))] [(420, (.one ⟨true, false, (.ints .u8 (List.take (na + (16 - na % 16) % 16 + (nt + (16 - nt % 16) % 16) + 8) (List.take (na + (16 - na % 16) % 16 + (nt + (16 - nt % 16) % 16)) (List.take (na + (16 - na % 16) % 16) (List.take na (List.drop oa la) ++ W.zs na) ++ List.take (nt + (16 - nt % 16) % 16) (List.take nt (List.drop ot lt) ++ W.zs nt)) ++ List.take 8 (W.p8 (↑na : Int))) ++ List.take 8 (W.p8 (↑nt : Int))))⟩))] 484 (.aggi .u8 (W.tag (W.once k nn) (List.take (na + (16 - na % 16) % 16 + nt + (16 - nt % 16) % 16 + 16) (List.take (na + (16 - na % 16) % 16 + (nt + (16 - nt % 16) % 16) + 8) (List.take (na + (16 - na % 16) % 16 + (nt + (16 - nt % 16) % 16)) (List.take (na + (16 - na % 16) % 16) (List.take na (List.drop oa la) ++ W.zs na) ++ List.take (nt + (16 - nt % 16) % 16) (List.take nt (List.drop ot lt) ++ W.zs nt)) ++ List.take 8 (W.p8 (↑na : Int))) ++ List.take 8 (W.p8 (↑nt : Int)))))) [] [],
      ((.c (.sl 420 0 0 (addO (na + (16 - na % 16) % 16 + (nt + (16 - nt % 16) % 16) + 8) 8) 1)) : V) = (.c (.sl 420 0 0 (na + (16 - na % 16) % 16 + nt + (16 - nt % 16) % 16 + 16) 1)),
      ((8 : Nat) ≤ (8 : Nat) ∧ (2 : Nat) * (na + ((16 : Nat) - na % (16 : Nat)) % (16 : Nat) + (nt + ((16 : Nat) - nt % (16 : Nat)) % (16 : Nat)) + (8 : Nat) + (8 : Nat)) ≤ (4398046511104 : Nat) ∧ (0 : Nat) + (na + ((16 : Nat) - na % (16 : Nat)) % (16 : Nat) + (nt + ((16 : Nat) - nt % (16 : Nat)) % (16 : Nat)) + (8 : Nat)) * (1 : Nat) ≤ List.length (List.take (na + ((16 : Nat) - na % (16 : Nat)) % (16 : Nat) + (nt + ((16 : Nat) - nt % (16 : Nat)) % (16 : Nat))) (List.take (na + ((16 : Nat) - na % (16 : Nat)) % (16 : Nat)) (List.take na (List.drop oa la) ++ W.zs na) ++ List.take (nt + ((16 : Nat) - nt % (16 : Nat)) % (16 : Nat)) (List.take nt (List.drop ot lt) ++ W.zs nt)) ++ List.take (8 : Nat) (W.p8 (↑na : Int)))),
      Contract Tryd.prog 77 [(.c (.int .u64 (↑nt)))] [] 404 (.c (.sl 404 0 0 8 1)) [] [(404, (.one ⟨true, false, (.ints .u8 (W.p8 (↑nt : Int)))⟩))],
      EI .u64 ((↑nt : Int) % 18446744073709551616) ((↑nt : Int)),
      ((.c (.sl 340 0 0 (addO (na + (16 - na % 16) % 16 + (nt + (16 - nt % 16) % 16)) 8) 1)) : V) = (.c (.sl 340 0 0 (na + (16 - na % 16) % 16 + (nt + (16 - nt % 16) % 16) + 8) 1)),
      ((8 : Nat) ≤ (8 : Nat) ∧ (2 : Nat) * (na + ((16 : Nat) - na % (16 : Nat)) % (16 : Nat) + (nt + ((16 : Nat) - nt % (16 : Nat)) % (16 : Nat)) + (8 : Nat)) ≤ (4398046511104 : Nat) ∧ (0 : Nat) + (na + ((16 : Nat) - na % (16 : Nat)) % (16 : Nat) + (nt + ((16 : Nat) - nt % (16 : Nat)) % (16 : Nat))) * (1 : Nat) ≤ List.length (List.take (na + ((16 : Nat) - na % (16 : Nat)) % (16 : Nat)) (List.take na (List.drop oa la) ++ W.zs na) ++ List.take (nt + ((16 : Nat) - nt % (16 : Nat)) % (16 : Nat)) (List.take nt (List.drop ot lt) ++ W.zs nt))),
      Contract Tryd.prog 77 [(.c (.int .u64 (↑na)))] [] 324 (.c (.sl 324 0 0 8 1)) [] [(324, (.one ⟨true, false, (.ints .u8 (W.p8 (↑na : Int)))⟩))],
      EI .u64 ((↑na : Int) % 18446744073709551616) ((↑na : Int)),
      ((.c (.sl 228 0 0 (addO (na + (16 - na % 16) % 16) (nt + (16 - nt % 16) % 16)) 1)) : V) = (.c (.sl 228 0 0 (na + (16 - na % 16) % 16 + (nt + (16 - nt % 16) % 16)) 1)),
      ((0 : Nat) + (nt + ((16 : Nat) - nt % (16 : Nat)) % (16 : Nat)) * (1 : Nat) ≤ List.length (List.take nt (List.drop ot lt) ++ W.zs nt) ∧ (2 : Nat) * (na + ((16 : Nat) - na % (16 : Nat)) % (16 : Nat) + (nt + ((16 : Nat) - nt % (16 : Nat)) % (16 : Nat))) ≤ (4398046511104 : Nat) ∧ (0 : Nat) + (na + ((16 : Nat) - na % (16 : Nat)) % (16 : Nat)) * (1 : Nat) ≤ List.length (List.take na (List.drop oa la) ++ W.zs na)),
      Contract Tryd.prog 105 [(.c (.sl 2 0 ot nt 1))] [(2, (.one ⟨false, false, (.ints .u8 lt)⟩))] 212 (.c (.sl 212 0 0 (nt + (16 - nt % 16) % 16) 1)) [] [(212, (.one ⟨true, false, (.ints .u8 (List.take nt (List.drop ot lt) ++ W.zs nt))⟩))],
      Contract Tryd.prog 105 [(.c (.sl 1 0 oa na 1))] [(1, (.one ⟨false, false, (.ints .u8 la)⟩))] 180 (.c (.sl 180 0 0 (na + (16 - na % 16) % 16) 1)) [] [(180, (.one ⟨true, false, (.ints .u8 (List.take na (List.drop oa la) ++ W.zs na))⟩))],
      CodeOk Tryd.prog 46 164 (kAt (kOf Tryd.prog Tryd.f75) [true, true, true, false, true, false]) (ET0 k nn la lt oa na ot nt G) (.exit 0) (ETI k nn la lt oa na ot nt G 32 (W.once k nn)),
      Contract Tryd.prog 103 [(.aggi .u8 k), (.c (.int .u32 0)), (.aggi .u8 nn)] [(0, (.many (fun j_ => some ⟨false, false, (.ints (W.gk j_) (G j_))⟩)))] 84 (.aggi .u8 (W.block k 0 nn)) [] [],
      ((.aggi .u8 (List.take 12 nn)) : V) = (.aggi .u8 nn),
      ((12 : Nat) ≤ List.length nn),
      ((.aggi .u8 (List.take 32 k)) : V) = (.aggi .u8 k),
      ((32 : Nat) ≤ List.length k)])
    mixed Tryd.func75 (by kernel_rfl) (by kernel_rfl) (by kernel_rfl) (by kernel_rfl) (by kernel_rfl) ⟨Contract0.inst (rtag_ok (W.once k nn) (List.take (na + (16 - na % 16) % 16 + (nt + (16 - nt % 16) % 16) + 8) (List.take (na + (16 - na % 16) % 16 + (nt + (16 - nt % 16) % 16)) (List.take (na + (16 - na % 16) % 16) (List.take na (List.drop oa la) ++ W.zs na) ++ List.take (nt + (16 - nt % 16) % 16) (List.take nt (List.drop ot lt) ++ W.zs nt)) ++ List.take 8 (W.p8 (↑na : Int))) ++ List.take 8 (W.p8 (↑nt : Int))) 0 (na + (16 - na % 16) % 16 + nt + (16 - nt % 16) % 16 + 16) (by simp only [and_true, List.length_set, List.length_append, List.length_replicate, List.length_take, List.length_drop, List.length_map, List.length_cons, List.length_nil, List.length_zipWith, splice_len1, W.le_len, W.bts_len, Int.toNat_natCast, addO_eq, mulE_eq, mulE_one, W.once_len, W.block_len, W.p8_len, W.apply_len, W.boxTag_len, W.box_len, W.nonce_len, W.zs_len]) (by repeat' with_reducible first | assumption | exact W.p8_bytes | exact W.bytes_zero | exact W.apply_bytes | exact W.once_bytes | exact W.tag_bytes | exact W.boxTag_bytes | exact W.box_bytes | exact W.bytes_nil | exact W.bts_bytes | exact W.le_bytes | exact W.zs_bytes | apply W.bytes_app | apply W.bytes_take | apply W.bytes_drop) (by repeat' with_reducible first | assumption | exact W.p8_bytes | exact W.bytes_zero | exact W.apply_bytes | exact W.once_bytes | exact W.tag_bytes | exact W.boxTag_bytes | exact W.box_bytes | exact W.bytes_nil | exact W.bts_bytes | exact W.le_bytes | exact W.zs_bytes | apply W.bytes_app | apply W.bytes_take | apply W.bytes_drop) (by simp only [and_true, List.length_set, List.length_append, List.length_replicate, List.length_take, List.length_drop, List.length_map, List.length_cons, List.length_nil, List.length_zipWith, splice_len1, W.le_len, W.bts_len, Int.toNat_natCast, addO_eq, mulE_eq, mulE_one, W.once_len, W.block_len, W.p8_len, W.apply_len, W.boxTag_len, W.box_len, W.nonce_len, W.zs_len]; omega) (by omega)) [.b 420 1 true []] [none, none] [] [] (by kernel_rfl) (by kernel_rfl) (by kernel_rfl) (by kernel_rfl) (by kernel_rfl), EV.sl (by rfl) (by simp only [addO_eq, mulE_eq, mulE_one, Int.toNat_natCast, IntKind.wrap_i64, mmin, mmax]; omega), (by simp only [and_true, List.length_set, List.length_append, List.length_replicate, List.length_take, List.length_drop, List.length_map, List.length_cons, List.length_nil, List.length_zipWith, splice_len1, W.le_len, W.bts_len, Int.toNat_natCast, addO_eq, mulE_eq, mulE_one, W.once_len, W.block_len, W.p8_len, W.apply_len, W.boxTag_len, W.box_len, W.nonce_len, W.zs_len]; omega), Contract0.inst (rput64_ok ((↑nt : Int)) (by omega)) [] [none] [(1, 404)] [] (by kernel_rfl) (by kernel_rfl) (by kernel_rfl) (by kernel_rfl) (by kernel_rfl), .mk (by omega), EV.sl (by rfl) (by simp only [addO_eq, mulE_eq, mulE_one, Int.toNat_natCast, IntKind.wrap_i64, mmin, mmax]), (by simp only [and_true, List.length_set, List.length_append, List.length_replicate, List.length_take, List.length_drop, List.length_map, List.length_cons, List.length_nil, List.length_zipWith, splice_len1, W.le_len, W.bts_len, Int.toNat_natCast, addO_eq, mulE_eq, mulE_one, W.once_len, W.block_len, W.p8_len, W.apply_len, W.boxTag_len, W.box_len, W.nonce_len, W.zs_len]; omega), Contract0.inst (rput64_ok ((↑na : Int)) (by omega)) [] [none] [(1, 324)] [] (by kernel_rfl) (by kernel_rfl) (by kernel_rfl) (by kernel_rfl) (by kernel_rfl), .mk (by omega), EV.sl (by rfl) (by simp only [addO_eq, mulE_eq, mulE_one, Int.toNat_natCast, IntKind.wrap_i64, mmin, mmax]), (by simp only [and_true, List.length_set, List.length_append, List.length_replicate, List.length_take, List.length_drop, List.length_map, List.length_cons, List.length_nil, List.length_zipWith, splice_len1, W.le_len, W.bts_len, Int.toNat_natCast, addO_eq, mulE_eq, mulE_one, W.once_len, W.block_len, W.p8_len, W.apply_len, W.boxTag_len, W.box_len, W.nonce_len, W.zs_len]; omega), Contract0.inst (rfill_ok lt ot nt (by omega) (by omega)) [.b 2 1 true []] [none] [(2, 212)] [] (by kernel_rfl) (by kernel_rfl) (by kernel_rfl) (by kernel_rfl) (by kernel_rfl), Contract0.inst (rfill_ok la oa na (by omega) (by omega)) [.b 1 1 true []] [none] [(2, 180)] [] (by kernel_rfl) (by kernel_rfl) (by kernel_rfl) (by kernel_rfl) (by kernel_rfl), (rtagof_loop k nn la lt oa na ot nt G (by omega) (by omega) (by omega) (by omega) (by omega) (by omega) (by omega) (by omega) (by omega) (by omega)), Contract0.glob (rblock_ok k nn 0 G (by omega) (by omega) (by omega) (by omega) (by omega)) pr_glob (by kernel_rfl) (by kernel_rfl) (by kernel_rfl) (by kernel_rfl) 84, EV.aggi (List.take_of_length_le (by omega)), (by omega), EV.aggi (List.take_of_length_le (by omega)), (by omega), trivial⟩)) pr_glob [.b 1 1 true, .b 2 2 true] [] [(500, 4)] [] rfl (by kernel_rfl) (by kernel_rfl) (by kernel_rfl) (by kernel_rfl) (by kernel_rfl)


end Go.Proofs.YtmfnldkiaodkpaaDoor.Vm

namespace Go.Proofs.YtmfnldkiaodkpaaDoor.Vm
open Go Go.Proofs Go.Proofs.YtmfnldkiaodkpaaDoor
theorem rboxed_eq {A T : List Int} {na nt : Nat} (hA : A.length = na) (hT : T.length = nt) :
    (List.take (na + (16 - na % 16) % 16 + nt + (16 - nt % 16) % 16 + 16) (List.take (na + (16 - na % 16) % 16 + (nt + (16 - nt % 16) % 16) + 8) (List.take (na + (16 - na % 16) % 16 + (nt + (16 - nt % 16) % 16)) (List.take (na + (16 - na % 16) % 16) (A ++ W.zs na) ++ List.take (nt + (16 - nt % 16) % 16) (T ++ W.zs nt)) ++ List.take 8 (W.p8 (↑na : Int))) ++ List.take 8 (W.p8 (↑nt : Int)))) = W.boxed A T := by
  have e1 : List.take (na + (16 - na % 16) % 16) (A ++ W.zs na) = A ++ W.zs na := List.take_of_length_le (by rw [List.length_append, hA, W.zs_len]; exact Nat.le_refl _)
  have e2 : List.take (nt + (16 - nt % 16) % 16) (T ++ W.zs nt) = T ++ W.zs nt := List.take_of_length_le (by rw [List.length_append, hT, W.zs_len]; exact Nat.le_refl _)
  have e3 : ∀ v, List.take 8 (W.p8 v) = W.p8 v := fun v => rfl
  have l1 : (A ++ W.zs na ++ (T ++ W.zs nt)).length = na + (16 - na % 16) % 16 + (nt + (16 - nt % 16) % 16) := by
    rw [List.length_append, List.length_append, List.length_append, hA, hT, W.zs_len, W.zs_len]
  rw [e1, e2, e3, e3, List.take_of_length_le (l := A ++ W.zs na ++ (T ++ W.zs nt)) (by omega), List.take_of_length_le (l := A ++ W.zs na ++ (T ++ W.zs nt) ++ W.p8 (na : Int)) (by rw [List.length_append, l1, W.p8_len]; exact Nat.le_refl _),
    List.take_of_length_le (by rw [List.length_append, List.length_append, l1, W.p8_len, W.p8_len]; omega)]
  unfold W.boxed
  rw [hA, hT]
  simp only [List.append_assoc]
theorem rtagof_ok (k nn la lt : List Int) (oa na ot nt : Nat) (G : Nat → List Int) (hk : k.length = 32) (hnn : nn.length = 12) (hkb : W.bytes k) (hnb : W.bytes nn) (hG : G 2 = W.rows) (hla : oa + na ≤ la.length) (hlt : ot + nt ≤ lt.length) (hs : na + nt ≤ 2000000) (hba : W.bytes la) (hbt : W.bytes lt) :
    Contract0 Tryd.prog 75 [(.aggi .u8 k), (.aggi .u8 nn), (.c (.sl 1 0 oa na 1)), (.c (.sl 2 0 ot nt 1))] [(0, (.many (fun j_ => some ⟨false, false, (.ints (W.gk j_) (G j_))⟩))), (1, (.one ⟨false, false, (.ints .u8 la)⟩)), (2, (.one ⟨false, false, (.ints .u8 lt)⟩))] 4 (.c (.sl 4 0 0 16 1)) [] [(4, (.one ⟨true, true, (.ints .u8 (W.boxTag k nn (List.take na (List.drop oa la)) (List.take nt (List.drop ot lt))))⟩))] := by
  have e := rtagof k nn la lt oa na ot nt G hk hnn hkb hnb hG hla hlt hs hba hbt
  rw [rboxed_eq (seg_len hla) (seg_len hlt)] at e
  exact e
end Go.Proofs.YtmfnldkiaodkpaaDoor.Vm
