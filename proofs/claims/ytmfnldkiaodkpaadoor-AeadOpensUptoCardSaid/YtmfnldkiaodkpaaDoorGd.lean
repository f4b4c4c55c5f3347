/- What functions of the program come to: parts of the walk (Gd). -/
import Derived.Test.YtmfnldkiaodkpaaDoorGc
import Derived.KernelRfl
import Derived.Test.YtmfnldkiaodkpaaDoorProg
import Derived.Test.YtmfnldkiaodkpaaDoorOe
set_option linter.unusedSimpArgs false
set_option linter.unusedVariables false
namespace Go.Proofs.YtmfnldkiaodkpaaDoor.Vm
open Go Go.Proofs Go.Proofs.YtmfnldkiaodkpaaDoor
set_option maxRecDepth 100000
noncomputable def LOaI (k l : List Int) (o n i : Nat) (l1 : List Int) : S0 :=
  ⟨[(4, (.c (.ptr 18 0 0))), (8, (.c (.sl 194 0 0 (W.pln (W.tgF k l o n) (List.take 16 (List.drop 16 k))) 1))), (10, (.c (.ptr 226 0 0))), (11, (.c (.int .i64 ((↑i : Int)))))], [(1, (.one ⟨false, false, (.ints .u8 l)⟩)), (18, (.one ⟨true, true, (.ints .u8 [0, 0, 0, 0, 0, 0, 0, 0, 0, 0, 0, 0, 0, 0, 0, 0])⟩)), (194, (.one ⟨true, false, (.ints .u32 (W.pls (W.tgF k l o n) (List.take 16 (List.drop 16 k))))⟩)), (226, (.one ⟨true, true, (.ints .u8 l1)⟩))], 258⟩
theorem LOa_by {α : Type} (I : α → S0) (Inv : α → Prop) (μ : α → Nat) {ex : Ex} {s' : S0} (hex : ex ≠ .normal)
    (step : ∀ x, Inv x → (∃ y, Inv y ∧ μ y < μ x ∧ CodeOk Tryd.prog 81 258 (kAt (kOf Tryd.prog Tryd.f106) [true, true, true, true, true, true, true, true, false, true, false, false]) (I x) .normal (I y)) ∨ CodeOk Tryd.prog 81 258 (kAt (kOf Tryd.prog Tryd.f106) [true, true, true, true, true, true, true, true, false, true, false, false]) (I x) ex s') (x : α) (hx : Inv x) :
    CodeOk Tryd.prog 81 258 (kAt (kOf Tryd.prog Tryd.f106) [true, true, true, true, true, true, true, true, false, true, false]) (I x) ex s' := by
  have hk : (kAt (kOf Tryd.prog Tryd.f106) [true, true, true, true, true, true, true, true, false, true, false]) = .loop (kAt (kOf Tryd.prog Tryd.f106) [true, true, true, true, true, true, true, true, false, true, false, false]) := by kernel_rfl
  rw [hk]
  exact CodeOk.loop I Inv μ hex step x hx
noncomputable def LOa0 (k l : List Int) (o n : Nat) : S0 :=
  ⟨[(4, (.c (.ptr 18 0 0))), (8, (.c (.sl 194 0 0 (W.pln (W.tgF k l o n) (List.take 16 (List.drop 16 k))) 1))), (10, (.c (.ptr 226 0 0))), (11, (.c (.int .i64 0)))], [(1, (.one ⟨false, false, (.ints .u8 l)⟩)), (18, (.one ⟨true, true, (.ints .u8 [0, 0, 0, 0, 0, 0, 0, 0, 0, 0, 0, 0, 0, 0, 0, 0])⟩)), (194, (.one ⟨true, false, (.ints .u32 (W.pls (W.tgF k l o n) (List.take 16 (List.drop 16 k))))⟩)), (226, (.one ⟨true, true, (.ints .u8 [0, 0, 0, 0, 0, 0, 0, 0, 0, 0, 0, 0, 0, 0, 0, 0])⟩))], 258⟩
theorem LOa_rtt (k l : List Int) (o n i : Nat) (l1 : List Int)
    (hk : k.length = 32)
    (hl : o + n ≤ l.length)
    (hkb : W.b8 k)
    (hlb : W.b8 l)
    (hn : n ≤ 2097152)
    (hv1 : (W.sl8 (W.cka (k.take 16) 4)).length = 16)
    (hv2 : (W.rck k).length = 16)
    (hb2 : W.b8 (W.rck k))
    (hf : W.b8 (W.tgF k l o n))
    (hfl : (W.tgF k l o n).length ≤ 67108000)
    (hi : i ≤ 16)
    (h2 : ((↑i : Int) < (16 : Int)))
    (h3 : ((↑i : Int) < (↑(W.pln (W.tgF k l o n) (List.take (16 : Nat) (List.drop (16 : Nat) k))) : Int)))
    (c4 : (i + (1 : Nat) ≤ List.length (W.pls (W.tgF k l o n) (List.take (16 : Nat) (List.drop (16 : Nat) k)))))
    (c5 : (i + (1 : Nat) ≤ List.length l1 ∧ (1 : Nat) = (1 : Nat))) :
    CodeOk Tryd.prog 81 258 (kAt (kOf Tryd.prog Tryd.f106) [true, true, true, true, true, true, true, true, false, true, false, false]) (LOaI k l o n i l1) .normal (LOaI k l o n (i + 1) (splice l1 i [List.getD (W.pls (W.tgF k l o n) (List.take 16 (List.drop 16 k))) i 0 % 256])) :=
  CodeOk.of_runs (fuel := 300) (v := ⟨[4, 8, 10, 11], [1, 18, 194, 226], [], 258⟩) (hs := [(2, ⟨.auto, some (.c (.bool (true)))⟩), (7, ⟨.auto, some (.c (.bool (true)))⟩), (12, ⟨.ask, none⟩), (13, ⟨.ask, none⟩), (15, ⟨.ask, none⟩), (16, ⟨.ask, none⟩), (18, ⟨.auto, some (.c (.int .i64 (↑(i + 1))))⟩)])
    (cs := [EI .i64 (IntKind.wrap IntKind.i64 ((↑i : Int) + 1)) ((↑(i + 1) : Int)),
      (i + (1 : Nat) ≤ List.length l1 ∧ (1 : Nat) = (1 : Nat)),
      ((0 : Int) ≤ (↑i : Int) ∧ (↑i : Int) < (16 : Int)),
      (i + (1 : Nat) ≤ List.length (W.pls (W.tgF k l o n) (List.take (16 : Nat) (List.drop (16 : Nat) k)))),
      ((0 : Int) ≤ (↑i : Int) ∧ (↑i : Int) < (↑(W.pln (W.tgF k l o n) (List.take (16 : Nat) (List.drop (16 : Nat) k))) : Int)),
      EB (decide ((↑i : Int) < (↑(W.pln (W.tgF k l o n) (List.take 16 (List.drop 16 k))) : Int))) true,
      EB (decide ((↑i : Int) < 16)) true])
    mixed (by kernel_rfl) ⟨.mk (by simp only [addO_eq, mulE_eq, mulE_one, Int.toNat_natCast, IntKind.wrap_i64, mmin, mmax]; omega), c5, (by omega), c4, (by omega), .mk (decide_eq_true h3), .mk (decide_eq_true h2), trivial⟩
theorem LOa_xtf (k l : List Int) (o n i : Nat) (l1 : List Int)
    (hk : k.length = 32)
    (hl : o + n ≤ l.length)
    (hkb : W.b8 k)
    (hlb : W.b8 l)
    (hn : n ≤ 2097152)
    (hv1 : (W.sl8 (W.cka (k.take 16) 4)).length = 16)
    (hv2 : (W.rck k).length = 16)
    (hb2 : W.b8 (W.rck k))
    (hf : W.b8 (W.tgF k l o n))
    (hfl : (W.tgF k l o n).length ≤ 67108000)
    (hi : i ≤ 16)
    (h2 : ((↑i : Int) < (16 : Int)))
    (h3 : (¬(↑i : Int) < (↑(W.pln (W.tgF k l o n) (List.take (16 : Nat) (List.drop (16 : Nat) k))) : Int))) :
    CodeOk Tryd.prog 81 258 (kAt (kOf Tryd.prog Tryd.f106) [true, true, true, true, true, true, true, true, false, true, false, false]) (LOaI k l o n i l1) (.exit 6) (LOaI k l o n i l1) :=
  CodeOk.of_runs (fuel := 300) (v := ⟨[4, 8, 10, 11], [1, 18, 194, 226], [], 258⟩) (hs := [(2, ⟨.auto, some (.c (.bool (true)))⟩), (7, ⟨.auto, some (.c (.bool (false)))⟩)])
    (cs := [EB (decide ((↑i : Int) < (↑(W.pln (W.tgF k l o n) (List.take 16 (List.drop 16 k))) : Int))) false,
      EB (decide ((↑i : Int) < 16)) true])
    mixed (by kernel_rfl) ⟨.mk (decide_eq_false h3), .mk (decide_eq_true h2), trivial⟩
theorem LOa_xf (k l : List Int) (o n i : Nat) (l1 : List Int)
    (hk : k.length = 32)
    (hl : o + n ≤ l.length)
    (hkb : W.b8 k)
    (hlb : W.b8 l)
    (hn : n ≤ 2097152)
    (hv1 : (W.sl8 (W.cka (k.take 16) 4)).length = 16)
    (hv2 : (W.rck k).length = 16)
    (hb2 : W.b8 (W.rck k))
    (hf : W.b8 (W.tgF k l o n))
    (hfl : (W.tgF k l o n).length ≤ 67108000)
    (hi : i ≤ 16)
    (h2 : (¬(↑i : Int) < (16 : Int))) :
    CodeOk Tryd.prog 81 258 (kAt (kOf Tryd.prog Tryd.f106) [true, true, true, true, true, true, true, true, false, true, false, false]) (LOaI k l o n i l1) (.exit 6) (LOaI k l o n i l1) :=
  CodeOk.of_runs (fuel := 300) (v := ⟨[4, 8, 10, 11], [1, 18, 194, 226], [], 258⟩) (hs := [(2, ⟨.auto, some (.c (.bool (false)))⟩)])
    (cs := [EB (decide ((↑i : Int) < 16)) false])
    mixed (by kernel_rfl) ⟨.mk (decide_eq_false h2), trivial⟩

end Go.Proofs.YtmfnldkiaodkpaaDoor.Vm

namespace Go.Proofs.YtmfnldkiaodkpaaDoor.W
open Go Go.Proofs.YtmfnldkiaodkpaaDoor.Vm
theorem tgw_ex (k t : List Int) (i : Nat) : ∃ y : Int, y = (tag k t).getD i 0 := ⟨_, rfl⟩
/-- The tag's bytes; each sealed. -/
noncomputable def tgw (k t : List Int) (i : Nat) : Int := Classical.choose (tgw_ex k t i)
theorem tgw_eq (k t : List Int) (i : Nat) : tgw k t i = (tag k t).getD i 0 := Classical.choose_spec (tgw_ex k t i)
theorem tag_row (k t : List Int) : [tgw k t 0, tgw k t 1, tgw k t 2, tgw k t 3, tgw k t 4, tgw k t 5, tgw k t 6, tgw k t 7, tgw k t 8, tgw k t 9, tgw k t 10, tgw k t 11, tgw k t 12, tgw k t 13, tgw k t 14, tgw k t 15] = tag k t := by
  simp only [tgw_eq]
  rfl
end Go.Proofs.YtmfnldkiaodkpaaDoor.W
namespace Go.Proofs.YtmfnldkiaodkpaaDoor.Vm
open Go Go.Proofs Go.Proofs.YtmfnldkiaodkpaaDoor
theorem lol (k l : List Int) (o n : Nat) (hk : k.length = 32) (hl : o + n ≤ l.length) (hkb : W.b8 k) (hlb : W.b8 l) (hn : n ≤ 2097152) :
    CodeOk Tryd.prog 81 258 (kAt (kOf Tryd.prog Tryd.f106) [true, true, true, true, true, true, true, true, false, true, false]) (LOa0 k l o n) (.exit 6)
      (LOaI k l o n (min 16 (W.pln (W.tgF k l o n) (List.take 16 (List.drop 16 k)))) [W.tgw k (List.take n (List.drop o l)) 0, W.tgw k (List.take n (List.drop o l)) 1, W.tgw k (List.take n (List.drop o l)) 2, W.tgw k (List.take n (List.drop o l)) 3, W.tgw k (List.take n (List.drop o l)) 4, W.tgw k (List.take n (List.drop o l)) 5, W.tgw k (List.take n (List.drop o l)) 6, W.tgw k (List.take n (List.drop o l)) 7, W.tgw k (List.take n (List.drop o l)) 8, W.tgw k (List.take n (List.drop o l)) 9, W.tgw k (List.take n (List.drop o l)) 10, W.tgw k (List.take n (List.drop o l)) 11, W.tgw k (List.take n (List.drop o l)) 12, W.tgw k (List.take n (List.drop o l)) 13, W.tgw k (List.take n (List.drop o l)) 14, W.tgw k (List.take n (List.drop o l)) 15]) := by
  rw [W.tag_row]
  have hv1 : (W.sl8 (W.cka (k.take 16) 4)).length = 16 := by rw [W.sl8_eq, W.cka_len, List.length_take]; omega
  have hv2 := W.rck_len hk
  have hb2 := W.rck_b8 hkb
  obtain ⟨f1, f2, f3⟩ := W.tgF_ok hk hkb hlb hl
  obtain ⟨s1, s2⟩ := W.tgS_ok hk hkb hlb hl
  have es : W.tgS k l o n = W.pls (W.tgF k l o n) (List.take 16 (List.drop 16 k)) := by unfold W.tgS; rw [W.sl8_eq]
  rw [es, W.pls_len] at s2
  rw [es] at s1
  rw [← s2]
  have key := fun i v => LOa_rtt k l o n i v hk hl hkb hlb hn hv1 hv2 hb2 f1 (by omega)
  have key2 := fun i v => LOa_xtf k l o n i v hk hl hkb hlb hn hv1 hv2 hb2 f1 (by omega)
  have key3 := fun i v => LOa_xf k l o n i v hk hl hkb hlb hn hv1 hv2 hb2 f1 (by omega)
  have hlen : (W.pls (W.tgF k l o n) (List.take 16 (List.drop 16 k))).length = W.pln (W.tgF k l o n) (List.take 16 (List.drop 16 k)) := W.pls_len
  refine LOa_by (fun i : Nat => LOaI k l o n i (W.ous (W.pls (W.tgF k l o n) (List.take 16 (List.drop 16 k))) i)) (fun i => i ≤ min 16 (W.pln (W.tgF k l o n) (List.take 16 (List.drop 16 k)))) (fun i => 16 - i) (by simp) ?_ 0 (Nat.zero_le _)
  intro i hi
  by_cases h : i < min 16 (W.pln (W.tgF k l o n) (List.take 16 (List.drop 16 k)))
  · refine .inl ⟨i + 1, h, by omega, ?_⟩
    have r := key i (W.ous (W.pls (W.tgF k l o n) (List.take 16 (List.drop 16 k))) i) (by omega) (by omega) (by omega) (by omega) ⟨by rw [W.ous_len]; omega, rfl⟩
    have e : List.getD (W.pls (W.tgF k l o n) (List.take 16 (List.drop 16 k))) i 0 % 256 = List.getD (W.pls (W.tgF k l o n) (List.take 16 (List.drop 16 k))) i 0 := Int.emod_eq_of_lt (s1 i).1 (s1 i).2
    rw [e] at r
    exact r
  · have e : i = min 16 (W.pln (W.tgF k l o n) (List.take 16 (List.drop 16 k))) := by omega
    rw [← e]
    by_cases q : i < 16
    · exact .inr (key2 i _ (by omega) (by omega) (by omega))
    · exact .inr (key3 i _ (by omega) (by omega))
end Go.Proofs.YtmfnldkiaodkpaaDoor.Vm

namespace Go.Proofs.YtmfnldkiaodkpaaDoor.Vm
open Go Go.Proofs Go.Proofs.YtmfnldkiaodkpaaDoor
set_option maxRecDepth 100000
theorem rtag (k l : List Int) (o n : Nat)
    (hk : k.length = 32)
    (hl : o + n ≤ l.length)
    (hkb : W.b8 k)
    (hlb : W.b8 l)
    (hn : n ≤ 2097152)
    (hv1 : (W.sl8 (W.cka (k.take 16) 4)).length = 16)
    (hv2 : (W.rck k).length = 16)
    (hb2 : W.b8 (W.rck k))
    (hf : W.b8 (W.tgF k l o n))
    (hfl : (W.tgF k l o n).length ≤ 67108000) :
    Contract0 Tryd.prog 106 [(.aggi .u8 k), (.c (.sl 1 0 o n 1))] [(1, (.one ⟨false, false, (.ints .u8 l)⟩))] 2 (.aggi .u8 [W.tgw k (List.take n (List.drop o l)) 0, W.tgw k (List.take n (List.drop o l)) 1, W.tgw k (List.take n (List.drop o l)) 2, W.tgw k (List.take n (List.drop o l)) 3, W.tgw k (List.take n (List.drop o l)) 4, W.tgw k (List.take n (List.drop o l)) 5, W.tgw k (List.take n (List.drop o l)) 6, W.tgw k (List.take n (List.drop o l)) 7, W.tgw k (List.take n (List.drop o l)) 8, W.tgw k (List.take n (List.drop o l)) 9, W.tgw k (List.take n (List.drop o l)) 10, W.tgw k (List.take n (List.drop o l)) 11, W.tgw k (List.take n (List.drop o l)) 12, W.tgw k (List.take n (List.drop o l)) 13, W.tgw k (List.take n (List.drop o l)) 14, W.tgw k (List.take n (List.drop o l)) 15]) [] [] :=
  Contract0.told (res := (.aggi .u8 [(W.tgw k (List.take n (List.drop o l)) 0), (W.tgw k (List.take n (List.drop o l)) 1), (W.tgw k (List.take n (List.drop o l)) 2), (W.tgw k (List.take n (List.drop o l)) 3), (W.tgw k (List.take n (List.drop o l)) 4), (W.tgw k (List.take n (List.drop o l)) 5), (W.tgw k (List.take n (List.drop o l)) 6), (W.tgw k (List.take n (List.drop o l)) 7), (W.tgw k (List.take n (List.drop o l)) 8), (W.tgw k (List.take n (List.drop o l)) 9), (W.tgw k (List.take n (List.drop o l)) 10), (W.tgw k (List.take n (List.drop o l)) 11), (W.tgw k (List.take n (List.drop o l)) 12), (W.tgw k (List.take n (List.drop o l)) 13), (W.tgw k (List.take n (List.drop o l)) 14), (W.tgw k (List.take n (List.drop o l)) 15)])) (up := []) (res' := (.aggi .u8 [W.tgw k (List.take n (List.drop o l)) 0, W.tgw k (List.take n (List.drop o l)) 1, W.tgw k (List.take n (List.drop o l)) 2, W.tgw k (List.take n (List.drop o l)) 3, W.tgw k (List.take n (List.drop o l)) 4, W.tgw k (List.take n (List.drop o l)) 5, W.tgw k (List.take n (List.drop o l)) 6, W.tgw k (List.take n (List.drop o l)) 7, W.tgw k (List.take n (List.drop o l)) 8, W.tgw k (List.take n (List.drop o l)) 9, W.tgw k (List.take n (List.drop o l)) 10, W.tgw k (List.take n (List.drop o l)) 11, W.tgw k (List.take n (List.drop o l)) 12, W.tgw k (List.take n (List.drop o l)) 13, W.tgw k (List.take n (List.drop o l)) 14, W.tgw k (List.take n (List.drop o l)) 15])) (up' := []) (by rfl) (by rfl) (Contract0.of_frun (res := (.aggi .u8 [(W.tgw k (List.take n (List.drop o l)) 0), (W.tgw k (List.take n (List.drop o l)) 1), (W.tgw k (List.take n (List.drop o l)) 2), (W.tgw k (List.take n (List.drop o l)) 3), (W.tgw k (List.take n (List.drop o l)) 4), (W.tgw k (List.take n (List.drop o l)) 5), (W.tgw k (List.take n (List.drop o l)) 6), (W.tgw k (List.take n (List.drop o l)) 7), (W.tgw k (List.take n (List.drop o l)) 8), (W.tgw k (List.take n (List.drop o l)) 9), (W.tgw k (List.take n (List.drop o l)) 10), (W.tgw k (List.take n (List.drop o l)) 11), (W.tgw k (List.take n (List.drop o l)) 12), (W.tgw k (List.take n (List.drop o l)) 13), (W.tgw k (List.take n (List.drop o l)) 14), (W.tgw k (List.take n (List.drop o l)) 15)])) (up := []) (kill := []) (n0 := 2) (m := [(1, (.one ⟨false, false, (.ints .u8 l)⟩))]) (args := [(.aggi .u8 k), (.c (.sl 1 0 o n 1))]) (fn := Tryd.f106) (c := bodyOf Tryd.f106) (fuel := 300) (k := kOf Tryd.prog Tryd.f106) (outs := []) (hs := [(2, ⟨.ask, none⟩), (3, ⟨.call [2] (.c (.sl 50 0 0 16 1)) [] [(50, (.one ⟨true, false, (.ints .u32 (List.take 16 k))⟩))], none⟩), (6, ⟨.sum ⟨[1, 2, 4, 5, 6], [1, 2, 18, 50], [], 98⟩ (.exit 0) (LKaI k l o n 19 (W.sl8 (W.cka (List.take 16 k) 4))), none⟩), (8, ⟨.sum ⟨[1, 2, 4, 5, 7], [1, 2, 18, 50], [], 114⟩ (.exit 2) (LKbI k l o n 16 (W.rck k)), none⟩), (10, ⟨.sum ⟨[2, 4, 5, 1, 8], [1, 2, 18, 50], [], 130⟩ (.exit 4) (LSaI k l (o + n) 0 (List.length (W.tgF k l o n)) (W.tgF k l o n)), none⟩), (12, ⟨.ask, none⟩), (13, ⟨.call [2] (.c (.sl 178 0 0 16 1)) [] [(178, (.one ⟨true, false, (.ints .u32 (List.take 16 (List.drop 16 k)))⟩))], none⟩), (14, ⟨.call [130, 178] (.c (.sl 194 0 0 (W.pln (W.tgF k l o n) (List.take 16 (List.drop 16 k))) 1)) [] [(194, (.one ⟨true, false, (.ints .u32 (W.pls (W.tgF k l o n) (List.take 16 (List.drop 16 k))))⟩))], none⟩), (18, ⟨.sum ⟨[4, 8, 10, 11], [1, 18, 194, 226], [], 258⟩ (.exit 6) (LOaI k l o n (min 16 (W.pln (W.tgF k l o n) (List.take 16 (List.drop 16 k)))) [W.tgw k (List.take n (List.drop o l)) 0, W.tgw k (List.take n (List.drop o l)) 1, W.tgw k (List.take n (List.drop o l)) 2, W.tgw k (List.take n (List.drop o l)) 3, W.tgw k (List.take n (List.drop o l)) 4, W.tgw k (List.take n (List.drop o l)) 5, W.tgw k (List.take n (List.drop o l)) 6, W.tgw k (List.take n (List.drop o l)) 7, W.tgw k (List.take n (List.drop o l)) 8, W.tgw k (List.take n (List.drop o l)) 9, W.tgw k (List.take n (List.drop o l)) 10, W.tgw k (List.take n (List.drop o l)) 11, W.tgw k (List.take n (List.drop o l)) 12, W.tgw k (List.take n (List.drop o l)) 13, W.tgw k (List.take n (List.drop o l)) 14, W.tgw k (List.take n (List.drop o l)) 15]), none⟩)])
    (cs := [CodeOk Tryd.prog 81 258 (kAt (kOf Tryd.prog Tryd.f106) [true, true, true, true, true, true, true, true, false, true, false]) (LOa0 k l o n) (.exit 6) (LOaI k l o n (min 16 (W.pln (W.tgF k l o n) (List.take 16 (List.drop 16 k)))) [W.tgw k (List.take n (List.drop o l)) 0, W.tgw k (List.take n (List.drop o l)) 1, W.tgw k (List.take n (List.drop o l)) 2, W.tgw k (List.take n (List.drop o l)) 3, W.tgw k (List.take n (List.drop o l)) 4, W.tgw k (List.take n (List.drop o l)) 5, W.tgw k (List.take n (List.drop o l)) 6, W.tgw k (List.take n (List.drop o l)) 7, W.tgw k (List.take n (List.drop o l)) 8, W.tgw k (List.take n (List.drop o l)) 9, W.tgw k (List.take n (List.drop o l)) 10, W.tgw k (List.take n (List.drop o l)) 11, W.tgw k (List.take n (List.drop o l)) 12, W.tgw k (List.take n (List.drop o l)) 13, W.tgw k (List.take n (List.drop o l)) 14, W.tgw k (List.take n (List.drop o l)) 15]),
      Contract Tryd.prog 124 [(.c (.sl 130 0 0 (List.length (W.tgF k l o n)) 1)), (.c (.sl 178 0 0 16 1))] [(130, (.one ⟨true, false, (.ints .u32 (W.tgF k l o n))⟩)), (178, (.one ⟨true, false, (.ints .u32 (List.take 16 (List.drop 16 k)))⟩))] 194 (.c (.sl 194 0 0 (W.pln (W.tgF k l o n) (List.take 16 (List.drop 16 k))) 1)) [] [(194, (.one ⟨true, false, (.ints .u32 (W.pls (W.tgF k l o n) (List.take 16 (List.drop 16 k))))⟩))],
      Contract Tryd.prog 121 [(.c (.sl 2 0 16 16 1))] [(2, (.one ⟨true, true, (.ints .u8 k)⟩))] 178 (.c (.sl 178 0 0 16 1)) [] [(178, (.one ⟨true, false, (.ints .u32 (List.take 16 (List.drop 16 k)))⟩))],
      ((0 : Int) ≤ (16 : Int) ∧ (16 : Int) ≤ (32 : Int) ∧ (32 : Int) ≤ (32 : Int) ∧ (32 : Nat) ≤ List.length k),
      CodeOk Tryd.prog 81 130 (kAt (kOf Tryd.prog Tryd.f106) [true, true, true, true, true, false, false]) (LSa0 k l o n) (.exit 4) (LSaI k l (o + n) 0 (List.length (W.tgF k l o n)) (W.tgF k l o n)),
      CodeOk Tryd.prog 81 114 (kAt (kOf Tryd.prog Tryd.f106) [true, true, true, false, true, false]) (LKb0 k l o n) (.exit 2) (LKbI k l o n 16 (W.rck k)),
      CodeOk Tryd.prog 81 98 (kAt (kOf Tryd.prog Tryd.f106) [true, true, false, true, false]) (LKa0 k l o n) (.exit 0) (LKaI k l o n 19 (W.sl8 (W.cka (List.take 16 k) 4))),
      Contract Tryd.prog 121 [(.c (.sl 2 0 0 16 1))] [(2, (.one ⟨true, true, (.ints .u8 k)⟩))] 50 (.c (.sl 50 0 0 16 1)) [] [(50, (.one ⟨true, false, (.ints .u32 (List.take 16 k))⟩))],
      ((0 : Int) ≤ (0 : Int) ∧ (0 : Int) ≤ (16 : Int) ∧ (16 : Int) ≤ (32 : Int) ∧ (32 : Nat) ≤ List.length k)])
    mixed Tryd.func106 (by kernel_rfl) (by kernel_rfl) (by kernel_rfl) (by kernel_rfl) (by kernel_rfl) ⟨(lol k l o n (by omega) (by omega) (by omega) (by omega) (by omega)), Contract0.inst (pl_r (W.tgF k l o n) (List.take 16 (List.drop 16 k)) (List.length (W.tgF k l o n)) 16 rfl (by simp only [and_true, List.length_set, List.length_append, List.length_replicate, List.length_take, List.length_drop, List.length_map, List.length_cons, List.length_nil, List.length_zipWith, splice_len1, W.le_len, W.bts_len, Int.toNat_natCast, addO_eq, mulE_eq, mulE_one]; omega) (by omega) (by omega) (by exact W.key_b8 hkb)) [.b 130 1 true [], .b 178 2 true []] [none, none] [(3, 194)] [] (by kernel_rfl) (by kernel_rfl) (by kernel_rfl) (by kernel_rfl) (by kernel_rfl), Contract0.inst (dg_r k 16 16 (by omega) (by omega) (by omega)) [.b 2 1 true []] [none] [(2, 178)] [] (by kernel_rfl) (by kernel_rfl) (by kernel_rfl) (by kernel_rfl) (by kernel_rfl), (by omega), (lsl k l o n (by omega) (by omega) (by omega) (by omega) (by omega)), (lkb k l o n (by omega) (by omega) (by omega) (by omega) (by omega)), (lka k l o n (by omega) (by omega) (by omega) (by omega) (by omega)), Contract0.inst (dg_r k 0 16 (by omega) (by omega) (by omega)) [.b 2 1 true []] [none] [(2, 50)] [] (by kernel_rfl) (by kernel_rfl) (by kernel_rfl) (by kernel_rfl) (by kernel_rfl), (by omega), trivial⟩)


end Go.Proofs.YtmfnldkiaodkpaaDoor.Vm

namespace Go.Proofs.YtmfnldkiaodkpaaDoor.Vm
open Go Go.Proofs Go.Proofs.YtmfnldkiaodkpaaDoor
theorem rtag_ok (k l : List Int) (o n : Nat) (hk : k.length = 32) (hkb : W.bytes k) (hlb : W.bytes l) (hl : o + n ≤ l.length) (hn : n ≤ 2097152) :
    Contract0 Tryd.prog 106 [(.aggi .u8 k), (.c (.sl 1 0 o n 1))] [(1, (.one ⟨false, false, (.ints .u8 l)⟩))] 2 (.aggi .u8 (W.tag k (List.take n (List.drop o l)))) [] [] := by
  have kb := W.row_b8 hkb
  have lb := W.row_b8 hlb
  obtain ⟨f1, f2, f3⟩ := W.tgF_ok hk kb lb hl
  have r := rtag k l o n hk hl kb lb hn (by rw [W.sl8_eq, W.cka_len, List.length_take]; omega) (W.rck_len hk) (W.rck_b8 kb) f1 (by omega)
  rw [W.tag_row] at r
  exact r
end Go.Proofs.YtmfnldkiaodkpaaDoor.Vm
