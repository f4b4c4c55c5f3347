/- What functions of the program come to: parts of the walk (Fb). -/
import Derived.Test.YtmfnldkiaodkpaaFa
import Derived.KernelRfl
import Derived.Test.YtmfnldkiaodkpaaProg
import Derived.Test.YtmfnldkiaodkpaaOe
set_option linter.unusedSimpArgs false
set_option linter.unusedVariables false
namespace Go.Proofs.Ytmfnldkiaodkpaa.Vm
open Go Go.Proofs Go.Proofs.Ytmfnldkiaodkpaa
set_option maxRecDepth 100000
theorem rframe_t (l : List Int) (o n : Nat)
    (hl : o + n ≤ l.length)
    (hs : n ≤ 1073741824)
    (h0 : ((↑n : Int) = (0 : Int))) :
    Contract0 Try.prog 41 [(.c (.sl 1 0 o n 1))] [(1, (.one ⟨false, false, (.ints .u8 l)⟩))] 2 (.tup [(.c .nils), (.c (.int .i64 6))]) [] [] :=
  Contract0.of_frun (res := (.tup [(.c .nils), (.c (.int .i64 6))])) (up := []) (kill := []) (n0 := 2) (m := [(1, (.one ⟨false, false, (.ints .u8 l)⟩))]) (args := [(.c (.sl 1 0 o n 1))]) (fn := Try.f41) (c := bodyOf Try.f41) (fuel := 300) (k := kOf Try.prog Try.f41) (outs := []) (hs := [(5, ⟨.auto, some (.c (.bool (true)))⟩)])
    (cs := [EB ((↑n : Int) == 0) true])
    mixed Try.func41 (by kernel_rfl) (by kernel_rfl) (by kernel_rfl) (by kernel_rfl) (by kernel_rfl) ⟨.mk (beq_t h0), trivial⟩

theorem rframe_ft (l : List Int) (o n : Nat)
    (hl : o + n ≤ l.length)
    (hs : n ≤ 1073741824)
    (h0 : (¬(↑n : Int) = (0 : Int)))
    (h1 : ((↑n : Int) > (4096 : Int))) :
    Contract0 Try.prog 41 [(.c (.sl 1 0 o n 1))] [(1, (.one ⟨false, false, (.ints .u8 l)⟩))] 2 (.tup [(.c .nils), (.c (.int .i64 6))]) [] [] :=
  Contract0.of_frun (res := (.tup [(.c .nils), (.c (.int .i64 6))])) (up := []) (kill := []) (n0 := 2) (m := [(1, (.one ⟨false, false, (.ints .u8 l)⟩))]) (args := [(.c (.sl 1 0 o n 1))]) (fn := Try.f41) (c := bodyOf Try.f41) (fuel := 300) (k := kOf Try.prog Try.f41) (outs := []) (hs := [(5, ⟨.auto, some (.c (.bool (false)))⟩), (9, ⟨.auto, some (.c (.bool (true)))⟩)])
    (cs := [EB (decide ((↑n : Int) > 4096)) true,
      EB ((↑n : Int) == 0) false])
    mixed Try.func41 (by kernel_rfl) (by kernel_rfl) (by kernel_rfl) (by kernel_rfl) (by kernel_rfl) ⟨.mk (decide_eq_true h1), .mk (beq_f h0), trivial⟩

theorem rframe_ff (l : List Int) (o n : Nat)
    (hl : o + n ≤ l.length)
    (hs : n ≤ 1073741824)
    (h0 : (¬(↑n : Int) = (0 : Int)))
    (h1 : (¬(↑n : Int) > (4096 : Int))) :
    Contract0 Try.prog 41 [(.c (.sl 1 0 o n 1))] [(1, (.one ⟨false, false, (.ints .u8 l)⟩))] 2 (.tup [(.c (.sl 2 0 0 (2 + n) 1)), (.c (.int .i64 0))]) [] [(2, (.one ⟨true, false, (.ints .u8 ([IntKind.wrap IntKind.i64 (Int.tdiv (↑n : Int) 256) % 256, (↑(n % 256) : Int)] ++ List.take n (List.drop o l)))⟩))] :=
  Contract0.renum (Contract0.of_frun (res := (.tup [(.c (.sl 306 0 0 (2 + n) 1)), (.c (.int .i64 0))])) (up := [(306, (.one ⟨true, false, (.ints .u8 ([IntKind.wrap IntKind.i64 (Int.tdiv (↑n : Int) 256) % 256, (↑(n % 256) : Int)] ++ List.take n (List.drop o l)))⟩))]) (kill := []) (n0 := 2) (m := [(1, (.one ⟨false, false, (.ints .u8 l)⟩))]) (args := [(.c (.sl 1 0 o n 1))]) (fn := Try.f41) (c := bodyOf Try.f41) (fuel := 300) (k := kOf Try.prog Try.f41) (outs := [306]) (hs := [(5, ⟨.auto, some (.c (.bool (false)))⟩), (9, ⟨.auto, some (.c (.bool (false)))⟩), (20, ⟨.ask, some (.c (.sl 306 0 0 (2 + n) 1))⟩)])
    (cs := [((.c (.sl 306 0 0 (addO 2 n) 1)) : V) = (.c (.sl 306 0 0 (2 + n) 1)),
      (o + n * (1 : Nat) ≤ List.length l ∧ (2 : Nat) * ((2 : Nat) + n) ≤ (4398046511104 : Nat) ∧ (2 : Nat) ≤ (2 : Nat)),
      EB (decide ((↑n : Int) > 4096)) false,
      EB ((↑n : Int) == 0) false])
    mixed Try.func41 (by kernel_rfl) (by kernel_rfl) (by kernel_rfl) (by kernel_rfl) (by kernel_rfl) ⟨EV.sl (by rfl) (by simp only [addO_eq, mulE_eq, mulE_one, Int.toNat_natCast, IntKind.wrap_i64, mmin, mmax]), (by omega), .mk (decide_eq_false h1), .mk (beq_f h0), trivial⟩) [.b 1 1 true] [] [(306, 2)] [] (by kernel_rfl) (by kernel_rfl) (by kernel_rfl) (by kernel_rfl) (by kernel_rfl)


theorem rfeedB (ex : Bool) (l : List Int) (o n : Nat) :
    Contract0 Try.prog 43 [(.c (.ptr 1 0 0)), (.c (.sl 2 0 o n 1))] [(1, (.one ⟨true, ex, (.cells [.nils, (.bool (true))])⟩)), (2, (.one ⟨false, false, (.ints .u8 l)⟩))] 3 (.c (.int .i64 6)) [] [(1, (.one ⟨true, ex, (.cells [.nils, (.bool (true))])⟩))] :=
  Contract0.renum (Contract0.of_frun (res := (.c (.int .i64 6))) (up := [(1, (.one ⟨true, ex, (.cells [.nils, (.bool (true))])⟩))]) (kill := []) (n0 := 3) (m := [(1, (.one ⟨true, ex, (.cells [.nils, (.bool (true))])⟩)), (2, (.one ⟨false, false, (.ints .u8 l)⟩))]) (args := [(.c (.ptr 1 0 0)), (.c (.sl 2 0 o n 1))]) (fn := Try.f43) (c := bodyOf Try.f43) (fuel := 300) (k := kOf Try.prog Try.f43) (outs := [1]) (hs := [])
    (cs := [])
    mixed Try.func43 (by kernel_rfl) (by kernel_rfl) (by kernel_rfl) (by kernel_rfl) (by kernel_rfl) trivial) [.b 1 1 false, .b 2 2 true] [] [] [] (by kernel_rfl) (by kernel_rfl) (by kernel_rfl) (by kernel_rfl) (by kernel_rfl)


def LRfI (ex : Bool) (h l : List Int) (p c o n w : Nat) : S0 :=
  ⟨[(0, (.c (.ptr 1 0 0))), (4, (.c (.int .i64 0))), (5, (.c (.int .i64 ((↑w : Int)))))], [(1, (.one ⟨true, ex, (.cells [(.sl 212 0 0 (c + n) 1), (.bool (false))])⟩)), (2, (.one ⟨false, false, (.ints .u8 h)⟩)), (3, (.one ⟨false, false, (.ints .u8 l)⟩)), (212, (.one ⟨true, false, (.ints .u8 (List.take c (List.take c (List.drop p h)) ++ List.take n (List.drop o l)))⟩))], 292⟩
theorem LRf_by {α : Type} (I : α → S0) (Inv : α → Prop) (μ : α → Nat) {ex : Ex} {s' : S0} (hex : ex ≠ .normal)
    (step : ∀ x, Inv x → (∃ y, Inv y ∧ μ y < μ x ∧ CodeOk Try.prog 75 292 (kAt (kOf Try.prog Try.f43) [true, true, true, true, false, false, false]) (I x) .normal (I y)) ∨ CodeOk Try.prog 75 292 (kAt (kOf Try.prog Try.f43) [true, true, true, true, false, false, false]) (I x) ex s') (x : α) (hx : Inv x) :
    CodeOk Try.prog 75 292 (kAt (kOf Try.prog Try.f43) [true, true, true, true, false, false]) (I x) ex s' := by
  have hk : (kAt (kOf Try.prog Try.f43) [true, true, true, true, false, false]) = .loop (kAt (kOf Try.prog Try.f43) [true, true, true, true, false, false, false]) := by kernel_rfl
  rw [hk]
  exact CodeOk.loop I Inv μ hex step x hx
def LRf0 (ex : Bool) (h l : List Int) (p c o n : Nat) : S0 :=
  ⟨[(0, (.c (.ptr 1 0 0))), (4, (.c (.int .i64 0))), (5, (.c (.int .i64 0)))], [(1, (.one ⟨true, ex, (.cells [(.sl 212 0 0 (c + n) 1), (.bool (false))])⟩)), (2, (.one ⟨false, false, (.ints .u8 h)⟩)), (3, (.one ⟨false, false, (.ints .u8 l)⟩)), (212, (.one ⟨true, false, (.ints .u8 (List.take c (List.take c (List.drop p h)) ++ List.take n (List.drop o l)))⟩))], 292⟩
theorem LRf_xtt (ex : Bool) (h l : List Int) (p c o n w : Nat)
    (hp : p + c ≤ h.length)
    (hl : o + n ≤ l.length)
    (hc : c ≤ 67108864)
    (hn : n ≤ 1006632960)
    (hhb : W.bytes h)
    (hlb : W.bytes l)
    (b0 : 0 ≤ List.getD (List.take c (List.take c (List.drop p h)) ++ List.take n (List.drop o l)) w 0 ∧ List.getD (List.take c (List.take c (List.drop p h)) ++ List.take n (List.drop o l)) w 0 < 256)
    (b1 : 0 ≤ List.getD (List.take c (List.take c (List.drop p h)) ++ List.take n (List.drop o l)) (w + 1) 0 ∧ List.getD (List.take c (List.take c (List.drop p h)) ++ List.take n (List.drop o l)) (w + 1) 0 < 256)
    (hm : 256 * List.getD (List.take c (List.take c (List.drop p h)) ++ List.take n (List.drop o l)) w 0 + List.getD (List.take c (List.take c (List.drop p h)) ++ List.take n (List.drop o l)) (w + 1) 0 = ((W.be2 (List.take c (List.take c (List.drop p h)) ++ List.take n (List.drop o l)) w : Nat) : Int))
    (hm2 : W.be2 (List.take c (List.take c (List.drop p h)) ++ List.take n (List.drop o l)) w < 65536)
    (hw : w ≤ c + n)
    (h1 : ((↑(c + n - w) : Int) ≥ (2 : Int)))
    (h2 : ((↑(W.be2 (List.take c (List.take c (List.drop p h)) ++ List.take n (List.drop o l)) w) : Int) = (0 : Int))) :
    CodeOk Try.prog 75 292 (kAt (kOf Try.prog Try.f43) [true, true, true, true, false, false, false]) (LRfI ex h l p c o n w) .ret ⟨[(0, (.c (.ptr 1 0 0))), (4, (.c (.int .i64 6))), (5, (.c (.int .i64 (↑w))))], [(1, (.one ⟨true, ex, (.cells [.nils, (.bool (true))])⟩)), (2, (.one ⟨false, false, (.ints .u8 h)⟩)), (3, (.one ⟨false, false, (.ints .u8 l)⟩)), (212, (.one ⟨true, false, (.ints .u8 (List.take c (List.take c (List.drop p h)) ++ List.take n (List.drop o l)))⟩))], 292⟩ :=
  CodeOk.of_runs (fuel := 300) (v := ⟨[0, 4, 5], [1, 2, 3, 212], [], 292⟩) (hs := [(6, ⟨.auto, some (.c (.int .i64 (↑(c + n - w))))⟩), (7, ⟨.auto, some (.c (.bool (true)))⟩), (14, ⟨.ask, none⟩), (15, ⟨.ask, none⟩), (16, ⟨.auto, some (.c (.int .i64 (List.getD (List.take c (List.take c (List.drop p h)) ++ List.take n (List.drop o l)) w 0)))⟩), (17, ⟨.auto, some (.c (.int .i64 (256 * List.getD (List.take c (List.take c (List.drop p h)) ++ List.take n (List.drop o l)) w 0)))⟩), (23, ⟨.auto, some (.c (.int .i64 (↑(w + 1))))⟩), (24, ⟨.ask, none⟩), (25, ⟨.ask, none⟩), (26, ⟨.auto, some (.c (.int .i64 (List.getD (List.take c (List.take c (List.drop p h)) ++ List.take n (List.drop o l)) (w + 1) 0)))⟩), (27, ⟨.auto, some (.c (.int .i64 (↑(W.be2 (List.take c (List.take c (List.drop p h)) ++ List.take n (List.drop o l)) w))))⟩), (31, ⟨.auto, some (.c (.bool (true)))⟩)])
    (cs := [EB ((↑(W.be2 (List.take c (List.take c (List.drop p h)) ++ List.take n (List.drop o l)) w) : Int) == 0) true,
      EI .i64 (IntKind.wrap IntKind.i64 (256 * List.getD (List.take c (List.take c (List.drop p h)) ++ List.take n (List.drop o l)) w 0 + List.getD (List.take c (List.take c (List.drop p h)) ++ List.take n (List.drop o l)) (w + 1) 0)) ((↑(W.be2 (List.take c (List.take c (List.drop p h)) ++ List.take n (List.drop o l)) w) : Int)),
      EI .i64 (IntKind.wrap IntKind.i64 (List.getD (List.take c (List.take c (List.drop p h)) ++ List.take n (List.drop o l)) (w + 1) 0)) (List.getD (List.take c (List.take c (List.drop p h)) ++ List.take n (List.drop o l)) (w + 1) 0),
      (w + (1 : Nat) + (1 : Nat) ≤ List.length (List.take c (List.take c (List.drop p h)) ++ List.take n (List.drop o l))),
      ((0 : Int) ≤ (↑(w + (1 : Nat)) : Int) ∧ (↑(w + (1 : Nat)) : Int) < (↑(c + n) : Int)),
      EI .i64 (IntKind.wrap IntKind.i64 ((↑w : Int) + 1)) ((↑(w + 1) : Int)),
      EI .i64 (IntKind.wrap IntKind.i64 (256 * List.getD (List.take c (List.take c (List.drop p h)) ++ List.take n (List.drop o l)) w 0)) (256 * List.getD (List.take c (List.take c (List.drop p h)) ++ List.take n (List.drop o l)) w 0),
      EI .i64 (IntKind.wrap IntKind.i64 (List.getD (List.take c (List.take c (List.drop p h)) ++ List.take n (List.drop o l)) w 0)) (List.getD (List.take c (List.take c (List.drop p h)) ++ List.take n (List.drop o l)) w 0),
      (w + (1 : Nat) ≤ List.length (List.take c (List.take c (List.drop p h)) ++ List.take n (List.drop o l))),
      ((0 : Int) ≤ (↑w : Int) ∧ (↑w : Int) < (↑(c + n) : Int)),
      EB (decide ((↑(c + n - w) : Int) ≥ 2)) true,
      EI .i64 (IntKind.wrap IntKind.i64 ((↑(c + n) : Int) - (↑w : Int))) ((↑(c + n - w) : Int))])
    mixed (by kernel_rfl) ⟨.mk (beq_t h2), .mk (by simp only [addO_eq, mulE_eq, mulE_one, Int.toNat_natCast, IntKind.wrap_i64, mmin, mmax]; omega), .mk (by simp only [addO_eq, mulE_eq, mulE_one, Int.toNat_natCast, IntKind.wrap_i64, mmin, mmax]; omega), (by simp only [and_true, List.length_set, List.length_append, List.length_replicate, List.length_take, List.length_drop, List.length_map, List.length_cons, List.length_nil, List.length_zipWith, splice_len1, W.le_len, W.bts_len, Int.toNat_natCast, addO_eq, mulE_eq, mulE_one, W.once_len, W.block_len, W.p8_len, W.apply_len, W.boxTag_len, W.box_len, W.nonce_len, W.hand_len, W.tag_len, W.padd_len, W.frm_len]; omega), (by omega), .mk (by simp only [addO_eq, mulE_eq, mulE_one, Int.toNat_natCast, IntKind.wrap_i64, mmin, mmax]; omega), .mk (by simp only [addO_eq, mulE_eq, mulE_one, Int.toNat_natCast, IntKind.wrap_i64, mmin, mmax]; omega), .mk (by simp only [addO_eq, mulE_eq, mulE_one, Int.toNat_natCast, IntKind.wrap_i64, mmin, mmax]; omega), (by simp only [and_true, List.length_set, List.length_append, List.length_replicate, List.length_take, List.length_drop, List.length_map, List.length_cons, List.length_nil, List.length_zipWith, splice_len1, W.le_len, W.bts_len, Int.toNat_natCast, addO_eq, mulE_eq, mulE_one, W.once_len, W.block_len, W.p8_len, W.apply_len, W.boxTag_len, W.box_len, W.nonce_len, W.hand_len, W.tag_len, W.padd_len, W.frm_len]; omega), (by omega), .mk (decide_eq_true h1), .mk (by simp only [addO_eq, mulE_eq, mulE_one, Int.toNat_natCast, IntKind.wrap_i64, mmin, mmax]; omega), trivial⟩
theorem LRf_xtft (ex : Bool) (h l : List Int) (p c o n w : Nat)
    (hp : p + c ≤ h.length)
    (hl : o + n ≤ l.length)
    (hc : c ≤ 67108864)
    (hn : n ≤ 1006632960)
    (hhb : W.bytes h)
    (hlb : W.bytes l)
    (b0 : 0 ≤ List.getD (List.take c (List.take c (List.drop p h)) ++ List.take n (List.drop o l)) w 0 ∧ List.getD (List.take c (List.take c (List.drop p h)) ++ List.take n (List.drop o l)) w 0 < 256)
    (b1 : 0 ≤ List.getD (List.take c (List.take c (List.drop p h)) ++ List.take n (List.drop o l)) (w + 1) 0 ∧ List.getD (List.take c (List.take c (List.drop p h)) ++ List.take n (List.drop o l)) (w + 1) 0 < 256)
    (hm : 256 * List.getD (List.take c (List.take c (List.drop p h)) ++ List.take n (List.drop o l)) w 0 + List.getD (List.take c (List.take c (List.drop p h)) ++ List.take n (List.drop o l)) (w + 1) 0 = ((W.be2 (List.take c (List.take c (List.drop p h)) ++ List.take n (List.drop o l)) w : Nat) : Int))
    (hm2 : W.be2 (List.take c (List.take c (List.drop p h)) ++ List.take n (List.drop o l)) w < 65536)
    (hw : w ≤ c + n)
    (h1 : ((↑(c + n - w) : Int) ≥ (2 : Int)))
    (h2 : (¬(↑(W.be2 (List.take c (List.take c (List.drop p h)) ++ List.take n (List.drop o l)) w) : Int) = (0 : Int)))
    (h3 : ((↑(W.be2 (List.take c (List.take c (List.drop p h)) ++ List.take n (List.drop o l)) w) : Int) > (4096 : Int))) :
    CodeOk Try.prog 75 292 (kAt (kOf Try.prog Try.f43) [true, true, true, true, false, false, false]) (LRfI ex h l p c o n w) .ret ⟨[(0, (.c (.ptr 1 0 0))), (4, (.c (.int .i64 6))), (5, (.c (.int .i64 (↑w))))], [(1, (.one ⟨true, ex, (.cells [.nils, (.bool (true))])⟩)), (2, (.one ⟨false, false, (.ints .u8 h)⟩)), (3, (.one ⟨false, false, (.ints .u8 l)⟩)), (212, (.one ⟨true, false, (.ints .u8 (List.take c (List.take c (List.drop p h)) ++ List.take n (List.drop o l)))⟩))], 292⟩ :=
  CodeOk.of_runs (fuel := 300) (v := ⟨[0, 4, 5], [1, 2, 3, 212], [], 292⟩) (hs := [(6, ⟨.auto, some (.c (.int .i64 (↑(c + n - w))))⟩), (7, ⟨.auto, some (.c (.bool (true)))⟩), (14, ⟨.ask, none⟩), (15, ⟨.ask, none⟩), (16, ⟨.auto, some (.c (.int .i64 (List.getD (List.take c (List.take c (List.drop p h)) ++ List.take n (List.drop o l)) w 0)))⟩), (17, ⟨.auto, some (.c (.int .i64 (256 * List.getD (List.take c (List.take c (List.drop p h)) ++ List.take n (List.drop o l)) w 0)))⟩), (23, ⟨.auto, some (.c (.int .i64 (↑(w + 1))))⟩), (24, ⟨.ask, none⟩), (25, ⟨.ask, none⟩), (26, ⟨.auto, some (.c (.int .i64 (List.getD (List.take c (List.take c (List.drop p h)) ++ List.take n (List.drop o l)) (w + 1) 0)))⟩), (27, ⟨.auto, some (.c (.int .i64 (↑(W.be2 (List.take c (List.take c (List.drop p h)) ++ List.take n (List.drop o l)) w))))⟩), (31, ⟨.auto, some (.c (.bool (false)))⟩), (34, ⟨.auto, some (.c (.bool (true)))⟩)])
    (cs := [EB (decide ((↑(W.be2 (List.take c (List.take c (List.drop p h)) ++ List.take n (List.drop o l)) w) : Int) > 4096)) true,
      EB ((↑(W.be2 (List.take c (List.take c (List.drop p h)) ++ List.take n (List.drop o l)) w) : Int) == 0) false,
      EI .i64 (IntKind.wrap IntKind.i64 (256 * List.getD (List.take c (List.take c (List.drop p h)) ++ List.take n (List.drop o l)) w 0 + List.getD (List.take c (List.take c (List.drop p h)) ++ List.take n (List.drop o l)) (w + 1) 0)) ((↑(W.be2 (List.take c (List.take c (List.drop p h)) ++ List.take n (List.drop o l)) w) : Int)),
      EI .i64 (IntKind.wrap IntKind.i64 (List.getD (List.take c (List.take c (List.drop p h)) ++ List.take n (List.drop o l)) (w + 1) 0)) (List.getD (List.take c (List.take c (List.drop p h)) ++ List.take n (List.drop o l)) (w + 1) 0),
      (w + (1 : Nat) + (1 : Nat) ≤ List.length (List.take c (List.take c (List.drop p h)) ++ List.take n (List.drop o l))),
      ((0 : Int) ≤ (↑(w + (1 : Nat)) : Int) ∧ (↑(w + (1 : Nat)) : Int) < (↑(c + n) : Int)),
      EI .i64 (IntKind.wrap IntKind.i64 ((↑w : Int) + 1)) ((↑(w + 1) : Int)),
      EI .i64 (IntKind.wrap IntKind.i64 (256 * List.getD (List.take c (List.take c (List.drop p h)) ++ List.take n (List.drop o l)) w 0)) (256 * List.getD (List.take c (List.take c (List.drop p h)) ++ List.take n (List.drop o l)) w 0),
      EI .i64 (IntKind.wrap IntKind.i64 (List.getD (List.take c (List.take c (List.drop p h)) ++ List.take n (List.drop o l)) w 0)) (List.getD (List.take c (List.take c (List.drop p h)) ++ List.take n (List.drop o l)) w 0),
      (w + (1 : Nat) ≤ List.length (List.take c (List.take c (List.drop p h)) ++ List.take n (List.drop o l))),
      ((0 : Int) ≤ (↑w : Int) ∧ (↑w : Int) < (↑(c + n) : Int)),
      EB (decide ((↑(c + n - w) : Int) ≥ 2)) true,
      EI .i64 (IntKind.wrap IntKind.i64 ((↑(c + n) : Int) - (↑w : Int))) ((↑(c + n - w) : Int))])
    mixed (by kernel_rfl) ⟨.mk (decide_eq_true h3), .mk (beq_f h2), .mk (by simp only [addO_eq, mulE_eq, mulE_one, Int.toNat_natCast, IntKind.wrap_i64, mmin, mmax]; omega), .mk (by simp only [addO_eq, mulE_eq, mulE_one, Int.toNat_natCast, IntKind.wrap_i64, mmin, mmax]; omega), (by simp only [and_true, List.length_set, List.length_append, List.length_replicate, List.length_take, List.length_drop, List.length_map, List.length_cons, List.length_nil, List.length_zipWith, splice_len1, W.le_len, W.bts_len, Int.toNat_natCast, addO_eq, mulE_eq, mulE_one, W.once_len, W.block_len, W.p8_len, W.apply_len, W.boxTag_len, W.box_len, W.nonce_len, W.hand_len, W.tag_len, W.padd_len, W.frm_len]; omega), (by omega), .mk (by simp only [addO_eq, mulE_eq, mulE_one, Int.toNat_natCast, IntKind.wrap_i64, mmin, mmax]; omega), .mk (by simp only [addO_eq, mulE_eq, mulE_one, Int.toNat_natCast, IntKind.wrap_i64, mmin, mmax]; omega), .mk (by simp only [addO_eq, mulE_eq, mulE_one, Int.toNat_natCast, IntKind.wrap_i64, mmin, mmax]; omega), (by simp only [and_true, List.length_set, List.length_append, List.length_replicate, List.length_take, List.length_drop, List.length_map, List.length_cons, List.length_nil, List.length_zipWith, splice_len1, W.le_len, W.bts_len, Int.toNat_natCast, addO_eq, mulE_eq, mulE_one, W.once_len, W.block_len, W.p8_len, W.apply_len, W.boxTag_len, W.box_len, W.nonce_len, W.hand_len, W.tag_len, W.padd_len, W.frm_len]; omega), (by omega), .mk (decide_eq_true h1), .mk (by simp only [addO_eq, mulE_eq, mulE_one, Int.toNat_natCast, IntKind.wrap_i64, mmin, mmax]; omega), trivial⟩
theorem LRf_xtfft (ex : Bool) (h l : List Int) (p c o n w : Nat)
    (hp : p + c ≤ h.length)
    (hl : o + n ≤ l.length)
    (hc : c ≤ 67108864)
    (hn : n ≤ 1006632960)
    (hhb : W.bytes h)
    (hlb : W.bytes l)
    (b0 : 0 ≤ List.getD (List.take c (List.take c (List.drop p h)) ++ List.take n (List.drop o l)) w 0 ∧ List.getD (List.take c (List.take c (List.drop p h)) ++ List.take n (List.drop o l)) w 0 < 256)
    (b1 : 0 ≤ List.getD (List.take c (List.take c (List.drop p h)) ++ List.take n (List.drop o l)) (w + 1) 0 ∧ List.getD (List.take c (List.take c (List.drop p h)) ++ List.take n (List.drop o l)) (w + 1) 0 < 256)
    (hm : 256 * List.getD (List.take c (List.take c (List.drop p h)) ++ List.take n (List.drop o l)) w 0 + List.getD (List.take c (List.take c (List.drop p h)) ++ List.take n (List.drop o l)) (w + 1) 0 = ((W.be2 (List.take c (List.take c (List.drop p h)) ++ List.take n (List.drop o l)) w : Nat) : Int))
    (hm2 : W.be2 (List.take c (List.take c (List.drop p h)) ++ List.take n (List.drop o l)) w < 65536)
    (hw : w ≤ c + n)
    (h1 : ((↑(c + n - w) : Int) ≥ (2 : Int)))
    (h2 : (¬(↑(W.be2 (List.take c (List.take c (List.drop p h)) ++ List.take n (List.drop o l)) w) : Int) = (0 : Int)))
    (h3 : (¬(↑(W.be2 (List.take c (List.take c (List.drop p h)) ++ List.take n (List.drop o l)) w) : Int) > (4096 : Int)))
    (h4 : ((↑(c + n - w) : Int) < (↑((2 : Nat) + W.be2 (List.take c (List.take c (List.drop p h)) ++ List.take n (List.drop o l)) w) : Int))) :
    CodeOk Try.prog 75 292 (kAt (kOf Try.prog Try.f43) [true, true, true, true, false, false, false]) (LRfI ex h l p c o n w) (.exit 0) (LRfI ex h l p c o n w) :=
  CodeOk.of_runs (fuel := 300) (v := ⟨[0, 4, 5], [1, 2, 3, 212], [], 292⟩) (hs := [(6, ⟨.auto, some (.c (.int .i64 (↑(c + n - w))))⟩), (7, ⟨.auto, some (.c (.bool (true)))⟩), (14, ⟨.ask, none⟩), (15, ⟨.ask, none⟩), (16, ⟨.auto, some (.c (.int .i64 (List.getD (List.take c (List.take c (List.drop p h)) ++ List.take n (List.drop o l)) w 0)))⟩), (17, ⟨.auto, some (.c (.int .i64 (256 * List.getD (List.take c (List.take c (List.drop p h)) ++ List.take n (List.drop o l)) w 0)))⟩), (23, ⟨.auto, some (.c (.int .i64 (↑(w + 1))))⟩), (24, ⟨.ask, none⟩), (25, ⟨.ask, none⟩), (26, ⟨.auto, some (.c (.int .i64 (List.getD (List.take c (List.take c (List.drop p h)) ++ List.take n (List.drop o l)) (w + 1) 0)))⟩), (27, ⟨.auto, some (.c (.int .i64 (↑(W.be2 (List.take c (List.take c (List.drop p h)) ++ List.take n (List.drop o l)) w))))⟩), (31, ⟨.auto, some (.c (.bool (false)))⟩), (34, ⟨.auto, some (.c (.bool (false)))⟩), (42, ⟨.auto, some (.c (.int .i64 (↑(c + n - w))))⟩), (44, ⟨.auto, some (.c (.int .i64 (↑(2 + W.be2 (List.take c (List.take c (List.drop p h)) ++ List.take n (List.drop o l)) w))))⟩), (45, ⟨.auto, some (.c (.bool (true)))⟩)])
    (cs := [EB (decide ((↑(c + n - w) : Int) < (↑(2 + W.be2 (List.take c (List.take c (List.drop p h)) ++ List.take n (List.drop o l)) w) : Int))) true,
      EI .i64 (IntKind.wrap IntKind.i64 (2 + (↑(W.be2 (List.take c (List.take c (List.drop p h)) ++ List.take n (List.drop o l)) w) : Int))) ((↑(2 + W.be2 (List.take c (List.take c (List.drop p h)) ++ List.take n (List.drop o l)) w) : Int)),
      EI .i64 (IntKind.wrap IntKind.i64 ((↑(c + n) : Int) - (↑w : Int))) ((↑(c + n - w) : Int)),
      EB (decide ((↑(W.be2 (List.take c (List.take c (List.drop p h)) ++ List.take n (List.drop o l)) w) : Int) > 4096)) false,
      EB ((↑(W.be2 (List.take c (List.take c (List.drop p h)) ++ List.take n (List.drop o l)) w) : Int) == 0) false,
      EI .i64 (IntKind.wrap IntKind.i64 (256 * List.getD (List.take c (List.take c (List.drop p h)) ++ List.take n (List.drop o l)) w 0 + List.getD (List.take c (List.take c (List.drop p h)) ++ List.take n (List.drop o l)) (w + 1) 0)) ((↑(W.be2 (List.take c (List.take c (List.drop p h)) ++ List.take n (List.drop o l)) w) : Int)),
      EI .i64 (IntKind.wrap IntKind.i64 (List.getD (List.take c (List.take c (List.drop p h)) ++ List.take n (List.drop o l)) (w + 1) 0)) (List.getD (List.take c (List.take c (List.drop p h)) ++ List.take n (List.drop o l)) (w + 1) 0),
      (w + (1 : Nat) + (1 : Nat) ≤ List.length (List.take c (List.take c (List.drop p h)) ++ List.take n (List.drop o l))),
      ((0 : Int) ≤ (↑(w + (1 : Nat)) : Int) ∧ (↑(w + (1 : Nat)) : Int) < (↑(c + n) : Int)),
      EI .i64 (IntKind.wrap IntKind.i64 ((↑w : Int) + 1)) ((↑(w + 1) : Int)),
      EI .i64 (IntKind.wrap IntKind.i64 (256 * List.getD (List.take c (List.take c (List.drop p h)) ++ List.take n (List.drop o l)) w 0)) (256 * List.getD (List.take c (List.take c (List.drop p h)) ++ List.take n (List.drop o l)) w 0),
      EI .i64 (IntKind.wrap IntKind.i64 (List.getD (List.take c (List.take c (List.drop p h)) ++ List.take n (List.drop o l)) w 0)) (List.getD (List.take c (List.take c (List.drop p h)) ++ List.take n (List.drop o l)) w 0),
      (w + (1 : Nat) ≤ List.length (List.take c (List.take c (List.drop p h)) ++ List.take n (List.drop o l))),
      ((0 : Int) ≤ (↑w : Int) ∧ (↑w : Int) < (↑(c + n) : Int)),
      EB (decide ((↑(c + n - w) : Int) ≥ 2)) true,
      EI .i64 (IntKind.wrap IntKind.i64 ((↑(c + n) : Int) - (↑w : Int))) ((↑(c + n - w) : Int))])
    mixed (by kernel_rfl) ⟨.mk (decide_eq_true h4), .mk (by simp only [addO_eq, mulE_eq, mulE_one, Int.toNat_natCast, IntKind.wrap_i64, mmin, mmax]; omega), .mk (by simp only [addO_eq, mulE_eq, mulE_one, Int.toNat_natCast, IntKind.wrap_i64, mmin, mmax]; omega), .mk (decide_eq_false h3), .mk (beq_f h2), .mk (by simp only [addO_eq, mulE_eq, mulE_one, Int.toNat_natCast, IntKind.wrap_i64, mmin, mmax]; omega), .mk (by simp only [addO_eq, mulE_eq, mulE_one, Int.toNat_natCast, IntKind.wrap_i64, mmin, mmax]; omega), (by simp only [and_true, List.length_set, List.length_append, List.length_replicate, List.length_take, List.length_drop, List.length_map, List.length_cons, List.length_nil, List.length_zipWith, splice_len1, W.le_len, W.bts_len, Int.toNat_natCast, addO_eq, mulE_eq, mulE_one, W.once_len, W.block_len, W.p8_len, W.apply_len, W.boxTag_len, W.box_len, W.nonce_len, W.hand_len, W.tag_len, W.padd_len, W.frm_len]; omega), (by omega), .mk (by simp only [addO_eq, mulE_eq, mulE_one, Int.toNat_natCast, IntKind.wrap_i64, mmin, mmax]; omega), .mk (by simp only [addO_eq, mulE_eq, mulE_one, Int.toNat_natCast, IntKind.wrap_i64, mmin, mmax]; omega), .mk (by simp only [addO_eq, mulE_eq, mulE_one, Int.toNat_natCast, IntKind.wrap_i64, mmin, mmax]; omega), (by simp only [and_true, List.length_set, List.length_append, List.length_replicate, List.length_take, List.length_drop, List.length_map, List.length_cons, List.length_nil, List.length_zipWith, splice_len1, W.le_len, W.bts_len, Int.toNat_natCast, addO_eq, mulE_eq, mulE_one, W.once_len, W.block_len, W.p8_len, W.apply_len, W.boxTag_len, W.box_len, W.nonce_len, W.hand_len, W.tag_len, W.padd_len, W.frm_len]; omega), (by omega), .mk (decide_eq_true h1), .mk (by simp only [addO_eq, mulE_eq, mulE_one, Int.toNat_natCast, IntKind.wrap_i64, mmin, mmax]; omega), trivial⟩
theorem LRf_rtfff (ex : Bool) (h l : List Int) (p c o n w : Nat)
    (hp : p + c ≤ h.length)
    (hl : o + n ≤ l.length)
    (hc : c ≤ 67108864)
    (hn : n ≤ 1006632960)
    (hhb : W.bytes h)
    (hlb : W.bytes l)
    (b0 : 0 ≤ List.getD (List.take c (List.take c (List.drop p h)) ++ List.take n (List.drop o l)) w 0 ∧ List.getD (List.take c (List.take c (List.drop p h)) ++ List.take n (List.drop o l)) w 0 < 256)
    (b1 : 0 ≤ List.getD (List.take c (List.take c (List.drop p h)) ++ List.take n (List.drop o l)) (w + 1) 0 ∧ List.getD (List.take c (List.take c (List.drop p h)) ++ List.take n (List.drop o l)) (w + 1) 0 < 256)
    (hm : 256 * List.getD (List.take c (List.take c (List.drop p h)) ++ List.take n (List.drop o l)) w 0 + List.getD (List.take c (List.take c (List.drop p h)) ++ List.take n (List.drop o l)) (w + 1) 0 = ((W.be2 (List.take c (List.take c (List.drop p h)) ++ List.take n (List.drop o l)) w : Nat) : Int))
    (hm2 : W.be2 (List.take c (List.take c (List.drop p h)) ++ List.take n (List.drop o l)) w < 65536)
    (hw : w ≤ c + n)
    (h1 : ((↑(c + n - w) : Int) ≥ (2 : Int)))
    (h2 : (¬(↑(W.be2 (List.take c (List.take c (List.drop p h)) ++ List.take n (List.drop o l)) w) : Int) = (0 : Int)))
    (h3 : (¬(↑(W.be2 (List.take c (List.take c (List.drop p h)) ++ List.take n (List.drop o l)) w) : Int) > (4096 : Int)))
    (h4 : (¬(↑(c + n - w) : Int) < (↑((2 : Nat) + W.be2 (List.take c (List.take c (List.drop p h)) ++ List.take n (List.drop o l)) w) : Int))) :
    CodeOk Try.prog 75 292 (kAt (kOf Try.prog Try.f43) [true, true, true, true, false, false, false]) (LRfI ex h l p c o n w) .normal (LRfI ex h l p c o n (w + 2 + W.be2 (List.take c (List.take c (List.drop p h)) ++ List.take n (List.drop o l)) w)) :=
  CodeOk.of_runs (fuel := 300) (v := ⟨[0, 4, 5], [1, 2, 3, 212], [], 292⟩) (hs := [(6, ⟨.auto, some (.c (.int .i64 (↑(c + n - w))))⟩), (7, ⟨.auto, some (.c (.bool (true)))⟩), (14, ⟨.ask, none⟩), (15, ⟨.ask, none⟩), (16, ⟨.auto, some (.c (.int .i64 (List.getD (List.take c (List.take c (List.drop p h)) ++ List.take n (List.drop o l)) w 0)))⟩), (17, ⟨.auto, some (.c (.int .i64 (256 * List.getD (List.take c (List.take c (List.drop p h)) ++ List.take n (List.drop o l)) w 0)))⟩), (23, ⟨.auto, some (.c (.int .i64 (↑(w + 1))))⟩), (24, ⟨.ask, none⟩), (25, ⟨.ask, none⟩), (26, ⟨.auto, some (.c (.int .i64 (List.getD (List.take c (List.take c (List.drop p h)) ++ List.take n (List.drop o l)) (w + 1) 0)))⟩), (27, ⟨.auto, some (.c (.int .i64 (↑(W.be2 (List.take c (List.take c (List.drop p h)) ++ List.take n (List.drop o l)) w))))⟩), (31, ⟨.auto, some (.c (.bool (false)))⟩), (34, ⟨.auto, some (.c (.bool (false)))⟩), (42, ⟨.auto, some (.c (.int .i64 (↑(c + n - w))))⟩), (44, ⟨.auto, some (.c (.int .i64 (↑(2 + W.be2 (List.take c (List.take c (List.drop p h)) ++ List.take n (List.drop o l)) w))))⟩), (45, ⟨.auto, some (.c (.bool (false)))⟩), (48, ⟨.auto, some (.c (.int .i64 (↑(w + 2))))⟩), (50, ⟨.auto, some (.c (.int .i64 (↑(w + 2 + W.be2 (List.take c (List.take c (List.drop p h)) ++ List.take n (List.drop o l)) w))))⟩)])
    (cs := [EI .i64 (IntKind.wrap IntKind.i64 ((↑(w + 2) : Int) + (↑(W.be2 (List.take c (List.take c (List.drop p h)) ++ List.take n (List.drop o l)) w) : Int))) ((↑(w + 2 + W.be2 (List.take c (List.take c (List.drop p h)) ++ List.take n (List.drop o l)) w) : Int)),
      EI .i64 (IntKind.wrap IntKind.i64 ((↑w : Int) + 2)) ((↑(w + 2) : Int)),
      EB (decide ((↑(c + n - w) : Int) < (↑(2 + W.be2 (List.take c (List.take c (List.drop p h)) ++ List.take n (List.drop o l)) w) : Int))) false,
      EI .i64 (IntKind.wrap IntKind.i64 (2 + (↑(W.be2 (List.take c (List.take c (List.drop p h)) ++ List.take n (List.drop o l)) w) : Int))) ((↑(2 + W.be2 (List.take c (List.take c (List.drop p h)) ++ List.take n (List.drop o l)) w) : Int)),
      EI .i64 (IntKind.wrap IntKind.i64 ((↑(c + n) : Int) - (↑w : Int))) ((↑(c + n - w) : Int)),
      EB (decide ((↑(W.be2 (List.take c (List.take c (List.drop p h)) ++ List.take n (List.drop o l)) w) : Int) > 4096)) false,
      EB ((↑(W.be2 (List.take c (List.take c (List.drop p h)) ++ List.take n (List.drop o l)) w) : Int) == 0) false,
      EI .i64 (IntKind.wrap IntKind.i64 (256 * List.getD (List.take c (List.take c (List.drop p h)) ++ List.take n (List.drop o l)) w 0 + List.getD (List.take c (List.take c (List.drop p h)) ++ List.take n (List.drop o l)) (w + 1) 0)) ((↑(W.be2 (List.take c (List.take c (List.drop p h)) ++ List.take n (List.drop o l)) w) : Int)),
      EI .i64 (IntKind.wrap IntKind.i64 (List.getD (List.take c (List.take c (List.drop p h)) ++ List.take n (List.drop o l)) (w + 1) 0)) (List.getD (List.take c (List.take c (List.drop p h)) ++ List.take n (List.drop o l)) (w + 1) 0),
      (w + (1 : Nat) + (1 : Nat) ≤ List.length (List.take c (List.take c (List.drop p h)) ++ List.take n (List.drop o l))),
      ((0 : Int) ≤ (↑(w + (1 : Nat)) : Int) ∧ (↑(w + (1 : Nat)) : Int) < (↑(c + n) : Int)),
      EI .i64 (IntKind.wrap IntKind.i64 ((↑w : Int) + 1)) ((↑(w + 1) : Int)),
      EI .i64 (IntKind.wrap IntKind.i64 (256 * List.getD (List.take c (List.take c (List.drop p h)) ++ List.take n (List.drop o l)) w 0)) (256 * List.getD (List.take c (List.take c (List.drop p h)) ++ List.take n (List.drop o l)) w 0),
      EI .i64 (IntKind.wrap IntKind.i64 (List.getD (List.take c (List.take c (List.drop p h)) ++ List.take n (List.drop o l)) w 0)) (List.getD (List.take c (List.take c (List.drop p h)) ++ List.take n (List.drop o l)) w 0),
      (w + (1 : Nat) ≤ List.length (List.take c (List.take c (List.drop p h)) ++ List.take n (List.drop o l))),
      ((0 : Int) ≤ (↑w : Int) ∧ (↑w : Int) < (↑(c + n) : Int)),
      EB (decide ((↑(c + n - w) : Int) ≥ 2)) true,
      EI .i64 (IntKind.wrap IntKind.i64 ((↑(c + n) : Int) - (↑w : Int))) ((↑(c + n - w) : Int))])
    mixed (by kernel_rfl) ⟨.mk (by simp only [addO_eq, mulE_eq, mulE_one, Int.toNat_natCast, IntKind.wrap_i64, mmin, mmax]; omega), .mk (by simp only [addO_eq, mulE_eq, mulE_one, Int.toNat_natCast, IntKind.wrap_i64, mmin, mmax]; omega), .mk (decide_eq_false h4), .mk (by simp only [addO_eq, mulE_eq, mulE_one, Int.toNat_natCast, IntKind.wrap_i64, mmin, mmax]; omega), .mk (by simp only [addO_eq, mulE_eq, mulE_one, Int.toNat_natCast, IntKind.wrap_i64, mmin, mmax]; omega), .mk (decide_eq_false h3), .mk (beq_f h2), .mk (by simp only [addO_eq, mulE_eq, mulE_one, Int.toNat_natCast, IntKind.wrap_i64, mmin, mmax]; omega), .mk (by simp only [addO_eq, mulE_eq, mulE_one, Int.toNat_natCast, IntKind.wrap_i64, mmin, mmax]; omega), (by simp only [and_true, List.length_set, List.length_append, List.length_replicate, List.length_take, List.length_drop, List.length_map, List.length_cons, List.length_nil, List.length_zipWith, splice_len1, W.le_len, W.bts_len, Int.toNat_natCast, addO_eq, mulE_eq, mulE_one, W.once_len, W.block_len, W.p8_len, W.apply_len, W.boxTag_len, W.box_len, W.nonce_len, W.hand_len, W.tag_len, W.padd_len, W.frm_len]; omega), (by omega), .mk (by simp only [addO_eq, mulE_eq, mulE_one, Int.toNat_natCast, IntKind.wrap_i64, mmin, mmax]; omega), .mk (by simp only [addO_eq, mulE_eq, mulE_one, Int.toNat_natCast, IntKind.wrap_i64, mmin, mmax]; omega), .mk (by simp only [addO_eq, mulE_eq, mulE_one, Int.toNat_natCast, IntKind.wrap_i64, mmin, mmax]; omega), (by simp only [and_true, List.length_set, List.length_append, List.length_replicate, List.length_take, List.length_drop, List.length_map, List.length_cons, List.length_nil, List.length_zipWith, splice_len1, W.le_len, W.bts_len, Int.toNat_natCast, addO_eq, mulE_eq, mulE_one, W.once_len, W.block_len, W.p8_len, W.apply_len, W.boxTag_len, W.box_len, W.nonce_len, W.hand_len, W.tag_len, W.padd_len, W.frm_len]; omega), (by omega), .mk (decide_eq_true h1), .mk (by simp only [addO_eq, mulE_eq, mulE_one, Int.toNat_natCast, IntKind.wrap_i64, mmin, mmax]; omega), trivial⟩
theorem LRf_xf (ex : Bool) (h l : List Int) (p c o n w : Nat)
    (hp : p + c ≤ h.length)
    (hl : o + n ≤ l.length)
    (hc : c ≤ 67108864)
    (hn : n ≤ 1006632960)
    (hhb : W.bytes h)
    (hlb : W.bytes l)
    (b0 : 0 ≤ List.getD (List.take c (List.take c (List.drop p h)) ++ List.take n (List.drop o l)) w 0 ∧ List.getD (List.take c (List.take c (List.drop p h)) ++ List.take n (List.drop o l)) w 0 < 256)
    (b1 : 0 ≤ List.getD (List.take c (List.take c (List.drop p h)) ++ List.take n (List.drop o l)) (w + 1) 0 ∧ List.getD (List.take c (List.take c (List.drop p h)) ++ List.take n (List.drop o l)) (w + 1) 0 < 256)
    (hm : 256 * List.getD (List.take c (List.take c (List.drop p h)) ++ List.take n (List.drop o l)) w 0 + List.getD (List.take c (List.take c (List.drop p h)) ++ List.take n (List.drop o l)) (w + 1) 0 = ((W.be2 (List.take c (List.take c (List.drop p h)) ++ List.take n (List.drop o l)) w : Nat) : Int))
    (hm2 : W.be2 (List.take c (List.take c (List.drop p h)) ++ List.take n (List.drop o l)) w < 65536)
    (hw : w ≤ c + n)
    (h1 : (¬(↑(c + n - w) : Int) ≥ (2 : Int))) :
    CodeOk Try.prog 75 292 (kAt (kOf Try.prog Try.f43) [true, true, true, true, false, false, false]) (LRfI ex h l p c o n w) (.exit 0) (LRfI ex h l p c o n w) :=
  CodeOk.of_runs (fuel := 300) (v := ⟨[0, 4, 5], [1, 2, 3, 212], [], 292⟩) (hs := [(6, ⟨.auto, some (.c (.int .i64 (↑(c + n - w))))⟩), (7, ⟨.auto, some (.c (.bool (false)))⟩)])
    (cs := [EB (decide ((↑(c + n - w) : Int) ≥ 2)) false,
      EI .i64 (IntKind.wrap IntKind.i64 ((↑(c + n) : Int) - (↑w : Int))) ((↑(c + n - w) : Int))])
    mixed (by kernel_rfl) ⟨.mk (decide_eq_false h1), .mk (by simp only [addO_eq, mulE_eq, mulE_one, Int.toNat_natCast, IntKind.wrap_i64, mmin, mmax]; omega), trivial⟩

theorem rnextB (ex : Bool) :
    Contract0 Try.prog 46 [(.c (.ptr 1 0 0))] [(1, (.one ⟨true, ex, (.cells [.nils, (.bool (true))])⟩))] 2 (.tup [(.c .nils), (.c (.bool (false)))]) [] [(1, (.one ⟨true, ex, (.cells [.nils, (.bool (true))])⟩))] :=
  Contract0.renum (Contract0.of_frun (res := (.tup [(.c .nils), (.c (.bool (false)))])) (up := [(1, (.one ⟨true, ex, (.cells [.nils, (.bool (true))])⟩))]) (kill := []) (n0 := 2) (m := [(1, (.one ⟨true, ex, (.cells [.nils, (.bool (true))])⟩))]) (args := [(.c (.ptr 1 0 0))]) (fn := Try.f46) (c := bodyOf Try.f46) (fuel := 300) (k := kOf Try.prog Try.f46) (outs := [1]) (hs := [])
    (cs := [])
    mixed Try.func46 (by kernel_rfl) (by kernel_rfl) (by kernel_rfl) (by kernel_rfl) (by kernel_rfl) trivial) [.b 1 1 false] [] [] [] (by kernel_rfl) (by kernel_rfl) (by kernel_rfl) (by kernel_rfl) (by kernel_rfl)


theorem rnextS (ex : Bool) (h : List Int) (p c : Nat)
    (b0 : 0 ≤ List.getD h p 0 ∧ List.getD h p 0 < 256)
    (b1 : 0 ≤ List.getD h (p + 1) 0 ∧ List.getD h (p + 1) 0 < 256)
    (hm : W.be2 h p < 65536)
    (hm2 : 256 * List.getD h p 0 + List.getD h (p + 1) 0 = ((W.be2 h p : Nat) : Int))
    (hp : p + c ≤ h.length)
    (hc : c ≤ 1073741824)
    (hh : W.bytes h)
    (h2 : c < 2) :
    Contract0 Try.prog 46 [(.c (.ptr 1 0 0))] [(1, (.one ⟨true, ex, (.cells [(.sl 2 0 p c 1), (.bool (false))])⟩)), (2, (.one ⟨true, false, (.ints .u8 h)⟩))] 3 (.tup [(.c .nils), (.c (.bool (false)))]) [] [(1, (.one ⟨true, ex, (.cells [(.sl 2 0 p c 1), (.bool (false))])⟩)), (2, (.one ⟨true, false, (.ints .u8 h)⟩))] :=
  Contract0.renum (Contract0.of_frun (res := (.tup [(.c .nils), (.c (.bool (false)))])) (up := [(1, (.one ⟨true, ex, (.cells [(.sl 2 0 p c 1), (.bool (false))])⟩)), (2, (.one ⟨true, false, (.ints .u8 h)⟩))]) (kill := []) (n0 := 3) (m := [(1, (.one ⟨true, ex, (.cells [(.sl 2 0 p c 1), (.bool (false))])⟩)), (2, (.one ⟨true, false, (.ints .u8 h)⟩))]) (args := [(.c (.ptr 1 0 0))]) (fn := Try.f46) (c := bodyOf Try.f46) (fuel := 300) (k := kOf Try.prog Try.f46) (outs := [1, 2]) (hs := [(12, ⟨.auto, some (.c (.bool (true)))⟩)])
    (cs := [EB (decide ((↑c : Int) < 2)) true])
    mixed Try.func46 (by kernel_rfl) (by kernel_rfl) (by kernel_rfl) (by kernel_rfl) (by kernel_rfl) ⟨.mk (decide_eq_true (by omega)), trivial⟩) [.b 1 1 false, .b 2 2 false] [] [] [] (by kernel_rfl) (by kernel_rfl) (by kernel_rfl) (by kernel_rfl) (by kernel_rfl)


theorem rnextW (ex : Bool) (h : List Int) (p c : Nat)
    (b0 : 0 ≤ List.getD h p 0 ∧ List.getD h p 0 < 256)
    (b1 : 0 ≤ List.getD h (p + 1) 0 ∧ List.getD h (p + 1) 0 < 256)
    (hm : W.be2 h p < 65536)
    (hm2 : 256 * List.getD h p 0 + List.getD h (p + 1) 0 = ((W.be2 h p : Nat) : Int))
    (hp : p + c ≤ h.length)
    (hc : c ≤ 1073741824)
    (hh : W.bytes h)
    (h2 : 2 ≤ c)
    (h3 : c < 2 + W.be2 h p) :
    Contract0 Try.prog 46 [(.c (.ptr 1 0 0))] [(1, (.one ⟨true, ex, (.cells [(.sl 2 0 p c 1), (.bool (false))])⟩)), (2, (.one ⟨true, false, (.ints .u8 h)⟩))] 3 (.tup [(.c .nils), (.c (.bool (false)))]) [] [(1, (.one ⟨true, ex, (.cells [(.sl 2 0 p c 1), (.bool (false))])⟩)), (2, (.one ⟨true, false, (.ints .u8 h)⟩))] :=
  Contract0.renum (Contract0.of_frun (res := (.tup [(.c .nils), (.c (.bool (false)))])) (up := [(1, (.one ⟨true, ex, (.cells [(.sl 2 0 p c 1), (.bool (false))])⟩)), (2, (.one ⟨true, false, (.ints .u8 h)⟩))]) (kill := []) (n0 := 3) (m := [(1, (.one ⟨true, ex, (.cells [(.sl 2 0 p c 1), (.bool (false))])⟩)), (2, (.one ⟨true, false, (.ints .u8 h)⟩))]) (args := [(.c (.ptr 1 0 0))]) (fn := Try.f46) (c := bodyOf Try.f46) (fuel := 300) (k := kOf Try.prog Try.f46) (outs := [1, 2]) (hs := [(12, ⟨.auto, some (.c (.bool (false)))⟩), (19, ⟨.ask, some (.c (.ptr 2 0 p))⟩), (20, ⟨.ask, none⟩), (21, ⟨.auto, some (.c (.int .i64 (List.getD h p 0)))⟩), (22, ⟨.auto, some (.c (.int .i64 (256 * List.getD h p 0)))⟩), (27, ⟨.ask, some (.c (.ptr 2 0 (p + 1)))⟩), (28, ⟨.ask, none⟩), (29, ⟨.auto, some (.c (.int .i64 (List.getD h (p + 1) 0)))⟩), (30, ⟨.auto, some (.c (.int .i64 (↑(W.be2 h p))))⟩), (38, ⟨.auto, some (.c (.int .i64 (↑(2 + W.be2 h p))))⟩), (39, ⟨.auto, some (.c (.bool (true)))⟩)])
    (cs := [EB (decide ((↑c : Int) < (↑(2 + W.be2 h p) : Int))) true,
      EI .i64 (IntKind.wrap IntKind.i64 (2 + (↑(W.be2 h p) : Int))) ((↑(2 + W.be2 h p) : Int)),
      EI .i64 (IntKind.wrap IntKind.i64 (256 * List.getD h p 0 + List.getD h (p + 1) 0)) ((↑(W.be2 h p) : Int)),
      EI .i64 (IntKind.wrap IntKind.i64 (List.getD h (p + 1) 0)) (List.getD h (p + 1) 0),
      (p + (1 : Nat) + (1 : Nat) ≤ List.length h),
      ((.c (.ptr 2 0 (addO p 1))) : V) = (.c (.ptr 2 0 (p + 1))),
      ((0 : Int) ≤ (1 : Int) ∧ (1 : Int) < (↑c : Int)),
      EI .i64 (IntKind.wrap IntKind.i64 (256 * List.getD h p 0)) (256 * List.getD h p 0),
      EI .i64 (IntKind.wrap IntKind.i64 (List.getD h p 0)) (List.getD h p 0),
      (p + (1 : Nat) ≤ List.length h),
      ((.c (.ptr 2 0 (addO p 0))) : V) = (.c (.ptr 2 0 p)),
      ((0 : Int) ≤ (0 : Int) ∧ (0 : Int) < (↑c : Int)),
      EB (decide ((↑c : Int) < 2)) false])
    mixed Try.func46 (by kernel_rfl) (by kernel_rfl) (by kernel_rfl) (by kernel_rfl) (by kernel_rfl) ⟨.mk (decide_eq_true (by omega)), .mk (by simp only [addO_eq, mulE_eq, mulE_one, Int.toNat_natCast, IntKind.wrap_i64, mmin, mmax]; omega), .mk (by simp only [addO_eq, mulE_eq, mulE_one, Int.toNat_natCast, IntKind.wrap_i64, mmin, mmax]; omega), .mk (by simp only [addO_eq, mulE_eq, mulE_one, Int.toNat_natCast, IntKind.wrap_i64, mmin, mmax]; omega), (by omega), EV.ptr (by simp only [addO_eq, mulE_eq, mulE_one, Int.toNat_natCast, IntKind.wrap_i64, mmin, mmax]), (by omega), .mk (by simp only [addO_eq, mulE_eq, mulE_one, Int.toNat_natCast, IntKind.wrap_i64, mmin, mmax]; omega), .mk (by simp only [addO_eq, mulE_eq, mulE_one, Int.toNat_natCast, IntKind.wrap_i64, mmin, mmax]; omega), (by omega), EV.ptr (by simp only [addO_eq, mulE_eq, mulE_one, Int.toNat_natCast, IntKind.wrap_i64, mmin, mmax]; omega), (by omega), .mk (decide_eq_false (by omega)), trivial⟩) [.b 1 1 false, .b 2 2 false] [] [] [] (by kernel_rfl) (by kernel_rfl) (by kernel_rfl) (by kernel_rfl) (by kernel_rfl)


theorem rnextY (ex : Bool) (h : List Int) (p c : Nat)
    (b0 : 0 ≤ List.getD h p 0 ∧ List.getD h p 0 < 256)
    (b1 : 0 ≤ List.getD h (p + 1) 0 ∧ List.getD h (p + 1) 0 < 256)
    (hm : W.be2 h p < 65536)
    (hm2 : 256 * List.getD h p 0 + List.getD h (p + 1) 0 = ((W.be2 h p : Nat) : Int))
    (hp : p + c ≤ h.length)
    (hc : c ≤ 1073741824)
    (hh : W.bytes h)
    (h2 : 2 ≤ c)
    (h3 : 2 + W.be2 h p ≤ c) :
    Contract0 Try.prog 46 [(.c (.ptr 1 0 0))] [(1, (.one ⟨true, ex, (.cells [(.sl 2 0 p c 1), (.bool (false))])⟩)), (2, (.one ⟨true, false, (.ints .u8 h)⟩))] 3 (.tup [(.c (.sl 2 0 (p + 2) (W.be2 h p) 1)), (.c (.bool (true)))]) [] [(1, (.one ⟨true, ex, (.cells [(.sl 2 0 (p + (2 + W.be2 h p)) (c - (2 + W.be2 h p)) 1), (.bool (false))])⟩)), (2, (.one ⟨true, false, (.ints .u8 h)⟩))] :=
  Contract0.renum (Contract0.of_frun (res := (.tup [(.c (.sl 2 0 (p + 2) (W.be2 h p) 1)), (.c (.bool (true)))])) (up := [(1, (.one ⟨true, ex, (.cells [(.sl 2 0 (p + (2 + W.be2 h p)) (c - (2 + W.be2 h p)) 1), (.bool (false))])⟩)), (2, (.one ⟨true, false, (.ints .u8 h)⟩))]) (kill := []) (n0 := 3) (m := [(1, (.one ⟨true, ex, (.cells [(.sl 2 0 p c 1), (.bool (false))])⟩)), (2, (.one ⟨true, false, (.ints .u8 h)⟩))]) (args := [(.c (.ptr 1 0 0))]) (fn := Try.f46) (c := bodyOf Try.f46) (fuel := 300) (k := kOf Try.prog Try.f46) (outs := [1, 2]) (hs := [(12, ⟨.auto, some (.c (.bool (false)))⟩), (19, ⟨.ask, some (.c (.ptr 2 0 p))⟩), (20, ⟨.ask, none⟩), (21, ⟨.auto, some (.c (.int .i64 (List.getD h p 0)))⟩), (22, ⟨.auto, some (.c (.int .i64 (256 * List.getD h p 0)))⟩), (27, ⟨.ask, some (.c (.ptr 2 0 (p + 1)))⟩), (28, ⟨.ask, none⟩), (29, ⟨.auto, some (.c (.int .i64 (List.getD h (p + 1) 0)))⟩), (30, ⟨.auto, some (.c (.int .i64 (↑(W.be2 h p))))⟩), (38, ⟨.auto, some (.c (.int .i64 (↑(2 + W.be2 h p))))⟩), (39, ⟨.auto, some (.c (.bool (false)))⟩), (46, ⟨.auto, some (.c (.int .i64 (↑(2 + W.be2 h p))))⟩), (47, ⟨.ask, some (.c (.sl 2 0 (p + 2) (W.be2 h p) 1))⟩), (55, ⟨.auto, some (.c (.int .i64 (↑(2 + W.be2 h p))))⟩), (56, ⟨.ask, some (.c (.sl 2 0 (p + (2 + W.be2 h p)) (c - (2 + W.be2 h p)) 1))⟩)])
    (cs := [((.c (.sl 2 0 (addO p (2 + W.be2 h p)) (Int.toNat (↑c - ↑(2 + W.be2 h p))) 1)) : V) = (.c (.sl 2 0 (p + (2 + W.be2 h p)) (c - (2 + W.be2 h p)) 1)),
      ((0 : Int) ≤ (↑((2 : Nat) + W.be2 h p) : Int) ∧ (↑((2 : Nat) + W.be2 h p) : Int) ≤ (↑c : Int) ∧ (↑c : Int) ≤ (↑c : Int)),
      EI .i64 (IntKind.wrap IntKind.i64 (2 + (↑(W.be2 h p) : Int))) ((↑(2 + W.be2 h p) : Int)),
      ((.c (.sl 2 0 (addO p 2) (Int.toNat (↑(2 + W.be2 h p) - 2)) 1)) : V) = (.c (.sl 2 0 (p + 2) (W.be2 h p) 1)),
      ((0 : Int) ≤ (2 : Int) ∧ (2 : Int) ≤ (↑((2 : Nat) + W.be2 h p) : Int) ∧ (↑((2 : Nat) + W.be2 h p) : Int) ≤ (↑c : Int)),
      EI .i64 (IntKind.wrap IntKind.i64 (2 + (↑(W.be2 h p) : Int))) ((↑(2 + W.be2 h p) : Int)),
      EB (decide ((↑c : Int) < (↑(2 + W.be2 h p) : Int))) false,
      EI .i64 (IntKind.wrap IntKind.i64 (2 + (↑(W.be2 h p) : Int))) ((↑(2 + W.be2 h p) : Int)),
      EI .i64 (IntKind.wrap IntKind.i64 (256 * List.getD h p 0 + List.getD h (p + 1) 0)) ((↑(W.be2 h p) : Int)),
      EI .i64 (IntKind.wrap IntKind.i64 (List.getD h (p + 1) 0)) (List.getD h (p + 1) 0),
      (p + (1 : Nat) + (1 : Nat) ≤ List.length h),
      ((.c (.ptr 2 0 (addO p 1))) : V) = (.c (.ptr 2 0 (p + 1))),
      ((0 : Int) ≤ (1 : Int) ∧ (1 : Int) < (↑c : Int)),
      EI .i64 (IntKind.wrap IntKind.i64 (256 * List.getD h p 0)) (256 * List.getD h p 0),
      EI .i64 (IntKind.wrap IntKind.i64 (List.getD h p 0)) (List.getD h p 0),
      (p + (1 : Nat) ≤ List.length h),
      ((.c (.ptr 2 0 (addO p 0))) : V) = (.c (.ptr 2 0 p)),
      ((0 : Int) ≤ (0 : Int) ∧ (0 : Int) < (↑c : Int)),
      EB (decide ((↑c : Int) < 2)) false])
    mixed Try.func46 (by kernel_rfl) (by kernel_rfl) (by kernel_rfl) (by kernel_rfl) (by kernel_rfl) ⟨EV.sl (by simp only [addO_eq, mulE_eq, mulE_one, Int.toNat_natCast, IntKind.wrap_i64, mmin, mmax]) (by omega), (by omega), .mk (by simp only [addO_eq, mulE_eq, mulE_one, Int.toNat_natCast, IntKind.wrap_i64, mmin, mmax]; omega), EV.sl (by simp only [addO_eq, mulE_eq, mulE_one, Int.toNat_natCast, IntKind.wrap_i64, mmin, mmax]) (by omega), (by omega), .mk (by simp only [addO_eq, mulE_eq, mulE_one, Int.toNat_natCast, IntKind.wrap_i64, mmin, mmax]; omega), .mk (decide_eq_false (by omega)), .mk (by simp only [addO_eq, mulE_eq, mulE_one, Int.toNat_natCast, IntKind.wrap_i64, mmin, mmax]; omega), .mk (by simp only [addO_eq, mulE_eq, mulE_one, Int.toNat_natCast, IntKind.wrap_i64, mmin, mmax]; omega), .mk (by simp only [addO_eq, mulE_eq, mulE_one, Int.toNat_natCast, IntKind.wrap_i64, mmin, mmax]; omega), (by omega), EV.ptr (by simp only [addO_eq, mulE_eq, mulE_one, Int.toNat_natCast, IntKind.wrap_i64, mmin, mmax]), (by omega), .mk (by simp only [addO_eq, mulE_eq, mulE_one, Int.toNat_natCast, IntKind.wrap_i64, mmin, mmax]; omega), .mk (by simp only [addO_eq, mulE_eq, mulE_one, Int.toNat_natCast, IntKind.wrap_i64, mmin, mmax]; omega), (by omega), EV.ptr (by simp only [addO_eq, mulE_eq, mulE_one, Int.toNat_natCast, IntKind.wrap_i64, mmin, mmax]; omega), (by omega), .mk (decide_eq_false (by omega)), trivial⟩) [.b 1 1 false, .b 2 2 false] [] [] [] (by kernel_rfl) (by kernel_rfl) (by kernel_rfl) (by kernel_rfl) (by kernel_rfl)


end Go.Proofs.Ytmfnldkiaodkpaa.Vm

namespace Go.Proofs.Ytmfnldkiaodkpaa.Vm
open Go Go.Proofs Go.Proofs.Ytmfnldkiaodkpaa
theorem be2_sum {l : List Int} {o : Nat} (h0 : 0 ≤ List.getD l o 0 ∧ List.getD l o 0 < 256) (h1 : 0 ≤ List.getD l (o + 1) 0 ∧ List.getD l (o + 1) 0 < 256) :
    256 * List.getD l o 0 + List.getD l (o + 1) 0 = ((W.be2 l o : Nat) : Int) := by
  unfold W.be2; omega
def LRfN (ex : Bool) (h l : List Int) (p c o n a : Nat) : S0 :=
  ⟨[(0, (.c (.ptr 1 0 0))), (4, (.c (.int .i64 6))), (5, (.c (.int .i64 (↑a))))], [(1, (.one ⟨true, ex, (.cells [.nils, (.bool (true))])⟩)), (2, (.one ⟨false, false, (.ints .u8 h)⟩)), (3, (.one ⟨false, false, (.ints .u8 l)⟩)), (212, (.one ⟨true, false, (.ints .u8 (List.take c (List.take c (List.drop p h)) ++ List.take n (List.drop o l)))⟩))], 292⟩
theorem rfeed_loopY (ex : Bool) (h l : List Int) (p c o n : Nat) (hp : p + c ≤ h.length) (hl : o + n ≤ l.length) (hc : c ≤ 67108864) (hn : n ≤ 1006632960) (hhb : W.bytes h) (hlb : W.bytes l) (hb : W.scanB (List.take c (List.drop p h) ++ List.take n (List.drop o l)) (c + n) = false) :
    CodeOk Try.prog 75 292 (kAt (kOf Try.prog Try.f43) [true, true, true, true, false, false]) (LRf0 ex h l p c o n) (.exit 0) (LRfI ex h l p c o n (W.scanP (List.take c (List.drop p h) ++ List.take n (List.drop o l)) (c + n))) := by
  have eR : List.take c (List.take c (List.drop p h)) ++ List.take n (List.drop o l) = List.take c (List.drop p h) ++ List.take n (List.drop o l) := by rw [List.take_take, Nat.min_self]
  obtain ⟨R, hR⟩ : ∃ R, R = List.take c (List.take c (List.drop p h)) ++ List.take n (List.drop o l) := ⟨_, rfl⟩
  have hlen : R.length = c + n := by rw [hR, eR, List.length_append, seg_len hp, seg_len hl]
  have hbR : W.bytes R := by rw [hR, eR]; exact W.bytes_app (W.bytes_take (W.bytes_drop hhb)) (W.bytes_take (W.bytes_drop hlb))
  unfold W.scanB at hb
  unfold W.scanP
  rw [W.scanR_eq, ← eR, ← hR] at hb ⊢
  refine LRf_by (fun x : Nat × Nat => LRfI ex h l p c o n x.2) (fun x => x.2 ≤ c + n ∧ c + n - x.2 ≤ x.1 ∧ W.scan R x.1 x.2 (c + n - x.2) = W.scan R (c + n) 0 (c + n)) (fun x => c + n - x.2) (by simp) ?_ (c + n, 0) ⟨by simp, by simp, by simp⟩
  rintro ⟨f, a⟩ ⟨h1, h2, h3⟩
  dsimp only at h1 h2 h3 ⊢
  have g0 := getD_byte hbR a
  have g1 := getD_byte hbR (a + 1)
  have gm := be2_sum g0 g1
  have gm2 := be2_lt g0 g1
  by_cases h4 : c + n - a < 2
  · right
    have e : W.scan R f a (c + n - a) = (false, a, c + n - a) := by
      cases f with
      | zero => rfl
      | succ f => rw [W.scan, if_pos h4]
    rw [← h3, e]
    rw [hR] at g0 g1 gm gm2
    exact LRf_xf ex h l p c o n a hp hl hc (by omega) hhb hlb g0 g1 gm gm2 h1 (by omega)
  · cases f with
    | zero => omega
    | succ f =>
      by_cases h5 : W.be2 R a = 0 ∨ 4096 < W.be2 R a
      · exfalso
        have e : W.scan R (f + 1) a (c + n - a) = (true, a, c + n - a) := by rw [W.scan, if_neg h4, if_pos h5]
        rw [← h3, e] at hb
        cases hb
      · by_cases h7 : c + n - a < 2 + W.be2 R a
        · right
          have e : W.scan R (f + 1) a (c + n - a) = (false, a, c + n - a) := by rw [W.scan, if_neg h4, if_neg h5, if_pos h7]
          rw [← h3, e]
          rw [hR] at g0 g1 gm gm2 h5 h7
          exact LRf_xtfft ex h l p c o n a hp hl hc (by omega) hhb hlb g0 g1 gm gm2 h1 (by omega) (by omega) (by omega) (by omega)
        · left
          refine ⟨(f, a + 2 + W.be2 R a), ⟨by dsimp only; omega, by dsimp only; omega, ?_⟩, by dsimp only; omega, ?_⟩
          · dsimp only
            rw [← h3, W.scan, if_neg h4, if_neg h5, if_neg h7]
            congr 1 <;> omega
          · rw [hR] at g0 g1 gm gm2 h5 h7 ⊢
            exact LRf_rtfff ex h l p c o n a hp hl hc (by omega) hhb hlb g0 g1 gm gm2 h1 (by omega) (by omega) (by omega) (by omega)
theorem rfeed_loopN (ex : Bool) (h l : List Int) (p c o n : Nat) (hp : p + c ≤ h.length) (hl : o + n ≤ l.length) (hc : c ≤ 67108864) (hn : n ≤ 1006632960) (hhb : W.bytes h) (hlb : W.bytes l) (hb : W.scanB (List.take c (List.drop p h) ++ List.take n (List.drop o l)) (c + n) = true) :
    CodeOk Try.prog 75 292 (kAt (kOf Try.prog Try.f43) [true, true, true, true, false, false]) (LRf0 ex h l p c o n) .ret (LRfN ex h l p c o n (W.scanP (List.take c (List.drop p h) ++ List.take n (List.drop o l)) (c + n))) := by
  have eR : List.take c (List.take c (List.drop p h)) ++ List.take n (List.drop o l) = List.take c (List.drop p h) ++ List.take n (List.drop o l) := by rw [List.take_take, Nat.min_self]
  obtain ⟨R, hR⟩ : ∃ R, R = List.take c (List.take c (List.drop p h)) ++ List.take n (List.drop o l) := ⟨_, rfl⟩
  have hlen : R.length = c + n := by rw [hR, eR, List.length_append, seg_len hp, seg_len hl]
  have hbR : W.bytes R := by rw [hR, eR]; exact W.bytes_app (W.bytes_take (W.bytes_drop hhb)) (W.bytes_take (W.bytes_drop hlb))
  unfold W.scanB at hb
  unfold W.scanP
  rw [W.scanR_eq, ← eR, ← hR] at hb ⊢
  refine LRf_by (fun x : Nat × Nat => LRfI ex h l p c o n x.2) (fun x => x.2 ≤ c + n ∧ c + n - x.2 ≤ x.1 ∧ W.scan R x.1 x.2 (c + n - x.2) = W.scan R (c + n) 0 (c + n)) (fun x => c + n - x.2) (by simp) ?_ (c + n, 0) ⟨by simp, by simp, by simp⟩
  rintro ⟨f, a⟩ ⟨h1, h2, h3⟩
  dsimp only at h1 h2 h3 ⊢
  have g0 := getD_byte hbR a
  have g1 := getD_byte hbR (a + 1)
  have gm := be2_sum g0 g1
  have gm2 := be2_lt g0 g1
  by_cases h4 : c + n - a < 2
  · exfalso
    have e : W.scan R f a (c + n - a) = (false, a, c + n - a) := by
      cases f with
      | zero => rfl
      | succ f => rw [W.scan, if_pos h4]
    rw [← h3, e] at hb
    cases hb
  · cases f with
    | zero => omega
    | succ f =>
      by_cases h5 : W.be2 R a = 0 ∨ 4096 < W.be2 R a
      · right
        have e : W.scan R (f + 1) a (c + n - a) = (true, a, c + n - a) := by rw [W.scan, if_neg h4, if_pos h5]
        rw [← h3, e]
        rw [hR] at g0 g1 gm gm2 h5
        by_cases h6 : W.be2 (List.take c (List.take c (List.drop p h)) ++ List.take n (List.drop o l)) a = 0
        · exact LRf_xtt ex h l p c o n a hp hl hc (by omega) hhb hlb g0 g1 gm gm2 h1 (by omega) (by omega)
        · exact LRf_xtft ex h l p c o n a hp hl hc (by omega) hhb hlb g0 g1 gm gm2 h1 (by omega) (by omega) (by omega)
      · by_cases h7 : c + n - a < 2 + W.be2 R a
        · exfalso
          have e : W.scan R (f + 1) a (c + n - a) = (false, a, c + n - a) := by rw [W.scan, if_neg h4, if_neg h5, if_pos h7]
          rw [← h3, e] at hb
          cases hb
        · left
          refine ⟨(f, a + 2 + W.be2 R a), ⟨by dsimp only; omega, by dsimp only; omega, ?_⟩, by dsimp only; omega, ?_⟩
          · dsimp only
            rw [← h3, W.scan, if_neg h4, if_neg h5, if_neg h7]
            congr 1 <;> omega
          · rw [hR] at g0 g1 gm gm2 h5 h7 ⊢
            exact LRf_rtfff ex h l p c o n a hp hl hc (by omega) hhb hlb g0 g1 gm gm2 h1 (by omega) (by omega) (by omega) (by omega)
end Go.Proofs.Ytmfnldkiaodkpaa.Vm

namespace Go.Proofs.Ytmfnldkiaodkpaa.Vm
open Go Go.Proofs Go.Proofs.Ytmfnldkiaodkpaa
set_option maxRecDepth 100000
theorem rfeedRY (ex : Bool) (h l : List Int) (p c o n : Nat)
    (hp : p + c ≤ h.length)
    (hl : o + n ≤ l.length)
    (hc : c ≤ 67108864)
    (hn : n ≤ 1006632960)
    (hhb : W.bytes h)
    (hlb : W.bytes l)
    (hb : W.scanB (List.take c (List.drop p h) ++ List.take n (List.drop o l)) (c + n) = false) :
    Contract0 Try.prog 43 [(.c (.ptr 1 0 0)), (.c (.sl 3 0 o n 1))] [(1, (.one ⟨true, ex, (.cells [(.sl 2 0 p c 1), (.bool (false))])⟩)), (2, (.one ⟨false, false, (.ints .u8 h)⟩)), (3, (.one ⟨false, false, (.ints .u8 l)⟩))] 4 (.c (.int .i64 0)) [] [(1, (.one ⟨true, ex, (.cells [(.sl 4 0 0 (c + n) 1), (.bool (false))])⟩)), (4, (.one ⟨true, false, (.ints .u8 (List.take c (List.take c (List.drop p h)) ++ List.take n (List.drop o l)))⟩))] :=
  Contract0.renum (Contract0.of_frun (res := (.c (.int .i64 0))) (up := [(1, (.one ⟨true, ex, (.cells [(.sl 212 0 0 (c + n) 1), (.bool (false))])⟩)), (212, (.one ⟨true, false, (.ints .u8 (List.take c (List.take c (List.drop p h)) ++ List.take n (List.drop o l)))⟩))]) (kill := []) (n0 := 4) (m := [(1, (.one ⟨true, ex, (.cells [(.sl 2 0 p c 1), (.bool (false))])⟩)), (2, (.one ⟨false, false, (.ints .u8 h)⟩)), (3, (.one ⟨false, false, (.ints .u8 l)⟩))]) (args := [(.c (.ptr 1 0 0)), (.c (.sl 3 0 o n 1))]) (fn := Try.f43) (c := bodyOf Try.f43) (fuel := 300) (k := kOf Try.prog Try.f43) (outs := [1, 212]) (hs := [(12, ⟨.ask, none⟩), (14, ⟨.ask, some (.c (.sl 212 0 0 (c + n) 1))⟩), (19, ⟨.sum ⟨[0, 4, 5], [1, 2, 3, 212], [], 292⟩ (.exit 0) (LRfI ex h l p c o n (W.scanP (List.take c (List.drop p h) ++ List.take n (List.drop o l)) (c + n))), none⟩)])
    (cs := [CodeOk Try.prog 75 292 (kAt (kOf Try.prog Try.f43) [true, true, true, true, false, false]) (LRf0 ex h l p c o n) (.exit 0) (LRfI ex h l p c o n (W.scanP (List.take c (List.drop p h) ++ List.take n (List.drop o l)) (c + n))),
      ((.c (.sl 212 0 0 (addO c n) 1)) : V) = (.c (.sl 212 0 0 (c + n) 1)),
      (o + n * (1 : Nat) ≤ List.length l ∧ (2 : Nat) * (c + n) ≤ (4398046511104 : Nat) ∧ (0 : Nat) + c * (1 : Nat) ≤ List.length (List.take c (List.drop p h))),
      (p + c * (1 : Nat) ≤ List.length h ∧ (2 : Nat) * ((0 : Nat) + c) ≤ (4398046511104 : Nat) ∧ (0 : Nat) ≤ (0 : Nat))])
    mixed Try.func43 (by kernel_rfl) (by kernel_rfl) (by kernel_rfl) (by kernel_rfl) (by kernel_rfl) ⟨(rfeed_loopY ex h l p c o n (by omega) (by omega) (by omega) (by omega) (by omega) (by omega) (by omega)), EV.sl (by rfl) (by simp only [addO_eq, mulE_eq, mulE_one, Int.toNat_natCast, IntKind.wrap_i64, mmin, mmax]), (by simp only [and_true, List.length_set, List.length_append, List.length_replicate, List.length_take, List.length_drop, List.length_map, List.length_cons, List.length_nil, List.length_zipWith, splice_len1, W.le_len, W.bts_len, Int.toNat_natCast, addO_eq, mulE_eq, mulE_one, W.once_len, W.block_len, W.p8_len, W.apply_len, W.boxTag_len, W.box_len, W.nonce_len, W.hand_len, W.tag_len, W.padd_len, W.frm_len]; omega), (by omega), trivial⟩) [.b 1 1 false, .b 2 2 true, .b 3 3 true] [] [(212, 4)] [] (by kernel_rfl) (by kernel_rfl) (by kernel_rfl) (by kernel_rfl) (by kernel_rfl)


theorem rfeedRN (ex : Bool) (h l : List Int) (p c o n : Nat)
    (hp : p + c ≤ h.length)
    (hl : o + n ≤ l.length)
    (hc : c ≤ 67108864)
    (hn : n ≤ 1006632960)
    (hhb : W.bytes h)
    (hlb : W.bytes l)
    (hb : W.scanB (List.take c (List.drop p h) ++ List.take n (List.drop o l)) (c + n) = true) :
    Contract0 Try.prog 43 [(.c (.ptr 1 0 0)), (.c (.sl 3 0 o n 1))] [(1, (.one ⟨true, ex, (.cells [(.sl 2 0 p c 1), (.bool (false))])⟩)), (2, (.one ⟨false, false, (.ints .u8 h)⟩)), (3, (.one ⟨false, false, (.ints .u8 l)⟩))] 4 (.c (.int .i64 6)) [] [(1, (.one ⟨true, ex, (.cells [.nils, (.bool (true))])⟩))] :=
  Contract0.renum (Contract0.of_frun (res := (.c (.int .i64 6))) (up := [(1, (.one ⟨true, ex, (.cells [.nils, (.bool (true))])⟩))]) (kill := []) (n0 := 4) (m := [(1, (.one ⟨true, ex, (.cells [(.sl 2 0 p c 1), (.bool (false))])⟩)), (2, (.one ⟨false, false, (.ints .u8 h)⟩)), (3, (.one ⟨false, false, (.ints .u8 l)⟩))]) (args := [(.c (.ptr 1 0 0)), (.c (.sl 3 0 o n 1))]) (fn := Try.f43) (c := bodyOf Try.f43) (fuel := 300) (k := kOf Try.prog Try.f43) (outs := [1]) (hs := [(12, ⟨.ask, none⟩), (14, ⟨.ask, some (.c (.sl 212 0 0 (c + n) 1))⟩), (19, ⟨.sum ⟨[0, 4, 5], [1, 2, 3, 212], [], 292⟩ (.ret) (LRfN ex h l p c o n (W.scanP (List.take c (List.drop p h) ++ List.take n (List.drop o l)) (c + n))), none⟩)])
    (cs := [CodeOk Try.prog 75 292 (kAt (kOf Try.prog Try.f43) [true, true, true, true, false, false]) (LRf0 ex h l p c o n) (.ret) (LRfN ex h l p c o n (W.scanP (List.take c (List.drop p h) ++ List.take n (List.drop o l)) (c + n))),
      ((.c (.sl 212 0 0 (addO c n) 1)) : V) = (.c (.sl 212 0 0 (c + n) 1)),
      (o + n * (1 : Nat) ≤ List.length l ∧ (2 : Nat) * (c + n) ≤ (4398046511104 : Nat) ∧ (0 : Nat) + c * (1 : Nat) ≤ List.length (List.take c (List.drop p h))),
      (p + c * (1 : Nat) ≤ List.length h ∧ (2 : Nat) * ((0 : Nat) + c) ≤ (4398046511104 : Nat) ∧ (0 : Nat) ≤ (0 : Nat))])
    mixed Try.func43 (by kernel_rfl) (by kernel_rfl) (by kernel_rfl) (by kernel_rfl) (by kernel_rfl) ⟨(rfeed_loopN ex h l p c o n (by omega) (by omega) (by omega) (by omega) (by omega) (by omega) (by omega)), EV.sl (by rfl) (by simp only [addO_eq, mulE_eq, mulE_one, Int.toNat_natCast, IntKind.wrap_i64, mmin, mmax]), (by simp only [and_true, List.length_set, List.length_append, List.length_replicate, List.length_take, List.length_drop, List.length_map, List.length_cons, List.length_nil, List.length_zipWith, splice_len1, W.le_len, W.bts_len, Int.toNat_natCast, addO_eq, mulE_eq, mulE_one, W.once_len, W.block_len, W.p8_len, W.apply_len, W.boxTag_len, W.box_len, W.nonce_len, W.hand_len, W.tag_len, W.padd_len, W.frm_len]; omega), (by omega), trivial⟩) [.b 1 1 false, .b 2 2 true, .b 3 3 true] [] [] [] (by kernel_rfl) (by kernel_rfl) (by kernel_rfl) (by kernel_rfl) (by kernel_rfl)


end Go.Proofs.Ytmfnldkiaodkpaa.Vm

namespace Go.Proofs.Ytmfnldkiaodkpaa.Vm
open Go Go.Proofs Go.Proofs.Ytmfnldkiaodkpaa
theorem fraN (l : List Int) (o n : Nat) (h0_ : o + n ≤ l.length) (h1_ : n ≤ 1073741824) (h2_ : ¬ (1 ≤ n ∧ n ≤ 4096)) : Contract0 Try.prog 40 [(.c (.sl 1 0 o n 1))] [(1, (.one ⟨false, false, (.ints .u8 l)⟩))] 2 (.tup [(.c .nils), (.c (.int .i64 6))]) [] [] := by
  by_cases h : n = 0
  · exact frame_t l o n h0_ h1_ (by omega)
  · exact frame_ft l o n h0_ h1_ (by omega) (by omega)
theorem fraY (l : List Int) (o n : Nat) (h0_ : o + n ≤ l.length) (h1_ : n ≤ 1073741824) (h2_ : 1 ≤ n ∧ n ≤ 4096) : Contract0 Try.prog 40 [(.c (.sl 1 0 o n 1))] [(1, (.one ⟨false, false, (.ints .u8 l)⟩))] 2 (.tup [(.c (.sl 2 0 0 (2 + n) 1)), (.c (.int .i64 0))]) [] [(2, (.one ⟨true, false, (.ints .u8 (W.frm n (List.take n (List.drop o l))))⟩))] := frame_ok l o n h0_ (by omega) (by omega)
theorem rfraN (l : List Int) (o n : Nat) (h0_ : o + n ≤ l.length) (h1_ : n ≤ 1073741824) (h2_ : ¬ (1 ≤ n ∧ n ≤ 4096)) : Contract0 Try.prog 41 [(.c (.sl 1 0 o n 1))] [(1, (.one ⟨false, false, (.ints .u8 l)⟩))] 2 (.tup [(.c .nils), (.c (.int .i64 6))]) [] [] := by
  by_cases h : n = 0
  · exact rframe_t l o n h0_ h1_ (by omega)
  · exact rframe_ft l o n h0_ h1_ (by omega) (by omega)
theorem rfraY (l : List Int) (o n : Nat) (h0_ : o + n ≤ l.length) (h1_ : n ≤ 1073741824) (h2_ : 1 ≤ n ∧ n ≤ 4096) : Contract0 Try.prog 41 [(.c (.sl 1 0 o n 1))] [(1, (.one ⟨false, false, (.ints .u8 l)⟩))] 2 (.tup [(.c (.sl 2 0 0 (2 + n) 1)), (.c (.int .i64 0))]) [] [(2, (.one ⟨true, false, (.ints .u8 (W.frm n (List.take n (List.drop o l))))⟩))] := by
  have e := rframe_ff l o n h0_ h1_ (by omega) (by omega)
  have w : IntKind.wrap IntKind.i64 (Int.tdiv (n : Int) 256) % 256 = ((n / 256 : Nat) : Int) := by
    rw [Int.tdiv_eq_ediv_of_nonneg (by omega), EI.wrapI (by omega)]
    omega
  rw [w] at e
  exact e
theorem fedB (ex : Bool) (l : List Int) (o n : Nat)  : Contract0 Try.prog 42 [(.c (.ptr 1 0 0)), (.c (.sl 2 0 o n 1))] [(1, (.one ⟨true, ex, .cells [.nils, .bool true]⟩)), (2, (.one ⟨false, false, (.ints .u8 l)⟩))] 3 (.c (.int .i64 6)) [] [(1, (.one ⟨true, ex, .cells [.nils, .bool true]⟩))] := feedB ex l o n
theorem fedY (ex : Bool) (h l : List Int) (p c o n : Nat) (h0_ : p + c ≤ h.length) (h1_ : o + n ≤ l.length) (h2_ : c ≤ 67108864) (h3_ : n ≤ 1006632960) (h4_ : W.bytes h) (h5_ : W.bytes l) (h6_ : W.scanB (List.take c (List.drop p h) ++ List.take n (List.drop o l)) (c + n) = false) : Contract0 Try.prog 42 [(.c (.ptr 1 0 0)), (.c (.sl 3 0 o n 1))] [(1, (.one ⟨true, ex, .cells [.sl 2 0 p c 1, .bool false]⟩)), (2, (.one ⟨false, false, (.ints .u8 h)⟩)), (3, (.one ⟨false, false, (.ints .u8 l)⟩))] 4 (.c (.int .i64 0)) [] [(1, (.one ⟨true, ex, .cells [.sl 4 0 0 (c + n) 1, .bool false]⟩)), (4, (.one ⟨true, false, (.ints .u8 (List.take c (List.drop p h) ++ List.take n (List.drop o l)))⟩))] := feedY ex h l p c o n h0_ h1_ h2_ h3_ h4_ h5_ h6_
theorem fedN (ex : Bool) (h l : List Int) (p c o n : Nat) (h0_ : p + c ≤ h.length) (h1_ : o + n ≤ l.length) (h2_ : c ≤ 67108864) (h3_ : n ≤ 1006632960) (h4_ : W.bytes h) (h5_ : W.bytes l) (h6_ : W.scanB (List.take c (List.drop p h) ++ List.take n (List.drop o l)) (c + n) = true) : Contract0 Try.prog 42 [(.c (.ptr 1 0 0)), (.c (.sl 3 0 o n 1))] [(1, (.one ⟨true, ex, .cells [.sl 2 0 p c 1, .bool false]⟩)), (2, (.one ⟨false, false, (.ints .u8 h)⟩)), (3, (.one ⟨false, false, (.ints .u8 l)⟩))] 4 (.c (.int .i64 6)) [] [(1, (.one ⟨true, ex, .cells [.nils, .bool true]⟩))] := feedN ex h l p c o n h0_ h1_ h2_ h3_ h4_ h5_ h6_
theorem rfedB (ex : Bool) (l : List Int) (o n : Nat)  : Contract0 Try.prog 43 [(.c (.ptr 1 0 0)), (.c (.sl 2 0 o n 1))] [(1, (.one ⟨true, ex, .cells [.nils, .bool true]⟩)), (2, (.one ⟨false, false, (.ints .u8 l)⟩))] 3 (.c (.int .i64 6)) [] [(1, (.one ⟨true, ex, .cells [.nils, .bool true]⟩))] := rfeedB ex l o n
theorem rfedY (ex : Bool) (h l : List Int) (p c o n : Nat) (h0_ : p + c ≤ h.length) (h1_ : o + n ≤ l.length) (h2_ : c ≤ 67108864) (h3_ : n ≤ 1006632960) (h4_ : W.bytes h) (h5_ : W.bytes l) (h6_ : W.scanB (List.take c (List.drop p h) ++ List.take n (List.drop o l)) (c + n) = false) : Contract0 Try.prog 43 [(.c (.ptr 1 0 0)), (.c (.sl 3 0 o n 1))] [(1, (.one ⟨true, ex, .cells [.sl 2 0 p c 1, .bool false]⟩)), (2, (.one ⟨false, false, (.ints .u8 h)⟩)), (3, (.one ⟨false, false, (.ints .u8 l)⟩))] 4 (.c (.int .i64 0)) [] [(1, (.one ⟨true, ex, .cells [.sl 4 0 0 (c + n) 1, .bool false]⟩)), (4, (.one ⟨true, false, (.ints .u8 (List.take c (List.drop p h) ++ List.take n (List.drop o l)))⟩))] := by
  have e := rfeedRY ex h l p c o n h0_ h1_ h2_ h3_ h4_ h5_ h6_
  rw [List.take_take, Nat.min_self] at e
  exact e
theorem rfedN (ex : Bool) (h l : List Int) (p c o n : Nat) (h0_ : p + c ≤ h.length) (h1_ : o + n ≤ l.length) (h2_ : c ≤ 67108864) (h3_ : n ≤ 1006632960) (h4_ : W.bytes h) (h5_ : W.bytes l) (h6_ : W.scanB (List.take c (List.drop p h) ++ List.take n (List.drop o l)) (c + n) = true) : Contract0 Try.prog 43 [(.c (.ptr 1 0 0)), (.c (.sl 3 0 o n 1))] [(1, (.one ⟨true, ex, .cells [.sl 2 0 p c 1, .bool false]⟩)), (2, (.one ⟨false, false, (.ints .u8 h)⟩)), (3, (.one ⟨false, false, (.ints .u8 l)⟩))] 4 (.c (.int .i64 6)) [] [(1, (.one ⟨true, ex, .cells [.nils, .bool true]⟩))] := rfeedRN ex h l p c o n h0_ h1_ h2_ h3_ h4_ h5_ h6_
theorem nexB (ex : Bool)  : Contract0 Try.prog 45 [(.c (.ptr 1 0 0))] [(1, (.one ⟨true, ex, .cells [.nils, .bool true]⟩))] 2 (.tup [(.c .nils), (.c (.bool false))]) [] [(1, (.one ⟨true, ex, .cells [.nils, .bool true]⟩))] := nextB ex
theorem rnexB (ex : Bool)  : Contract0 Try.prog 46 [(.c (.ptr 1 0 0))] [(1, (.one ⟨true, ex, .cells [.nils, .bool true]⟩))] 2 (.tup [(.c .nils), (.c (.bool false))]) [] [(1, (.one ⟨true, ex, .cells [.nils, .bool true]⟩))] := rnextB ex
theorem nexN (ex : Bool) (h : List Int) (p c : Nat) (h0_ : p + c ≤ h.length) (h1_ : c ≤ 1073741824) (h2_ : W.bytes h) (h3_ : ¬ (2 ≤ c ∧ 2 + W.be2 h p ≤ c)) : Contract0 Try.prog 45 [(.c (.ptr 1 0 0))] [(1, (.one ⟨true, ex, .cells [.sl 2 0 p c 1, .bool false]⟩)), (2, (.one ⟨true, false, (.ints .u8 h)⟩))] 3 (.tup [(.c .nils), (.c (.bool false))]) [] [(1, (.one ⟨true, ex, .cells [.sl 2 0 p c 1, .bool false]⟩)), (2, (.one ⟨true, false, (.ints .u8 h)⟩))] := by
  have g0 := getD_byte h2_ p
  have g1 := getD_byte h2_ (p + 1)
  have gm2 := be2_lt g0 g1
  have gm := be2_sum g0 g1
  by_cases hh : c < 2
  · exact nextS ex h p c gm2 h0_ h1_ h2_ hh
  · exact nextW ex h p c gm2 h0_ h1_ h2_ (by omega) (by omega)
theorem nexY (ex : Bool) (h : List Int) (p c : Nat) (h0_ : p + c ≤ h.length) (h1_ : c ≤ 1073741824) (h2_ : W.bytes h) (h3_ : (2 ≤ c ∧ 2 + W.be2 h p ≤ c)) : Contract0 Try.prog 45 [(.c (.ptr 1 0 0))] [(1, (.one ⟨true, ex, .cells [.sl 2 0 p c 1, .bool false]⟩)), (2, (.one ⟨true, false, (.ints .u8 h)⟩))] 3 (.tup [(.c (.sl 3 0 0 (W.be2 h p) 1)), (.c (.bool true))]) [] [(1, (.one ⟨true, ex, .cells [.sl 2 0 (p + (2 + W.be2 h p)) (c - (2 + W.be2 h p)) 1, .bool false]⟩)), (2, (.one ⟨true, false, (.ints .u8 h)⟩)), (3, (.one ⟨true, false, (.ints .u8 (List.take (W.be2 h p) (List.drop (p + 2) h)))⟩))] := by
  have g0 := getD_byte h2_ p
  have g1 := getD_byte h2_ (p + 1)
  have gm2 := be2_lt g0 g1
  have gm := be2_sum g0 g1
  exact nextY ex h p c gm2 h0_ h1_ h2_ h3_.1 h3_.2
theorem rnexN (ex : Bool) (h : List Int) (p c : Nat) (h0_ : p + c ≤ h.length) (h1_ : c ≤ 1073741824) (h2_ : W.bytes h) (h3_ : ¬ (2 ≤ c ∧ 2 + W.be2 h p ≤ c)) : Contract0 Try.prog 46 [(.c (.ptr 1 0 0))] [(1, (.one ⟨true, ex, .cells [.sl 2 0 p c 1, .bool false]⟩)), (2, (.one ⟨true, false, (.ints .u8 h)⟩))] 3 (.tup [(.c .nils), (.c (.bool false))]) [] [(1, (.one ⟨true, ex, .cells [.sl 2 0 p c 1, .bool false]⟩)), (2, (.one ⟨true, false, (.ints .u8 h)⟩))] := by
  have g0 := getD_byte h2_ p
  have g1 := getD_byte h2_ (p + 1)
  have gm2 := be2_lt g0 g1
  have gm := be2_sum g0 g1
  by_cases hh : c < 2
  · exact rnextS ex h p c g0 g1 gm2 gm h0_ h1_ h2_ hh
  · exact rnextW ex h p c g0 g1 gm2 gm h0_ h1_ h2_ (by omega) (by omega)
theorem rnexY (ex : Bool) (h : List Int) (p c : Nat) (h0_ : p + c ≤ h.length) (h1_ : c ≤ 1073741824) (h2_ : W.bytes h) (h3_ : (2 ≤ c ∧ 2 + W.be2 h p ≤ c)) : Contract0 Try.prog 46 [(.c (.ptr 1 0 0))] [(1, (.one ⟨true, ex, .cells [.sl 2 0 p c 1, .bool false]⟩)), (2, (.one ⟨true, false, (.ints .u8 h)⟩))] 3 (.tup [(.c (.sl 2 0 (p + 2) (W.be2 h p) 1)), (.c (.bool true))]) [] [(1, (.one ⟨true, ex, .cells [.sl 2 0 (p + (2 + W.be2 h p)) (c - (2 + W.be2 h p)) 1, .bool false]⟩)), (2, (.one ⟨true, false, (.ints .u8 h)⟩))] := by
  have g0 := getD_byte h2_ p
  have g1 := getD_byte h2_ (p + 1)
  have gm2 := be2_lt g0 g1
  have gm := be2_sum g0 g1
  exact rnextY ex h p c g0 g1 gm2 gm h0_ h1_ h2_ h3_.1 h3_.2
end Go.Proofs.Ytmfnldkiaodkpaa.Vm

namespace Go.Proofs.Ytmfnldkiaodkpaa.Vm
open Go Go.Proofs Go.Proofs.Ytmfnldkiaodkpaa
end Go.Proofs.Ytmfnldkiaodkpaa.Vm
