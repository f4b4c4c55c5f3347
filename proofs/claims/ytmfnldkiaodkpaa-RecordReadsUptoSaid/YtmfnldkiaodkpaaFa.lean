/- What functions of the program come to: parts of the walk (Fa). -/
import Derived.Test.YtmfnldkiaodkpaaRd
import Derived.KernelRfl
import Derived.Test.YtmfnldkiaodkpaaProg
set_option linter.unusedSimpArgs false
set_option linter.unusedVariables false
namespace Go.Proofs.Ytmfnldkiaodkpaa.Vm
open Go Go.Proofs Go.Proofs.Ytmfnldkiaodkpaa
theorem rlenS (l : List Int) (o n : Nat) (hl : o + n ≤ l.length) (hs : n ≤ 1073741824) (h : n < 2) :
    Contract0 Try.prog 80 [(.c (.sl 1 0 o n 1))] [(1, (.one ⟨false, false, (.ints .u8 l)⟩))] 2 (.tup [(.c (.int .i64 0)), (.c (.bool (false)))]) [] [] := rlen_t l o n hl hs (by omega)
theorem rlenY (l : List Int) (o n : Nat) (hl : o + n ≤ l.length) (hs : n ≤ 1073741824) (h : 2 ≤ n) (hb : W.bytes l) :
    Contract0 Try.prog 80 [(.c (.sl 1 0 o n 1))] [(1, (.one ⟨false, false, (.ints .u8 l)⟩))] 2 (.tup [(.c (.int .i64 ((W.be2 l o : Nat) : Int))), (.c (.bool (true)))]) [] [] := by
  have h0 := getD_byte hb o
  have h1 := getD_byte hb (o + 1)
  have e := rlen_f l o n hl hs (by omega)
  have w : ∀ a : Int, 0 ≤ a ∧ a < 65536 → IntKind.wrap IntKind.i64 a = a := fun a ha => EI.wrapI (by omega)
  rw [w (List.getD l o 0) (by omega), w (List.getD l o 0 * 256) (by omega), w (List.getD l (o + 1) 0) (by omega), be2_eq h0 h1] at e
  exact e
end Go.Proofs.Ytmfnldkiaodkpaa.Vm

namespace Go.Proofs.Ytmfnldkiaodkpaa.Vm
open Go Go.Proofs Go.Proofs.Ytmfnldkiaodkpaa
set_option maxRecDepth 100000
def LFdI (ex : Bool) (h l : List Int) (p c o n n0 n1 : Nat) : S0 :=
  ⟨[(0, (.c (.ptr 1 0 0))), (4, (.c (.int .i64 0))), (5, (.c (.sl 196 0 n0 n1 1)))], [(1, (.one ⟨true, ex, (.cells [(.sl 196 0 0 (c + n) 1), (.bool (false))])⟩)), (2, (.one ⟨false, false, (.ints .u8 h)⟩)), (3, (.one ⟨false, false, (.ints .u8 l)⟩)), (196, (.one ⟨true, false, (.ints .u8 (List.take c (List.drop p h) ++ List.take n (List.drop o l)))⟩))], 340⟩
theorem LFd_by {α : Type} (I : α → S0) (Inv : α → Prop) (μ : α → Nat) {ex : Ex} {s' : S0} (hex : ex ≠ .normal)
    (step : ∀ x, Inv x → (∃ y, Inv y ∧ μ y < μ x ∧ CodeOk Try.prog 61 340 (kAt (kOf Try.prog Try.f42) [true, true, true, true, false, false]) (I x) .normal (I y)) ∨ CodeOk Try.prog 61 340 (kAt (kOf Try.prog Try.f42) [true, true, true, true, false, false]) (I x) ex s') (x : α) (hx : Inv x) :
    CodeOk Try.prog 61 340 (kAt (kOf Try.prog Try.f42) [true, true, true, true, false]) (I x) ex s' := by
  have hk : (kAt (kOf Try.prog Try.f42) [true, true, true, true, false]) = .loop (kAt (kOf Try.prog Try.f42) [true, true, true, true, false, false]) := by kernel_rfl
  rw [hk]
  exact CodeOk.loop I Inv μ hex step x hx
def LFd0 (ex : Bool) (h l : List Int) (p c o n : Nat) : S0 :=
  ⟨[(0, (.c (.ptr 1 0 0))), (4, (.c (.int .i64 0))), (5, (.c (.sl 196 0 0 (c + n) 1)))], [(1, (.one ⟨true, ex, (.cells [(.sl 196 0 0 (c + n) 1), (.bool (false))])⟩)), (2, (.one ⟨false, false, (.ints .u8 h)⟩)), (3, (.one ⟨false, false, (.ints .u8 l)⟩)), (196, (.one ⟨true, false, (.ints .u8 (List.take c (List.drop p h) ++ List.take n (List.drop o l)))⟩))], 340⟩
theorem LFd_xc0 (ex : Bool) (h l : List Int) (p c o n n0 n1 : Nat)
    (hp : p + c ≤ h.length)
    (hl : o + n ≤ l.length)
    (hc : c ≤ 67108864)
    (hn : n ≤ 1073741824)
    (hhb : W.bytes h)
    (hlb : W.bytes l)
    (c11 : (n0 + n1 ≤ List.length (List.take c (List.drop p h) ++ List.take n (List.drop o l))))
    (c12 : (n1 ≤ (1073741824 : Nat)))
    (c13 : (n1 < (2 : Nat))) :
    CodeOk Try.prog 61 340 (kAt (kOf Try.prog Try.f42) [true, true, true, true, false, false]) (LFdI ex h l p c o n n0 n1) .ret ⟨[(0, (.c (.ptr 1 0 0))), (4, (.c (.int .i64 0))), (5, (.c (.sl 196 0 n0 n1 1)))], [(1, (.one ⟨true, ex, (.cells [(.sl 196 0 0 (c + n) 1), (.bool (false))])⟩)), (2, (.one ⟨false, false, (.ints .u8 h)⟩)), (3, (.one ⟨false, false, (.ints .u8 l)⟩)), (196, (.one ⟨true, false, (.ints .u8 (List.take c (List.drop p h) ++ List.take n (List.drop o l)))⟩))], 340⟩ :=
  CodeOk.of_runs (fuel := 300) (v := ⟨[0, 4, 5], [1, 2, 3, 196], [], 340⟩) (hs := [(1, ⟨.call [196] (.tup [(.c (.int .i64 0)), (.c (.bool (false)))]) [] [], none⟩)])
    (cs := [Contract Try.prog 80 [(.c (.sl 196 0 n0 n1 1))] [(196, (.one ⟨true, false, (.ints .u8 (List.take c (List.drop p h) ++ List.take n (List.drop o l)))⟩))] 356 (.tup [(.c (.int .i64 0)), (.c (.bool (false)))]) [] []])
    mixed (by kernel_rfl) ⟨Contract0.inst (rlenS (List.take c (List.drop p h) ++ List.take n (List.drop o l)) n0 n1 c11 c12 c13) [.b 196 1 true []] [none] [] [] (by kernel_rfl) (by kernel_rfl) (by kernel_rfl) (by kernel_rfl) (by kernel_rfl), trivial⟩
theorem LFd_xc1t (ex : Bool) (h l : List Int) (p c o n n0 n1 : Nat)
    (hp : p + c ≤ h.length)
    (hl : o + n ≤ l.length)
    (hc : c ≤ 67108864)
    (hn : n ≤ 1073741824)
    (hhb : W.bytes h)
    (hlb : W.bytes l)
    (c11 : (n0 + n1 ≤ List.length (List.take c (List.drop p h) ++ List.take n (List.drop o l))))
    (c12 : (n1 ≤ (1073741824 : Nat)))
    (c13 : ((2 : Nat) ≤ n1))
    (h14 : ((↑(W.be2 (List.take c (List.drop p h) ++ List.take n (List.drop o l)) n0) : Int) = (0 : Int))) :
    CodeOk Try.prog 61 340 (kAt (kOf Try.prog Try.f42) [true, true, true, true, false, false]) (LFdI ex h l p c o n n0 n1) .ret ⟨[(0, (.c (.ptr 1 0 0))), (4, (.c (.int .i64 6))), (5, (.c (.sl 196 0 n0 n1 1)))], [(1, (.one ⟨true, ex, (.cells [.nils, (.bool (true))])⟩)), (2, (.one ⟨false, false, (.ints .u8 h)⟩)), (3, (.one ⟨false, false, (.ints .u8 l)⟩)), (196, (.one ⟨true, false, (.ints .u8 (List.take c (List.drop p h) ++ List.take n (List.drop o l)))⟩))], 340⟩ :=
  CodeOk.of_runs (fuel := 300) (v := ⟨[0, 4, 5], [1, 2, 3, 196], [], 340⟩) (hs := [(1, ⟨.call [196] (.tup [(.c (.int .i64 (↑(W.be2 (List.take c (List.drop p h) ++ List.take n (List.drop o l)) n0)))), (.c (.bool (true)))]) [] [], none⟩), (11, ⟨.auto, some (.c (.bool (true)))⟩)])
    (cs := [EB ((↑(W.be2 (List.take c (List.drop p h) ++ List.take n (List.drop o l)) n0) : Int) == 0) true,
      Contract Try.prog 80 [(.c (.sl 196 0 n0 n1 1))] [(196, (.one ⟨true, false, (.ints .u8 (List.take c (List.drop p h) ++ List.take n (List.drop o l)))⟩))] 356 (.tup [(.c (.int .i64 (↑(W.be2 (List.take c (List.drop p h) ++ List.take n (List.drop o l)) n0)))), (.c (.bool (true)))]) [] []])
    mixed (by kernel_rfl) ⟨.mk (beq_t h14), Contract0.inst (rlenY (List.take c (List.drop p h) ++ List.take n (List.drop o l)) n0 n1 c11 c12 c13 (by repeat' with_reducible first | assumption | exact W.p8_bytes | exact W.bytes_zero | exact W.apply_bytes | exact W.once_bytes | exact W.tag_bytes | exact W.boxTag_bytes | exact W.box_bytes | exact W.bytes_nil | exact W.bts_bytes | exact W.le_bytes | exact W.hand_bytes | exact W.padd_bytes | exact W.frm_bytes | apply W.bytes_app | apply W.bytes_take | apply W.bytes_drop)) [.b 196 1 true []] [none] [] [] (by kernel_rfl) (by kernel_rfl) (by kernel_rfl) (by kernel_rfl) (by kernel_rfl), trivial⟩
theorem LFd_xc1ft (ex : Bool) (h l : List Int) (p c o n n0 n1 : Nat)
    (hp : p + c ≤ h.length)
    (hl : o + n ≤ l.length)
    (hc : c ≤ 67108864)
    (hn : n ≤ 1073741824)
    (hhb : W.bytes h)
    (hlb : W.bytes l)
    (c11 : (n0 + n1 ≤ List.length (List.take c (List.drop p h) ++ List.take n (List.drop o l))))
    (c12 : (n1 ≤ (1073741824 : Nat)))
    (c13 : ((2 : Nat) ≤ n1))
    (h14 : (¬(↑(W.be2 (List.take c (List.drop p h) ++ List.take n (List.drop o l)) n0) : Int) = (0 : Int)))
    (h15 : ((↑(W.be2 (List.take c (List.drop p h) ++ List.take n (List.drop o l)) n0) : Int) > (4096 : Int))) :
    CodeOk Try.prog 61 340 (kAt (kOf Try.prog Try.f42) [true, true, true, true, false, false]) (LFdI ex h l p c o n n0 n1) .ret ⟨[(0, (.c (.ptr 1 0 0))), (4, (.c (.int .i64 6))), (5, (.c (.sl 196 0 n0 n1 1)))], [(1, (.one ⟨true, ex, (.cells [.nils, (.bool (true))])⟩)), (2, (.one ⟨false, false, (.ints .u8 h)⟩)), (3, (.one ⟨false, false, (.ints .u8 l)⟩)), (196, (.one ⟨true, false, (.ints .u8 (List.take c (List.drop p h) ++ List.take n (List.drop o l)))⟩))], 340⟩ :=
  CodeOk.of_runs (fuel := 300) (v := ⟨[0, 4, 5], [1, 2, 3, 196], [], 340⟩) (hs := [(1, ⟨.call [196] (.tup [(.c (.int .i64 (↑(W.be2 (List.take c (List.drop p h) ++ List.take n (List.drop o l)) n0)))), (.c (.bool (true)))]) [] [], none⟩), (11, ⟨.auto, some (.c (.bool (false)))⟩), (16, ⟨.auto, some (.c (.bool (true)))⟩)])
    (cs := [EB (decide ((↑(W.be2 (List.take c (List.drop p h) ++ List.take n (List.drop o l)) n0) : Int) > 4096)) true,
      EB ((↑(W.be2 (List.take c (List.drop p h) ++ List.take n (List.drop o l)) n0) : Int) == 0) false,
      Contract Try.prog 80 [(.c (.sl 196 0 n0 n1 1))] [(196, (.one ⟨true, false, (.ints .u8 (List.take c (List.drop p h) ++ List.take n (List.drop o l)))⟩))] 356 (.tup [(.c (.int .i64 (↑(W.be2 (List.take c (List.drop p h) ++ List.take n (List.drop o l)) n0)))), (.c (.bool (true)))]) [] []])
    mixed (by kernel_rfl) ⟨.mk (decide_eq_true h15), .mk (beq_f h14), Contract0.inst (rlenY (List.take c (List.drop p h) ++ List.take n (List.drop o l)) n0 n1 c11 c12 c13 (by repeat' with_reducible first | assumption | exact W.p8_bytes | exact W.bytes_zero | exact W.apply_bytes | exact W.once_bytes | exact W.tag_bytes | exact W.boxTag_bytes | exact W.box_bytes | exact W.bytes_nil | exact W.bts_bytes | exact W.le_bytes | exact W.hand_bytes | exact W.padd_bytes | exact W.frm_bytes | apply W.bytes_app | apply W.bytes_take | apply W.bytes_drop)) [.b 196 1 true []] [none] [] [] (by kernel_rfl) (by kernel_rfl) (by kernel_rfl) (by kernel_rfl) (by kernel_rfl), trivial⟩
theorem LFd_xc1fft (ex : Bool) (h l : List Int) (p c o n n0 n1 : Nat)
    (hp : p + c ≤ h.length)
    (hl : o + n ≤ l.length)
    (hc : c ≤ 67108864)
    (hn : n ≤ 1073741824)
    (hhb : W.bytes h)
    (hlb : W.bytes l)
    (c11 : (n0 + n1 ≤ List.length (List.take c (List.drop p h) ++ List.take n (List.drop o l))))
    (c12 : (n1 ≤ (1073741824 : Nat)))
    (c13 : ((2 : Nat) ≤ n1))
    (h14 : (¬(↑(W.be2 (List.take c (List.drop p h) ++ List.take n (List.drop o l)) n0) : Int) = (0 : Int)))
    (h15 : (¬(↑(W.be2 (List.take c (List.drop p h) ++ List.take n (List.drop o l)) n0) : Int) > (4096 : Int)))
    (h16 : ((↑n1 : Int) < (↑((2 : Nat) + W.be2 (List.take c (List.drop p h) ++ List.take n (List.drop o l)) n0) : Int))) :
    CodeOk Try.prog 61 340 (kAt (kOf Try.prog Try.f42) [true, true, true, true, false, false]) (LFdI ex h l p c o n n0 n1) .ret ⟨[(0, (.c (.ptr 1 0 0))), (4, (.c (.int .i64 0))), (5, (.c (.sl 196 0 n0 n1 1)))], [(1, (.one ⟨true, ex, (.cells [(.sl 196 0 0 (c + n) 1), (.bool (false))])⟩)), (2, (.one ⟨false, false, (.ints .u8 h)⟩)), (3, (.one ⟨false, false, (.ints .u8 l)⟩)), (196, (.one ⟨true, false, (.ints .u8 (List.take c (List.drop p h) ++ List.take n (List.drop o l)))⟩))], 340⟩ :=
  CodeOk.of_runs (fuel := 300) (v := ⟨[0, 4, 5], [1, 2, 3, 196], [], 340⟩) (hs := [(1, ⟨.call [196] (.tup [(.c (.int .i64 (↑(W.be2 (List.take c (List.drop p h) ++ List.take n (List.drop o l)) n0)))), (.c (.bool (true)))]) [] [], none⟩), (11, ⟨.auto, some (.c (.bool (false)))⟩), (16, ⟨.auto, some (.c (.bool (false)))⟩), (24, ⟨.auto, some (.c (.int .i64 (↑(2 + W.be2 (List.take c (List.drop p h) ++ List.take n (List.drop o l)) n0))))⟩), (27, ⟨.auto, some (.c (.bool (true)))⟩)])
    (cs := [EB (decide ((↑n1 : Int) < (↑(2 + W.be2 (List.take c (List.drop p h) ++ List.take n (List.drop o l)) n0) : Int))) true,
      EI .i64 (IntKind.wrap IntKind.i64 (2 + (↑(W.be2 (List.take c (List.drop p h) ++ List.take n (List.drop o l)) n0) : Int))) ((↑(2 + W.be2 (List.take c (List.drop p h) ++ List.take n (List.drop o l)) n0) : Int)),
      EB (decide ((↑(W.be2 (List.take c (List.drop p h) ++ List.take n (List.drop o l)) n0) : Int) > 4096)) false,
      EB ((↑(W.be2 (List.take c (List.drop p h) ++ List.take n (List.drop o l)) n0) : Int) == 0) false,
      Contract Try.prog 80 [(.c (.sl 196 0 n0 n1 1))] [(196, (.one ⟨true, false, (.ints .u8 (List.take c (List.drop p h) ++ List.take n (List.drop o l)))⟩))] 356 (.tup [(.c (.int .i64 (↑(W.be2 (List.take c (List.drop p h) ++ List.take n (List.drop o l)) n0)))), (.c (.bool (true)))]) [] []])
    mixed (by kernel_rfl) ⟨.mk (decide_eq_true h16), .mk (by simp only [addO_eq, mulE_eq, mulE_one, Int.toNat_natCast, IntKind.wrap_i64, mmin, mmax]; omega), .mk (decide_eq_false h15), .mk (beq_f h14), Contract0.inst (rlenY (List.take c (List.drop p h) ++ List.take n (List.drop o l)) n0 n1 c11 c12 c13 (by repeat' with_reducible first | assumption | exact W.p8_bytes | exact W.bytes_zero | exact W.apply_bytes | exact W.once_bytes | exact W.tag_bytes | exact W.boxTag_bytes | exact W.box_bytes | exact W.bytes_nil | exact W.bts_bytes | exact W.le_bytes | exact W.hand_bytes | exact W.padd_bytes | exact W.frm_bytes | apply W.bytes_app | apply W.bytes_take | apply W.bytes_drop)) [.b 196 1 true []] [none] [] [] (by kernel_rfl) (by kernel_rfl) (by kernel_rfl) (by kernel_rfl) (by kernel_rfl), trivial⟩
theorem LFd_rc1fff (ex : Bool) (h l : List Int) (p c o n n0 n1 : Nat)
    (hp : p + c ≤ h.length)
    (hl : o + n ≤ l.length)
    (hc : c ≤ 67108864)
    (hn : n ≤ 1073741824)
    (hhb : W.bytes h)
    (hlb : W.bytes l)
    (c11 : (n0 + n1 ≤ List.length (List.take c (List.drop p h) ++ List.take n (List.drop o l))))
    (c12 : (n1 ≤ (1073741824 : Nat)))
    (c13 : ((2 : Nat) ≤ n1))
    (h14 : (¬(↑(W.be2 (List.take c (List.drop p h) ++ List.take n (List.drop o l)) n0) : Int) = (0 : Int)))
    (h15 : (¬(↑(W.be2 (List.take c (List.drop p h) ++ List.take n (List.drop o l)) n0) : Int) > (4096 : Int)))
    (h16 : (¬(↑n1 : Int) < (↑((2 : Nat) + W.be2 (List.take c (List.drop p h) ++ List.take n (List.drop o l)) n0) : Int))) :
    CodeOk Try.prog 61 340 (kAt (kOf Try.prog Try.f42) [true, true, true, true, false, false]) (LFdI ex h l p c o n n0 n1) .normal (LFdI ex h l p c o n (n0 + (2 + W.be2 (List.take c (List.drop p h) ++ List.take n (List.drop o l)) n0)) (n1 - (2 + W.be2 (List.take c (List.drop p h) ++ List.take n (List.drop o l)) n0))) :=
  CodeOk.of_runs (fuel := 300) (v := ⟨[0, 4, 5], [1, 2, 3, 196], [], 340⟩) (hs := [(1, ⟨.call [196] (.tup [(.c (.int .i64 (↑(W.be2 (List.take c (List.drop p h) ++ List.take n (List.drop o l)) n0)))), (.c (.bool (true)))]) [] [], none⟩), (11, ⟨.auto, some (.c (.bool (false)))⟩), (16, ⟨.auto, some (.c (.bool (false)))⟩), (24, ⟨.auto, some (.c (.int .i64 (↑(2 + W.be2 (List.take c (List.drop p h) ++ List.take n (List.drop o l)) n0))))⟩), (27, ⟨.auto, some (.c (.bool (false)))⟩), (31, ⟨.auto, some (.c (.int .i64 (↑(2 + W.be2 (List.take c (List.drop p h) ++ List.take n (List.drop o l)) n0))))⟩), (32, ⟨.ask, some (.c (.sl 196 0 (n0 + (2 + W.be2 (List.take c (List.drop p h) ++ List.take n (List.drop o l)) n0)) (n1 - (2 + W.be2 (List.take c (List.drop p h) ++ List.take n (List.drop o l)) n0)) 1))⟩)])
    (cs := [((.c (.sl 196 0 (addO n0 (2 + W.be2 (List.take c (List.drop p h) ++ List.take n (List.drop o l)) n0)) (Int.toNat (↑n1 - ↑(2 + W.be2 (List.take c (List.drop p h) ++ List.take n (List.drop o l)) n0))) 1)) : V) = (.c (.sl 196 0 (n0 + (2 + W.be2 (List.take c (List.drop p h) ++ List.take n (List.drop o l)) n0)) (n1 - (2 + W.be2 (List.take c (List.drop p h) ++ List.take n (List.drop o l)) n0)) 1)),
      ((0 : Int) ≤ (↑((2 : Nat) + W.be2 (List.take c (List.drop p h) ++ List.take n (List.drop o l)) n0) : Int) ∧ (↑((2 : Nat) + W.be2 (List.take c (List.drop p h) ++ List.take n (List.drop o l)) n0) : Int) ≤ (↑n1 : Int) ∧ (↑n1 : Int) ≤ (↑n1 : Int)),
      EI .i64 (IntKind.wrap IntKind.i64 (2 + (↑(W.be2 (List.take c (List.drop p h) ++ List.take n (List.drop o l)) n0) : Int))) ((↑(2 + W.be2 (List.take c (List.drop p h) ++ List.take n (List.drop o l)) n0) : Int)),
      EB (decide ((↑n1 : Int) < (↑(2 + W.be2 (List.take c (List.drop p h) ++ List.take n (List.drop o l)) n0) : Int))) false,
      EI .i64 (IntKind.wrap IntKind.i64 (2 + (↑(W.be2 (List.take c (List.drop p h) ++ List.take n (List.drop o l)) n0) : Int))) ((↑(2 + W.be2 (List.take c (List.drop p h) ++ List.take n (List.drop o l)) n0) : Int)),
      EB (decide ((↑(W.be2 (List.take c (List.drop p h) ++ List.take n (List.drop o l)) n0) : Int) > 4096)) false,
      EB ((↑(W.be2 (List.take c (List.drop p h) ++ List.take n (List.drop o l)) n0) : Int) == 0) false,
      Contract Try.prog 80 [(.c (.sl 196 0 n0 n1 1))] [(196, (.one ⟨true, false, (.ints .u8 (List.take c (List.drop p h) ++ List.take n (List.drop o l)))⟩))] 356 (.tup [(.c (.int .i64 (↑(W.be2 (List.take c (List.drop p h) ++ List.take n (List.drop o l)) n0)))), (.c (.bool (true)))]) [] []])
    mixed (by kernel_rfl) ⟨EV.sl (by simp only [addO_eq, mulE_eq, mulE_one, Int.toNat_natCast, IntKind.wrap_i64, mmin, mmax]) (by omega), (by omega), .mk (by simp only [addO_eq, mulE_eq, mulE_one, Int.toNat_natCast, IntKind.wrap_i64, mmin, mmax]; omega), .mk (decide_eq_false h16), .mk (by simp only [addO_eq, mulE_eq, mulE_one, Int.toNat_natCast, IntKind.wrap_i64, mmin, mmax]; omega), .mk (decide_eq_false h15), .mk (beq_f h14), Contract0.inst (rlenY (List.take c (List.drop p h) ++ List.take n (List.drop o l)) n0 n1 c11 c12 c13 (by repeat' with_reducible first | assumption | exact W.p8_bytes | exact W.bytes_zero | exact W.apply_bytes | exact W.once_bytes | exact W.tag_bytes | exact W.boxTag_bytes | exact W.box_bytes | exact W.bytes_nil | exact W.bts_bytes | exact W.le_bytes | exact W.hand_bytes | exact W.padd_bytes | exact W.frm_bytes | apply W.bytes_app | apply W.bytes_take | apply W.bytes_drop)) [.b 196 1 true []] [none] [] [] (by kernel_rfl) (by kernel_rfl) (by kernel_rfl) (by kernel_rfl) (by kernel_rfl), trivial⟩

end Go.Proofs.Ytmfnldkiaodkpaa.Vm

namespace Go.Proofs.Ytmfnldkiaodkpaa.W
open Go Go.Proofs.Ytmfnldkiaodkpaa.Vm
/-- Frames looked at one behind the other: is one bad, and what is left where it ends. -/
def scan (R : List Int) : Nat → Nat → Nat → Bool × Nat × Nat
  | 0, p, m => (false, p, m)
  | f + 1, p, m => if m < 2 then (false, p, m) else if be2 R p = 0 ∨ 4096 < be2 R p then (true, p, m) else if m < 2 + be2 R p then (false, p, m) else scan R f (p + (2 + be2 R p)) (m - (2 + be2 R p))
theorem scan_ex (R : List Int) (m : Nat) : ∃ y : Bool × Nat × Nat, y = scan R m 0 m := ⟨_, rfl⟩
noncomputable def scanR (R : List Int) (m : Nat) : Bool × Nat × Nat := Classical.choose (scan_ex R m)
theorem scanR_eq (R : List Int) (m : Nat) : scanR R m = scan R m 0 m := Classical.choose_spec (scan_ex R m)
/-- Is a frame in it bad? -/
noncomputable def scanB (R : List Int) (m : Nat) : Bool := (scanR R m).1
noncomputable def scanP (R : List Int) (m : Nat) : Nat := (scanR R m).2.1
noncomputable def scanM (R : List Int) (m : Nat) : Nat := (scanR R m).2.2
end Go.Proofs.Ytmfnldkiaodkpaa.W
namespace Go.Proofs.Ytmfnldkiaodkpaa.Vm
open Go Go.Proofs Go.Proofs.Ytmfnldkiaodkpaa
def LFdO (ex : Bool) (h l : List Int) (p c o n a b : Nat) : S0 :=
  ⟨[(0, (.c (.ptr 1 0 0))), (4, (.c (.int .i64 0))), (5, (.c (.sl 196 0 a b 1)))], [(1, (.one ⟨true, ex, (.cells [(.sl 196 0 0 (c + n) 1), (.bool (false))])⟩)), (2, (.one ⟨false, false, (.ints .u8 h)⟩)), (3, (.one ⟨false, false, (.ints .u8 l)⟩)), (196, (.one ⟨true, false, (.ints .u8 (List.take c (List.drop p h) ++ List.take n (List.drop o l)))⟩))], 340⟩
def LFdN (ex : Bool) (h l : List Int) (p c o n a b : Nat) : S0 :=
  ⟨[(0, (.c (.ptr 1 0 0))), (4, (.c (.int .i64 6))), (5, (.c (.sl 196 0 a b 1)))], [(1, (.one ⟨true, ex, (.cells [.nils, (.bool (true))])⟩)), (2, (.one ⟨false, false, (.ints .u8 h)⟩)), (3, (.one ⟨false, false, (.ints .u8 l)⟩)), (196, (.one ⟨true, false, (.ints .u8 (List.take c (List.drop p h) ++ List.take n (List.drop o l)))⟩))], 340⟩
theorem feed_scan (ex : Bool) (h l : List Int) (p c o n : Nat) (hp : p + c ≤ h.length) (hl : o + n ≤ l.length) (hc : c ≤ 67108864) (hn : n ≤ 1006632960) (hhb : W.bytes h) (hlb : W.bytes l) (s' : S0)
    (R : List Int) (hR : R = List.take c (List.drop p h) ++ List.take n (List.drop o l)) (hs : s' = if (W.scan R (c + n) 0 (c + n)).1 = true then LFdN ex h l p c o n (W.scan R (c + n) 0 (c + n)).2.1 (W.scan R (c + n) 0 (c + n)).2.2 else LFdO ex h l p c o n (W.scan R (c + n) 0 (c + n)).2.1 (W.scan R (c + n) 0 (c + n)).2.2) :
    CodeOk Try.prog 61 340 (kAt (kOf Try.prog Try.f42) [true, true, true, true, false]) (LFd0 ex h l p c o n) .ret s' := by
  have hlen : R.length = c + n := by rw [hR, List.length_append, seg_len hp, seg_len hl]
  refine LFd_by (fun x : Nat × Nat × Nat => LFdI ex h l p c o n x.2.1 x.2.2) (fun x => x.2.1 + x.2.2 = c + n ∧ x.2.2 ≤ x.1 ∧ W.scan R x.1 x.2.1 x.2.2 = W.scan R (c + n) 0 (c + n)) (fun x => x.2.2) (by simp) ?_ (c + n, 0, c + n) ⟨by simp, Nat.le_refl _, rfl⟩
  rintro ⟨f, a, b⟩ ⟨h1, h2, h3⟩
  dsimp only at h1 h2 h3 ⊢
  have c11 : a + b ≤ List.length (List.take c (List.drop p h) ++ List.take n (List.drop o l)) := by rw [← hR, hlen]; omega
  have hbR : W.bytes (List.take c (List.drop p h) ++ List.take n (List.drop o l)) := W.bytes_app (W.bytes_take (W.bytes_drop hhb)) (W.bytes_take (W.bytes_drop hlb))
  by_cases h4 : b < 2
  · right
    have e : W.scan R f a b = (false, a, b) := by
      cases f with
      | zero => rfl
      | succ f => rw [W.scan, if_pos h4]
    rw [← h3, e] at hs
    subst hs
    exact LFd_xc0 ex h l p c o n a b hp hl hc (by omega) hhb hlb c11 (by omega) h4
  · cases f with
    | zero => omega
    | succ f =>
      by_cases h5 : W.be2 R a = 0 ∨ 4096 < W.be2 R a
      · right
        have e : W.scan R (f + 1) a b = (true, a, b) := by rw [W.scan, if_neg h4, if_pos h5]
        rw [← h3, e] at hs
        subst hs
        rw [hR] at h5
        by_cases h6 : W.be2 (List.take c (List.drop p h) ++ List.take n (List.drop o l)) a = 0
        · exact LFd_xc1t ex h l p c o n a b hp hl hc (by omega) hhb hlb c11 (by omega) (by omega) (by omega)
        · exact LFd_xc1ft ex h l p c o n a b hp hl hc (by omega) hhb hlb c11 (by omega) (by omega) (by omega) (by omega)
      · by_cases h7 : b < 2 + W.be2 R a
        · right
          have e : W.scan R (f + 1) a b = (false, a, b) := by rw [W.scan, if_neg h4, if_neg h5, if_pos h7]
          rw [← h3, e] at hs
          subst hs
          rw [hR] at h5 h7
          exact LFd_xc1fft ex h l p c o n a b hp hl hc (by omega) hhb hlb c11 (by omega) (by omega) (by omega) (by omega) (by omega)
        · left
          refine ⟨(f, a + (2 + W.be2 R a), b - (2 + W.be2 R a)), ⟨by dsimp only; omega, by dsimp only; omega, ?_⟩, by dsimp only; omega, ?_⟩
          · dsimp only
            rw [← h3, W.scan, if_neg h4, if_neg h5, if_neg h7]
          · rw [hR] at h5 h7 ⊢
            exact LFd_rc1fff ex h l p c o n a b hp hl hc (by omega) hhb hlb c11 (by omega) (by omega) (by omega) (by omega) (by omega)
end Go.Proofs.Ytmfnldkiaodkpaa.Vm

namespace Go.Proofs.Ytmfnldkiaodkpaa.Vm
open Go Go.Proofs Go.Proofs.Ytmfnldkiaodkpaa
theorem feed_loopY (ex : Bool) (h l : List Int) (p c o n : Nat) (hp : p + c ≤ h.length) (hl : o + n ≤ l.length) (hc : c ≤ 67108864) (hn : n ≤ 1006632960) (hhb : W.bytes h) (hlb : W.bytes l) (hb : W.scanB (List.take c (List.drop p h) ++ List.take n (List.drop o l)) (c + n) = false) :
    CodeOk Try.prog 61 340 (kAt (kOf Try.prog Try.f42) [true, true, true, true, false]) (LFd0 ex h l p c o n) .ret (LFdO ex h l p c o n (W.scanP (List.take c (List.drop p h) ++ List.take n (List.drop o l)) (c + n)) (W.scanM (List.take c (List.drop p h) ++ List.take n (List.drop o l)) (c + n))) := by
  refine feed_scan ex h l p c o n hp hl hc hn hhb hlb _ _ rfl ?_
  unfold W.scanB at hb
  unfold W.scanP W.scanM
  rw [W.scanR_eq] at hb ⊢
  rw [hb, if_neg (by simp)]
theorem feed_loopN (ex : Bool) (h l : List Int) (p c o n : Nat) (hp : p + c ≤ h.length) (hl : o + n ≤ l.length) (hc : c ≤ 67108864) (hn : n ≤ 1006632960) (hhb : W.bytes h) (hlb : W.bytes l) (hb : W.scanB (List.take c (List.drop p h) ++ List.take n (List.drop o l)) (c + n) = true) :
    CodeOk Try.prog 61 340 (kAt (kOf Try.prog Try.f42) [true, true, true, true, false]) (LFd0 ex h l p c o n) .ret (LFdN ex h l p c o n (W.scanP (List.take c (List.drop p h) ++ List.take n (List.drop o l)) (c + n)) (W.scanM (List.take c (List.drop p h) ++ List.take n (List.drop o l)) (c + n))) := by
  refine feed_scan ex h l p c o n hp hl hc hn hhb hlb _ _ rfl ?_
  unfold W.scanB at hb
  unfold W.scanP W.scanM
  rw [W.scanR_eq] at hb ⊢
  rw [hb, if_pos rfl]
end Go.Proofs.Ytmfnldkiaodkpaa.Vm

namespace Go.Proofs.Ytmfnldkiaodkpaa.Vm
open Go Go.Proofs Go.Proofs.Ytmfnldkiaodkpaa
set_option maxRecDepth 100000
theorem feedY (ex : Bool) (h l : List Int) (p c o n : Nat)
    (hp : p + c ≤ h.length)
    (hl : o + n ≤ l.length)
    (hc : c ≤ 67108864)
    (hn : n ≤ 1006632960)
    (hhb : W.bytes h)
    (hlb : W.bytes l)
    (hb : W.scanB (List.take c (List.drop p h) ++ List.take n (List.drop o l)) (c + n) = false) :
    Contract0 Try.prog 42 [(.c (.ptr 1 0 0)), (.c (.sl 3 0 o n 1))] [(1, (.one ⟨true, ex, (.cells [(.sl 2 0 p c 1), (.bool (false))])⟩)), (2, (.one ⟨false, false, (.ints .u8 h)⟩)), (3, (.one ⟨false, false, (.ints .u8 l)⟩))] 4 (.c (.int .i64 0)) [] [(1, (.one ⟨true, ex, (.cells [(.sl 4 0 0 (c + n) 1), (.bool (false))])⟩)), (4, (.one ⟨true, false, (.ints .u8 (List.take c (List.drop p h) ++ List.take n (List.drop o l)))⟩))] :=
  Contract0.renum (Contract0.of_frun (res := (.c (.int .i64 0))) (up := [(1, (.one ⟨true, ex, (.cells [(.sl 196 0 0 (c + n) 1), (.bool (false))])⟩)), (196, (.one ⟨true, false, (.ints .u8 (List.take c (List.drop p h) ++ List.take n (List.drop o l)))⟩))]) (kill := []) (n0 := 4) (m := [(1, (.one ⟨true, ex, (.cells [(.sl 2 0 p c 1), (.bool (false))])⟩)), (2, (.one ⟨false, false, (.ints .u8 h)⟩)), (3, (.one ⟨false, false, (.ints .u8 l)⟩))]) (args := [(.c (.ptr 1 0 0)), (.c (.sl 3 0 o n 1))]) (fn := Try.f42) (c := bodyOf Try.f42) (fuel := 300) (k := kOf Try.prog Try.f42) (outs := [1, 196]) (hs := [(13, ⟨.call [180, 2, 3] (.c (.sl 196 0 0 (c + n) 1)) [] [(196, (.one ⟨true, false, (.ints .u8 (List.take c (List.drop p h) ++ List.take n (List.drop o l)))⟩))], none⟩), (22, ⟨.sum ⟨[0, 4, 5], [1, 2, 3, 196], [], 340⟩ (.ret) (LFdO ex h l p c o n (W.scanP (List.take c (List.drop p h) ++ List.take n (List.drop o l)) (c + n)) (W.scanM (List.take c (List.drop p h) ++ List.take n (List.drop o l)) (c + n))), none⟩)])
    (cs := [CodeOk Try.prog 61 340 (kAt (kOf Try.prog Try.f42) [true, true, true, true, false]) (LFd0 ex h l p c o n) (.ret) (LFdO ex h l p c o n (W.scanP (List.take c (List.drop p h) ++ List.take n (List.drop o l)) (c + n)) (W.scanM (List.take c (List.drop p h) ++ List.take n (List.drop o l)) (c + n))),
      Contract Try.prog 57 [(.c (.sl 180 0 0 2 1))] [(180, (.one ⟨true, true, (.cells [(.sl 2 0 p c 1), (.sl 3 0 o n 1)])⟩)), (2, (.one ⟨false, false, (.ints .u8 h)⟩)), (3, (.one ⟨false, false, (.ints .u8 l)⟩))] 196 (.c (.sl 196 0 0 (c + n) 1)) [] [(196, (.one ⟨true, false, (.ints .u8 (List.take c (List.drop p h) ++ List.take n (List.drop o l)))⟩))]])
    mixed Try.func42 (by kernel_rfl) (by kernel_rfl) (by kernel_rfl) (by kernel_rfl) (by kernel_rfl) ⟨(feed_loopY ex h l p c o n (by omega) (by omega) (by omega) (by omega) (by omega) (by omega) (by omega)), Contract0.inst (join2 h l p c o n (by omega) (by omega) (by omega)) [.b 180 1 true [], .b 2 2 true [], .b 3 3 true []] [none] [(4, 196)] [] (by kernel_rfl) (by kernel_rfl) (by kernel_rfl) (by kernel_rfl) (by kernel_rfl), trivial⟩) [.b 1 1 false, .b 2 2 true, .b 3 3 true] [] [(196, 4)] [] (by kernel_rfl) (by kernel_rfl) (by kernel_rfl) (by kernel_rfl) (by kernel_rfl)


theorem feedN (ex : Bool) (h l : List Int) (p c o n : Nat)
    (hp : p + c ≤ h.length)
    (hl : o + n ≤ l.length)
    (hc : c ≤ 67108864)
    (hn : n ≤ 1006632960)
    (hhb : W.bytes h)
    (hlb : W.bytes l)
    (hb : W.scanB (List.take c (List.drop p h) ++ List.take n (List.drop o l)) (c + n) = true) :
    Contract0 Try.prog 42 [(.c (.ptr 1 0 0)), (.c (.sl 3 0 o n 1))] [(1, (.one ⟨true, ex, (.cells [(.sl 2 0 p c 1), (.bool (false))])⟩)), (2, (.one ⟨false, false, (.ints .u8 h)⟩)), (3, (.one ⟨false, false, (.ints .u8 l)⟩))] 4 (.c (.int .i64 6)) [] [(1, (.one ⟨true, ex, (.cells [.nils, (.bool (true))])⟩))] :=
  Contract0.renum (Contract0.of_frun (res := (.c (.int .i64 6))) (up := [(1, (.one ⟨true, ex, (.cells [.nils, (.bool (true))])⟩))]) (kill := []) (n0 := 4) (m := [(1, (.one ⟨true, ex, (.cells [(.sl 2 0 p c 1), (.bool (false))])⟩)), (2, (.one ⟨false, false, (.ints .u8 h)⟩)), (3, (.one ⟨false, false, (.ints .u8 l)⟩))]) (args := [(.c (.ptr 1 0 0)), (.c (.sl 3 0 o n 1))]) (fn := Try.f42) (c := bodyOf Try.f42) (fuel := 300) (k := kOf Try.prog Try.f42) (outs := [1]) (hs := [(13, ⟨.call [180, 2, 3] (.c (.sl 196 0 0 (c + n) 1)) [] [(196, (.one ⟨true, false, (.ints .u8 (List.take c (List.drop p h) ++ List.take n (List.drop o l)))⟩))], none⟩), (22, ⟨.sum ⟨[0, 4, 5], [1, 2, 3, 196], [], 340⟩ (.ret) (LFdN ex h l p c o n (W.scanP (List.take c (List.drop p h) ++ List.take n (List.drop o l)) (c + n)) (W.scanM (List.take c (List.drop p h) ++ List.take n (List.drop o l)) (c + n))), none⟩)])
    (cs := [CodeOk Try.prog 61 340 (kAt (kOf Try.prog Try.f42) [true, true, true, true, false]) (LFd0 ex h l p c o n) (.ret) (LFdN ex h l p c o n (W.scanP (List.take c (List.drop p h) ++ List.take n (List.drop o l)) (c + n)) (W.scanM (List.take c (List.drop p h) ++ List.take n (List.drop o l)) (c + n))),
      Contract Try.prog 57 [(.c (.sl 180 0 0 2 1))] [(180, (.one ⟨true, true, (.cells [(.sl 2 0 p c 1), (.sl 3 0 o n 1)])⟩)), (2, (.one ⟨false, false, (.ints .u8 h)⟩)), (3, (.one ⟨false, false, (.ints .u8 l)⟩))] 196 (.c (.sl 196 0 0 (c + n) 1)) [] [(196, (.one ⟨true, false, (.ints .u8 (List.take c (List.drop p h) ++ List.take n (List.drop o l)))⟩))]])
    mixed Try.func42 (by kernel_rfl) (by kernel_rfl) (by kernel_rfl) (by kernel_rfl) (by kernel_rfl) ⟨(feed_loopN ex h l p c o n (by omega) (by omega) (by omega) (by omega) (by omega) (by omega) (by omega)), Contract0.inst (join2 h l p c o n (by omega) (by omega) (by omega)) [.b 180 1 true [], .b 2 2 true [], .b 3 3 true []] [none] [(4, 196)] [] (by kernel_rfl) (by kernel_rfl) (by kernel_rfl) (by kernel_rfl) (by kernel_rfl), trivial⟩) [.b 1 1 false, .b 2 2 true, .b 3 3 true] [] [] [] (by kernel_rfl) (by kernel_rfl) (by kernel_rfl) (by kernel_rfl) (by kernel_rfl)


theorem feedB (ex : Bool) (l : List Int) (o n : Nat) :
    Contract0 Try.prog 42 [(.c (.ptr 1 0 0)), (.c (.sl 2 0 o n 1))] [(1, (.one ⟨true, ex, (.cells [.nils, (.bool (true))])⟩)), (2, (.one ⟨false, false, (.ints .u8 l)⟩))] 3 (.c (.int .i64 6)) [] [(1, (.one ⟨true, ex, (.cells [.nils, (.bool (true))])⟩))] :=
  Contract0.renum (Contract0.of_frun (res := (.c (.int .i64 6))) (up := [(1, (.one ⟨true, ex, (.cells [.nils, (.bool (true))])⟩))]) (kill := []) (n0 := 3) (m := [(1, (.one ⟨true, ex, (.cells [.nils, (.bool (true))])⟩)), (2, (.one ⟨false, false, (.ints .u8 l)⟩))]) (args := [(.c (.ptr 1 0 0)), (.c (.sl 2 0 o n 1))]) (fn := Try.f42) (c := bodyOf Try.f42) (fuel := 300) (k := kOf Try.prog Try.f42) (outs := [1]) (hs := [])
    (cs := [])
    mixed Try.func42 (by kernel_rfl) (by kernel_rfl) (by kernel_rfl) (by kernel_rfl) (by kernel_rfl) trivial) [.b 1 1 false, .b 2 2 true] [] [] [] (by kernel_rfl) (by kernel_rfl) (by kernel_rfl) (by kernel_rfl) (by kernel_rfl)


theorem nextB (ex : Bool) :
    Contract0 Try.prog 45 [(.c (.ptr 1 0 0))] [(1, (.one ⟨true, ex, (.cells [.nils, (.bool (true))])⟩))] 2 (.tup [(.c .nils), (.c (.bool (false)))]) [] [(1, (.one ⟨true, ex, (.cells [.nils, (.bool (true))])⟩))] :=
  Contract0.renum (Contract0.of_frun (res := (.tup [(.c .nils), (.c (.bool (false)))])) (up := [(1, (.one ⟨true, ex, (.cells [.nils, (.bool (true))])⟩))]) (kill := []) (n0 := 2) (m := [(1, (.one ⟨true, ex, (.cells [.nils, (.bool (true))])⟩))]) (args := [(.c (.ptr 1 0 0))]) (fn := Try.f45) (c := bodyOf Try.f45) (fuel := 300) (k := kOf Try.prog Try.f45) (outs := [1]) (hs := [(6, ⟨.call [] (.tup [(.c (.int .i64 0)), (.c (.bool (false)))]) [] [], none⟩)])
    (cs := [Contract Try.prog 80 [(.c .nils)] [] 98 (.tup [(.c (.int .i64 0)), (.c (.bool (false)))]) [] []])
    mixed Try.func45 (by kernel_rfl) (by kernel_rfl) (by kernel_rfl) (by kernel_rfl) (by kernel_rfl) ⟨Contract0.inst (rlenS [] 0 0 (by omega) (by omega) (by omega)) [.z 1 (.ints .u8 [])] [some (1, 1)] [] [] (by kernel_rfl) (by kernel_rfl) (by kernel_rfl) (by kernel_rfl) (by kernel_rfl), trivial⟩) [.b 1 1 false] [] [] [] (by kernel_rfl) (by kernel_rfl) (by kernel_rfl) (by kernel_rfl) (by kernel_rfl)


theorem nextS (ex : Bool) (h : List Int) (p c : Nat)
    (hm : W.be2 h p < 65536)
    (hp : p + c ≤ h.length)
    (hc : c ≤ 1073741824)
    (hh : W.bytes h)
    (h2 : c < 2) :
    Contract0 Try.prog 45 [(.c (.ptr 1 0 0))] [(1, (.one ⟨true, ex, (.cells [(.sl 2 0 p c 1), (.bool (false))])⟩)), (2, (.one ⟨true, false, (.ints .u8 h)⟩))] 3 (.tup [(.c .nils), (.c (.bool (false)))]) [] [(1, (.one ⟨true, ex, (.cells [(.sl 2 0 p c 1), (.bool (false))])⟩)), (2, (.one ⟨true, false, (.ints .u8 h)⟩))] :=
  Contract0.renum (Contract0.of_frun (res := (.tup [(.c .nils), (.c (.bool (false)))])) (up := [(1, (.one ⟨true, ex, (.cells [(.sl 2 0 p c 1), (.bool (false))])⟩)), (2, (.one ⟨true, false, (.ints .u8 h)⟩))]) (kill := []) (n0 := 3) (m := [(1, (.one ⟨true, ex, (.cells [(.sl 2 0 p c 1), (.bool (false))])⟩)), (2, (.one ⟨true, false, (.ints .u8 h)⟩))]) (args := [(.c (.ptr 1 0 0))]) (fn := Try.f45) (c := bodyOf Try.f45) (fuel := 300) (k := kOf Try.prog Try.f45) (outs := [1, 2]) (hs := [(6, ⟨.call [2] (.tup [(.c (.int .i64 0)), (.c (.bool (false)))]) [] [], none⟩)])
    (cs := [Contract Try.prog 80 [(.c (.sl 2 0 p c 1))] [(2, (.one ⟨true, false, (.ints .u8 h)⟩))] 99 (.tup [(.c (.int .i64 0)), (.c (.bool (false)))]) [] []])
    mixed Try.func45 (by kernel_rfl) (by kernel_rfl) (by kernel_rfl) (by kernel_rfl) (by kernel_rfl) ⟨Contract0.inst (rlenS h p c (by omega) (by omega) (by omega)) [.b 2 1 true []] [none] [] [] (by kernel_rfl) (by kernel_rfl) (by kernel_rfl) (by kernel_rfl) (by kernel_rfl), trivial⟩) [.b 1 1 false, .b 2 2 false] [] [] [] (by kernel_rfl) (by kernel_rfl) (by kernel_rfl) (by kernel_rfl) (by kernel_rfl)


theorem nextW (ex : Bool) (h : List Int) (p c : Nat)
    (hm : W.be2 h p < 65536)
    (hp : p + c ≤ h.length)
    (hc : c ≤ 1073741824)
    (hh : W.bytes h)
    (h2 : 2 ≤ c)
    (h3 : c < 2 + W.be2 h p) :
    Contract0 Try.prog 45 [(.c (.ptr 1 0 0))] [(1, (.one ⟨true, ex, (.cells [(.sl 2 0 p c 1), (.bool (false))])⟩)), (2, (.one ⟨true, false, (.ints .u8 h)⟩))] 3 (.tup [(.c .nils), (.c (.bool (false)))]) [] [(1, (.one ⟨true, ex, (.cells [(.sl 2 0 p c 1), (.bool (false))])⟩)), (2, (.one ⟨true, false, (.ints .u8 h)⟩))] :=
  Contract0.renum (Contract0.of_frun (res := (.tup [(.c .nils), (.c (.bool (false)))])) (up := [(1, (.one ⟨true, ex, (.cells [(.sl 2 0 p c 1), (.bool (false))])⟩)), (2, (.one ⟨true, false, (.ints .u8 h)⟩))]) (kill := []) (n0 := 3) (m := [(1, (.one ⟨true, ex, (.cells [(.sl 2 0 p c 1), (.bool (false))])⟩)), (2, (.one ⟨true, false, (.ints .u8 h)⟩))]) (args := [(.c (.ptr 1 0 0))]) (fn := Try.f45) (c := bodyOf Try.f45) (fuel := 300) (k := kOf Try.prog Try.f45) (outs := [1, 2]) (hs := [(6, ⟨.call [2] (.tup [(.c (.int .i64 (↑(W.be2 h p)))), (.c (.bool (true)))]) [] [], none⟩), (21, ⟨.auto, some (.c (.int .i64 (↑(2 + W.be2 h p))))⟩), (22, ⟨.auto, some (.c (.bool (true)))⟩)])
    (cs := [EB (decide ((↑c : Int) < (↑(2 + W.be2 h p) : Int))) true,
      EI .i64 (IntKind.wrap IntKind.i64 (2 + (↑(W.be2 h p) : Int))) ((↑(2 + W.be2 h p) : Int)),
      Contract Try.prog 80 [(.c (.sl 2 0 p c 1))] [(2, (.one ⟨true, false, (.ints .u8 h)⟩))] 99 (.tup [(.c (.int .i64 (↑(W.be2 h p)))), (.c (.bool (true)))]) [] []])
    mixed Try.func45 (by kernel_rfl) (by kernel_rfl) (by kernel_rfl) (by kernel_rfl) (by kernel_rfl) ⟨.mk (decide_eq_true (by omega)), .mk (by simp only [addO_eq, mulE_eq, mulE_one, Int.toNat_natCast, IntKind.wrap_i64, mmin, mmax]; omega), Contract0.inst (rlenY h p c (by omega) (by omega) (by omega) (by omega)) [.b 2 1 true []] [none] [] [] (by kernel_rfl) (by kernel_rfl) (by kernel_rfl) (by kernel_rfl) (by kernel_rfl), trivial⟩) [.b 1 1 false, .b 2 2 false] [] [] [] (by kernel_rfl) (by kernel_rfl) (by kernel_rfl) (by kernel_rfl) (by kernel_rfl)


theorem nextY (ex : Bool) (h : List Int) (p c : Nat)
    (hm : W.be2 h p < 65536)
    (hp : p + c ≤ h.length)
    (hc : c ≤ 1073741824)
    (hh : W.bytes h)
    (h2 : 2 ≤ c)
    (h3 : 2 + W.be2 h p ≤ c) :
    Contract0 Try.prog 45 [(.c (.ptr 1 0 0))] [(1, (.one ⟨true, ex, (.cells [(.sl 2 0 p c 1), (.bool (false))])⟩)), (2, (.one ⟨true, false, (.ints .u8 h)⟩))] 3 (.tup [(.c (.sl 3 0 0 (W.be2 h p) 1)), (.c (.bool (true)))]) [] [(1, (.one ⟨true, ex, (.cells [(.sl 2 0 (p + (2 + W.be2 h p)) (c - (2 + W.be2 h p)) 1), (.bool (false))])⟩)), (2, (.one ⟨true, false, (.ints .u8 h)⟩)), (3, (.one ⟨true, false, (.ints .u8 (List.take (W.be2 h p) (List.drop (p + 2) h)))⟩))] :=
  Contract0.renum (Contract0.of_frun (res := (.tup [(.c (.sl 499 0 0 (W.be2 h p) 1)), (.c (.bool (true)))])) (up := [(1, (.one ⟨true, ex, (.cells [(.sl 2 0 (p + (2 + W.be2 h p)) (c - (2 + W.be2 h p)) 1), (.bool (false))])⟩)), (2, (.one ⟨true, false, (.ints .u8 h)⟩)), (499, (.one ⟨true, false, (.ints .u8 (List.take (W.be2 h p) (List.drop (p + 2) h)))⟩))]) (kill := []) (n0 := 3) (m := [(1, (.one ⟨true, ex, (.cells [(.sl 2 0 p c 1), (.bool (false))])⟩)), (2, (.one ⟨true, false, (.ints .u8 h)⟩))]) (args := [(.c (.ptr 1 0 0))]) (fn := Try.f45) (c := bodyOf Try.f45) (fuel := 300) (k := kOf Try.prog Try.f45) (outs := [1, 2, 499]) (hs := [(6, ⟨.call [2] (.tup [(.c (.int .i64 (↑(W.be2 h p)))), (.c (.bool (true)))]) [] [], none⟩), (21, ⟨.auto, some (.c (.int .i64 (↑(2 + W.be2 h p))))⟩), (22, ⟨.auto, some (.c (.bool (false)))⟩), (30, ⟨.auto, some (.c (.int .i64 (↑(2 + W.be2 h p))))⟩), (31, ⟨.ask, some (.c (.sl 2 0 (p + 2) (W.be2 h p) 1))⟩), (32, ⟨.call [2] (.c (.sl 499 0 0 (W.be2 h p) 1)) [] [(499, (.one ⟨true, false, (.ints .u8 (List.take (W.be2 h p) (List.drop (p + 2) h)))⟩))], none⟩), (40, ⟨.auto, some (.c (.int .i64 (↑(2 + W.be2 h p))))⟩), (41, ⟨.ask, some (.c (.sl 2 0 (p + (2 + W.be2 h p)) (c - (2 + W.be2 h p)) 1))⟩)])
    (cs := [((.c (.sl 2 0 (addO p (2 + W.be2 h p)) (Int.toNat (↑c - ↑(2 + W.be2 h p))) 1)) : V) = (.c (.sl 2 0 (p + (2 + W.be2 h p)) (c - (2 + W.be2 h p)) 1)),
      ((0 : Int) ≤ (↑((2 : Nat) + W.be2 h p) : Int) ∧ (↑((2 : Nat) + W.be2 h p) : Int) ≤ (↑c : Int) ∧ (↑c : Int) ≤ (↑c : Int)),
      EI .i64 (IntKind.wrap IntKind.i64 (2 + (↑(W.be2 h p) : Int))) ((↑(2 + W.be2 h p) : Int)),
      Contract Try.prog 75 [(.c (.sl 2 0 (p + 2) (W.be2 h p) 1))] [(2, (.one ⟨true, false, (.ints .u8 h)⟩))] 499 (.c (.sl 499 0 0 (W.be2 h p) 1)) [] [(499, (.one ⟨true, false, (.ints .u8 (List.take (W.be2 h p) (List.drop (p + 2) h)))⟩))],
      ((.c (.sl 2 0 (addO p 2) (Int.toNat (↑(2 + W.be2 h p) - 2)) 1)) : V) = (.c (.sl 2 0 (p + 2) (W.be2 h p) 1)),
      ((0 : Int) ≤ (2 : Int) ∧ (2 : Int) ≤ (↑((2 : Nat) + W.be2 h p) : Int) ∧ (↑((2 : Nat) + W.be2 h p) : Int) ≤ (↑c : Int)),
      EI .i64 (IntKind.wrap IntKind.i64 (2 + (↑(W.be2 h p) : Int))) ((↑(2 + W.be2 h p) : Int)),
      EB (decide ((↑c : Int) < (↑(2 + W.be2 h p) : Int))) false,
      EI .i64 (IntKind.wrap IntKind.i64 (2 + (↑(W.be2 h p) : Int))) ((↑(2 + W.be2 h p) : Int)),
      Contract Try.prog 80 [(.c (.sl 2 0 p c 1))] [(2, (.one ⟨true, false, (.ints .u8 h)⟩))] 99 (.tup [(.c (.int .i64 (↑(W.be2 h p)))), (.c (.bool (true)))]) [] []])
    mixed Try.func45 (by kernel_rfl) (by kernel_rfl) (by kernel_rfl) (by kernel_rfl) (by kernel_rfl) ⟨EV.sl (by simp only [addO_eq, mulE_eq, mulE_one, Int.toNat_natCast, IntKind.wrap_i64, mmin, mmax]) (by omega), (by omega), .mk (by simp only [addO_eq, mulE_eq, mulE_one, Int.toNat_natCast, IntKind.wrap_i64, mmin, mmax]; omega), Contract0.inst (clone h (p + 2) (W.be2 h p) (by omega) (by omega)) [.b 2 1 true []] [none] [(2, 499)] [] (by kernel_rfl) (by kernel_rfl) (by kernel_rfl) (by kernel_rfl) (by kernel_rfl), EV.sl (by simp only [addO_eq, mulE_eq, mulE_one, Int.toNat_natCast, IntKind.wrap_i64, mmin, mmax]) (by omega), (by omega), .mk (by simp only [addO_eq, mulE_eq, mulE_one, Int.toNat_natCast, IntKind.wrap_i64, mmin, mmax]; omega), .mk (decide_eq_false (by omega)), .mk (by simp only [addO_eq, mulE_eq, mulE_one, Int.toNat_natCast, IntKind.wrap_i64, mmin, mmax]; omega), Contract0.inst (rlenY h p c (by omega) (by omega) (by omega) (by omega)) [.b 2 1 true []] [none] [] [] (by kernel_rfl) (by kernel_rfl) (by kernel_rfl) (by kernel_rfl) (by kernel_rfl), trivial⟩) [.b 1 1 false, .b 2 2 false] [] [(499, 3)] [] (by kernel_rfl) (by kernel_rfl) (by kernel_rfl) (by kernel_rfl) (by kernel_rfl)


theorem heldB (ex : Bool) :
    Contract0 Try.prog 44 [(.c (.ptr 1 0 0))] [(1, (.one ⟨false, false, (.cells [.nils, (.bool (true))])⟩))] 2 (.c (.int .i64 0)) [] [] :=
  Contract0.of_frun (res := (.c (.int .i64 0))) (up := []) (kill := []) (n0 := 2) (m := [(1, (.one ⟨false, false, (.cells [.nils, (.bool (true))])⟩))]) (args := [(.c (.ptr 1 0 0))]) (fn := Try.f44) (c := bodyOf Try.f44) (fuel := 300) (k := kOf Try.prog Try.f44) (outs := []) (hs := [])
    (cs := [])
    mixed Try.func44 (by kernel_rfl) (by kernel_rfl) (by kernel_rfl) (by kernel_rfl) (by kernel_rfl) trivial


theorem heldY (h : List Int) (p c : Nat) :
    Contract0 Try.prog 44 [(.c (.ptr 1 0 0))] [(1, (.one ⟨false, false, (.cells [(.sl 2 0 p c 1), (.bool (false))])⟩)), (2, (.one ⟨false, false, (.ints .u8 h)⟩))] 3 (.c (.int .i64 (↑c))) [] [] :=
  Contract0.of_frun (res := (.c (.int .i64 (↑c)))) (up := []) (kill := []) (n0 := 3) (m := [(1, (.one ⟨false, false, (.cells [(.sl 2 0 p c 1), (.bool (false))])⟩)), (2, (.one ⟨false, false, (.ints .u8 h)⟩))]) (args := [(.c (.ptr 1 0 0))]) (fn := Try.f44) (c := bodyOf Try.f44) (fuel := 300) (k := kOf Try.prog Try.f44) (outs := []) (hs := [])
    (cs := [])
    mixed Try.func44 (by kernel_rfl) (by kernel_rfl) (by kernel_rfl) (by kernel_rfl) (by kernel_rfl) trivial


end Go.Proofs.Ytmfnldkiaodkpaa.Vm
