/- What functions of the program come to: parts of the walk (Gb). -/
import Derived.Test.YtohleiikedpmkaaGa
import Derived.Test.YtohleiikedpmkaaVmc
import Derived.KernelRfl
import Derived.Test.YtohleiikedpmkaaProg
set_option linter.unusedSimpArgs false
set_option linter.unusedVariables false
namespace Go.Proofs.Ytohleiikedpmkaa.Vm
open Go Go.Proofs Go.Proofs.Ytohleiikedpmkaa
set_option maxRecDepth 100000
def LBI (rr cw i : Nat) : S0 :=
  ⟨[(4, (.c (.ptr 1 0 0))), (5, (.c (.ptr 129 0 0))), (14, (.c (.int .i64 (↑rr)))), (15, (.c (.int .i64 (i : Int))))], [(1, (.one ⟨true, true, (.cells [(.int .i64 0), (.int .i64 0), .nils, (.int .i64 0), (.int .i64 0), (.bool (false))])⟩)), (129, (.one ⟨true, true, .cells [.int .i64 (rr : Int), .int .i64 (cw : Int), .sl 217 0 0 i 1, .int .i64 0, .int .i64 0, .bool false]⟩)), (217, (.one ⟨true, false, .gen i (fun j_ => .sl 218 j_ 0 cw 4)⟩)), (218, (.many (fun j_ => some ⟨true, true, .ig (W.rl i (cw * 4) j_) W.ck W.blank⟩)))], 225⟩
theorem LB_by {α : Type} (I : α → S0) (Inv : α → Prop) (μ : α → Nat) {ex : Ex} {s' : S0} (hex : ex ≠ .normal)
    (step : ∀ x, Inv x → (∃ y, Inv y ∧ μ y < μ x ∧ CodeOk Try.prog 29 209 (kAt (kOf Try.prog Try.f22) [true, true, false, true, false, false]) (I x) .normal (I y)) ∨ CodeOk Try.prog 29 209 (kAt (kOf Try.prog Try.f22) [true, true, false, true, false, false]) (I x) ex s') (x : α) (hx : Inv x) :
    CodeOk Try.prog 29 209 (kAt (kOf Try.prog Try.f22) [true, true, false, true, false]) (I x) ex s' := by
  have hk : (kAt (kOf Try.prog Try.f22) [true, true, false, true, false]) = .loop (kAt (kOf Try.prog Try.f22) [true, true, false, true, false, false]) := by kernel_rfl
  rw [hk]
  exact CodeOk.loop I Inv μ hex step x hx
def LB0 (rr cw : Nat) : S0 :=
  ⟨[(4, (.c (.ptr 1 0 0))), (5, (.c (.ptr 129 0 0))), (14, (.c (.int .i64 (↑rr)))), (15, (.c (.int .i64 0)))], [(1, (.one ⟨true, true, (.cells [(.int .i64 0), (.int .i64 0), .nils, (.int .i64 0), (.int .i64 0), (.bool (false))])⟩)), (129, (.one ⟨true, true, (.cells [(.int .i64 (↑rr)), (.int .i64 (↑cw)), .nils, (.int .i64 0), (.int .i64 0), (.bool (false))])⟩))], 209⟩
theorem LB_rt (rr cw i : Nat)
    (hR : 1 ≤ rr ∧ rr ≤ 60)
    (hC : 1 ≤ cw ∧ cw ≤ 120)
    (hi : i ≤ rr)
    (h0 : ((↑i : Int) < (↑rr : Int))) :
    CodeOk Try.prog 29 209 (kAt (kOf Try.prog Try.f22) [true, true, false, true, false, false]) (LBI rr cw i) .normal ⟨[(4, (.c (.ptr 1 0 0))), (5, (.c (.ptr 129 0 0))), (14, (.c (.int .i64 (↑rr)))), (15, (.c (.int .i64 (↑(i + 1)))))], [(1, (.one ⟨true, true, (.cells [(.int .i64 0), (.int .i64 0), .nils, (.int .i64 0), (.int .i64 0), (.bool (false))])⟩)), (129, (.one ⟨true, true, (.cells [(.int .i64 (↑rr)), (.int .i64 (↑cw)), (.sl 209 0 0 (i + 1) 1), (.int .i64 0), (.int .i64 0), (.bool (false))])⟩)), (218, (.many (fun j_ => some ⟨true, true, (.ig (W.rl i (cw * 4) j_) W.ck W.blank)⟩))), (209, (.one ⟨true, false, (.gen (i + 1) (fun j_ => (renC [(217, 217), (218, 218), (369, 209), (337, 210)] 209 (bif Nat.blt j_ (mulE i 1) then C.sl 218 (0 + j_) 0 cw 4 else List.getD (List.take 1 (List.drop 0 [C.sl 337 0 0 cw 4])) (j_ - mulE i 1) C.unk))))⟩)), (210, (.one ⟨true, true, (.ig (cw * 4) W.ck W.blank)⟩))], 225⟩ :=
  CodeOk.of_runs (fuel := 300) (v := ⟨[4, 5, 14, 15], [1, 129, 217, 218, 369, 337], [(217, 217), (218, 218), (369, 209), (337, 210)], 225⟩) (hs := [(0, ⟨.auto, some (.c (.bool (true)))⟩), (8, ⟨.call [289] (.c (.sl 337 0 0 cw 4)) [] [(337, (.one ⟨true, true, (.ig (cw * 4) W.ck W.blank)⟩))], none⟩), (10, ⟨.ask, some (.c (.sl 369 0 0 (i + 1) 1))⟩), (13, ⟨.auto, some (.c (.int .i64 (↑(i + 1))))⟩)])
    (cs := [EI .i64 (IntKind.wrap IntKind.i64 ((↑i : Int) + 1)) ((↑(i + 1) : Int)),
      ((.c (.sl 369 0 0 (addO i 1) 1)) : V) = (.c (.sl 369 0 0 (i + 1) 1)),
      ((1 : Nat) ≤ (1 : Nat) ∧ (25 : Nat) * (i + (1 : Nat)) ≤ (4398046511104 : Nat) ∧ (0 : Nat) + i * (1 : Nat) ≤ i),
      Contract Try.prog 39 [(.c (.sl 289 0 0 1 4)), (.c (.int .i64 (↑cw)))] [(289, (.one ⟨true, true, (.cells [(.int .i32 32), (.int .i64 0), (.int .i64 0), (.int .i64 0)])⟩))] 337 (.c (.sl 337 0 0 cw 4)) [] [(337, (.one ⟨true, true, (.ig (cw * 4) W.ck W.blank)⟩))],
      EB (decide ((↑i : Int) < (↑rr : Int))) true])
    mixed (by kernel_rfl) ⟨.mk (by simp only [addO_eq, mulE_eq, mulE_one, Int.toNat_natCast, IntKind.wrap_i64, mmin, mmax]; omega), EV.sl (by rfl) (by simp only [addO_eq, mulE_eq, mulE_one, Int.toNat_natCast, IntKind.wrap_i64, mmin, mmax]), (by omega), Contract0.in1 (repeat_ok cw (by omega)) [.b 289 1 true []] [none, none] [(2, 337)] [] (by kernel_rfl), .mk (decide_eq_true h0), trivial⟩
theorem LB_xf (rr cw i : Nat)
    (hR : 1 ≤ rr ∧ rr ≤ 60)
    (hC : 1 ≤ cw ∧ cw ≤ 120)
    (hi : i ≤ rr)
    (h0 : (¬(↑i : Int) < (↑rr : Int))) :
    CodeOk Try.prog 29 209 (kAt (kOf Try.prog Try.f22) [true, true, false, true, false, false]) (LBI rr cw i) (.exit 0) (LBI rr cw i) :=
  CodeOk.of_runs (fuel := 300) (v := ⟨[4, 5, 14, 15], [1, 129, 217, 218], [(217, 217), (218, 218)], 225⟩) (hs := [(0, ⟨.auto, some (.c (.bool (false)))⟩)])
    (cs := [EB (decide ((↑i : Int) < (↑rr : Int))) false])
    mixed (by kernel_rfl) ⟨.mk (decide_eq_false h0), trivial⟩
end Go.Proofs.Ytohleiikedpmkaa.Vm

namespace Go.Proofs.Ytohleiikedpmkaa.Vm
open Go Go.Proofs Go.Proofs.Ytohleiikedpmkaa
theorem blank_loop (rr cw : Nat) (hR : 1 ≤ rr ∧ rr ≤ 60) (hC : 1 ≤ cw ∧ cw ≤ 120) : CodeOk Try.prog 29 209 (kAt (kOf Try.prog Try.f22) [true, true, false, true, false]) (LB0 rr cw) (.exit 0) (LBI rr cw rr) := by
  have h : CodeOk Try.prog 29 209 (kAt (kOf Try.prog Try.f22) [true, true, false, true, false]) (LBI rr cw 0) (.exit 0) (LBI rr cw rr) := by
    refine LB_by (fun i => LBI rr cw i) (fun i => i ≤ rr) (fun i => rr - i) (by simp) ?_ 0 (Nat.zero_le _)
    intro i hi
    by_cases h0 : (i : Int) < (rr : Int)
    · refine .inl ⟨i + 1, by omega, by omega, (LB_rt rr cw i hR hC hi h0).move (Move.grow (H := 217) (h' := 209) (F := 218) (N := 210) (i := i) (by decide) (show 209 ≤ 225 ∧ 217 < 225 ∧ 218 < 225 by decide) (by decide) (by decide) ?_ ?_)⟩
      · refine ⟨?_, ?_, ?_, ?_, trivial⟩
        · exact BR.cells (growRho_low (by decide)) rfl (fun h => h) ⟨⟨rfl, rfl⟩, ⟨rfl, rfl⟩, trivial, ⟨rfl, rfl⟩, ⟨rfl, rfl⟩, rfl, trivial⟩
        · exact BR.cells (growRho_low (by decide)) rfl (fun h => h) ⟨⟨rfl, rfl⟩, ⟨rfl, rfl⟩, ⟨growRho_H (by decide), rfl, rfl, rfl⟩, ⟨rfl, rfl⟩, ⟨rfl, rfl⟩, rfl, trivial⟩
        · exact BR.gen (growRho_H (by decide)) rfl (fun h => h) rfl (fun p hp => hdr_cell hp (by decide) (by decide) rfl rfl)
        · exact row_grow (by decide) (by decide) (fun j => rfl) rfl (fun h => h) (fun _ _ => rfl)
      · exact ⟨rfl, ⟨growRho_low (by decide), rfl⟩, rfl, ⟨growRho_low (by decide), rfl⟩, rfl, ⟨rfl, rfl⟩, rfl, ⟨rfl, rfl⟩, trivial⟩
    · have e : i = rr := by omega
      subst e
      exact .inr (LB_xf i cw i hR hC hi h0)
  refine CodeOk.enter (Move.begin (fun b _ => Nat.beq b 217 || Nat.beq b 218) (by decide) (show 209 ≤ 225 by decide) ?_ ?_ ?_) h
  · intro b k hb
    have hb : 225 ≤ b := hb
    rw [beqF (by omega), beqF (by omega)]; rfl
  · refine ⟨?_, ?_, ?_, ?_, trivial⟩
    · exact BR.cells (newRho_low (by decide)) rfl (fun h => h) ⟨⟨rfl, rfl⟩, ⟨rfl, rfl⟩, trivial, ⟨rfl, rfl⟩, ⟨rfl, rfl⟩, rfl, trivial⟩
    · exact BR.cells (newRho_low (by decide)) rfl (fun h => h) ⟨⟨rfl, rfl⟩, ⟨rfl, rfl⟩, rfl, ⟨rfl, rfl⟩, ⟨rfl, rfl⟩, rfl, trivial⟩
    · exact BR.none (newRho_high (by decide)) rfl rfl rfl
    · intro j k hk
      injection hk with hk
      subst hk
      exact BR.none (newRho_high (by decide)) rfl rfl (rl_ge (i := 0) (n := cw * 4) (j := j) (Nat.zero_le _))
  · exact ⟨rfl, ⟨newRho_low (by decide), rfl⟩, rfl, ⟨newRho_low (by decide), rfl⟩, rfl, ⟨rfl, rfl⟩, rfl, ⟨rfl, rfl⟩, trivial⟩
end Go.Proofs.Ytohleiikedpmkaa.Vm

namespace Go.Proofs.Ytohleiikedpmkaa.Vm
open Go Go.Proofs Go.Proofs.Ytohleiikedpmkaa
set_option maxRecDepth 100000
theorem blank_ok (rr cw : Nat)
    (hR : 1 ≤ rr ∧ rr ≤ 60)
    (hC : 1 ≤ cw ∧ cw ≤ 120) :
    Contract0 Try.prog 22 [(.c (.int .i64 (↑rr))), (.c (.int .i64 (↑cw)))] [] 1 (.agg [(.int .i64 (↑rr)), (.int .i64 (↑cw)), (.sl 1 0 0 rr 1), (.int .i64 0), (.int .i64 0), (.bool (false))]) [] [(1, (.one ⟨true, false, (.gen rr (fun j_ => (.sl 2 j_ 0 cw 4)))⟩)), (2, (.many (fun j_ => some ⟨true, true, (.ig (W.rl rr (cw * 4) j_) W.ck W.blank)⟩)))] :=
  Contract0.renum (Contract0.of_frun (res := (.agg [(.int .i64 (↑rr)), (.int .i64 (↑cw)), (.sl 217 0 0 rr 1), (.int .i64 0), (.int .i64 0), (.bool (false))])) (up := [(217, (.one ⟨true, false, (.gen rr (fun j_ => (.sl 218 j_ 0 cw 4)))⟩)), (218, (.many (fun j_ => some ⟨true, true, (.ig (W.rl rr (cw * 4) j_) W.ck W.blank)⟩)))]) (kill := []) (n0 := 1) (m := []) (args := [(.c (.int .i64 (↑rr))), (.c (.int .i64 (↑cw)))]) (fn := Try.f22) (c := bodyOf Try.f22) (fuel := 300) (k := kOf Try.prog Try.f22) (outs := [217, 218]) (hs := [(2, ⟨.auto, some (.c (.int .i64 (↑rr)))⟩), (3, ⟨.auto, some (.c (.int .i64 (↑rr)))⟩), (5, ⟨.auto, some (.c (.int .i64 (↑cw)))⟩), (6, ⟨.auto, some (.c (.int .i64 (↑cw)))⟩), (13, ⟨.sum ⟨[4, 5, 14, 15], [1, 129], [], 209⟩ (.exit 0) (LBI rr cw rr), none⟩)])
    (cs := [OwnF (fun j_ => some ⟨true, true, (.ig (W.rl rr (cw * 4) j_) W.ck W.blank)⟩),
      CodeOk Try.prog 29 209 (kAt (kOf Try.prog Try.f22) [true, true, false, true, false]) (LB0 rr cw) (.exit 0) (LBI rr cw rr),
      EI .i64 (bif decide (120 < (↑cw : Int)) then 120 else (↑cw : Int)) ((↑cw : Int)),
      EI .i64 (bif decide (1 > (↑cw : Int)) then 1 else (↑cw : Int)) ((↑cw : Int)),
      EI .i64 (bif decide (60 < (↑rr : Int)) then 60 else (↑rr : Int)) ((↑rr : Int)),
      EI .i64 (bif decide (1 > (↑rr : Int)) then 1 else (↑rr : Int)) ((↑rr : Int))])
    mixed Try.func22 (by kernel_rfl) (by kernel_rfl) (by kernel_rfl) (by kernel_rfl) (by kernel_rfl) ⟨OwnF.of (fun _ => rfl), (blank_loop rr cw (by omega) (by omega)), .mk (by simp only [addO_eq, mulE_eq, mulE_one, Int.toNat_natCast, IntKind.wrap_i64, mmin, mmax]; omega), .mk (by simp only [addO_eq, mulE_eq, mulE_one, Int.toNat_natCast, IntKind.wrap_i64, mmin, mmax]; omega), .mk (by simp only [addO_eq, mulE_eq, mulE_one, Int.toNat_natCast, IntKind.wrap_i64, mmin, mmax]; omega), .mk (by simp only [addO_eq, mulE_eq, mulE_one, Int.toNat_natCast, IntKind.wrap_i64, mmin, mmax]; omega), trivial⟩) [] [] [(217, 1), (218, 2)] [] (by kernel_rfl) (by kernel_rfl) (by kernel_rfl) (by kernel_rfl) (by kernel_rfl)
end Go.Proofs.Ytohleiikedpmkaa.Vm

namespace Go.Proofs.Ytohleiikedpmkaa.Vm
open Go Go.Proofs Go.Proofs.Ytohleiikedpmkaa
set_option maxRecDepth 100000
theorem clip60 (n : Nat)
    (hn : 1 ≤ n ∧ n ≤ 60) :
    PureF Try.prog 40 [(.c (.int .i64 (↑n))), (.c (.int .i64 1)), (.c (.int .i64 60))] (.c (.int .i64 (↑n))) :=
  Contract0.fr 300 [(4, ⟨.auto, some (.c (.int .i64 (↑n)))⟩), (5, ⟨.auto, some (.c (.int .i64 (↑(max 1 n))))⟩), (6, ⟨.auto, some (.c (.int .i64 (↑n)))⟩)] [] [EI .i64 ((↑(max 1 n) : Int)) ((↑n : Int)),
      EI .i64 (bif decide ((↑n : Int) > 1) then (↑n : Int) else 1) ((↑(max 1 n) : Int)),
      EI .i64 (bif decide (60 < (↑n : Int)) then 60 else (↑n : Int)) ((↑n : Int))] mixed Try.func40 (by kernel_rfl) ⟨.mk (by omega), .mk (by simp only [addO_eq, mulE_eq, mulE_one, Int.toNat_natCast, IntKind.wrap_i64, mmin, mmax]; omega), .mk (by simp only [addO_eq, mulE_eq, mulE_one, Int.toNat_natCast, IntKind.wrap_i64, mmin, mmax]; omega), trivial⟩
theorem clip120 (n : Nat)
    (hn : 1 ≤ n ∧ n ≤ 120) :
    PureF Try.prog 40 [(.c (.int .i64 (↑n))), (.c (.int .i64 1)), (.c (.int .i64 120))] (.c (.int .i64 (↑n))) :=
  Contract0.fr 300 [(4, ⟨.auto, some (.c (.int .i64 (↑n)))⟩), (5, ⟨.auto, some (.c (.int .i64 (↑(max 1 n))))⟩), (6, ⟨.auto, some (.c (.int .i64 (↑n)))⟩)] [] [EI .i64 ((↑(max 1 n) : Int)) ((↑n : Int)),
      EI .i64 (bif decide ((↑n : Int) > 1) then (↑n : Int) else 1) ((↑(max 1 n) : Int)),
      EI .i64 (bif decide (120 < (↑n : Int)) then 120 else (↑n : Int)) ((↑n : Int))] mixed Try.func40 (by kernel_rfl) ⟨.mk (by omega), .mk (by simp only [addO_eq, mulE_eq, mulE_one, Int.toNat_natCast, IntKind.wrap_i64, mmin, mmax]; omega), .mk (by simp only [addO_eq, mulE_eq, mulE_one, Int.toNat_natCast, IntKind.wrap_i64, mmin, mmax]; omega), trivial⟩
end Go.Proofs.Ytohleiikedpmkaa.Vm

namespace Go.Proofs.Ytohleiikedpmkaa.Vm
open Go Go.Proofs Go.Proofs.Ytohleiikedpmkaa
set_option maxRecDepth 100000
def LSI (rr cw i k : Nat) : S0 :=
  ⟨[(4, (.c (.ptr 1 0 0))), (5, (.c (.ptr 97 0 0))), (6, (.c (.int .i64 (i : Int)))), (7, (.c (.sl 257 0 0 cw 4))), (8, (.c (.int .i64 (k : Int))))], [(1, (.one ⟨true, true, (.cells [(.int .i64 0), (.int .i64 0), .nils, (.int .i64 0), (.int .i64 0), (.bool (false))])⟩)), (97, (.one ⟨true, true, .cells [.int .i64 (rr : Int), .int .i64 (cw : Int), .sl 153 0 0 i 1, .int .i64 0, .int .i64 0, .bool false]⟩)), (153, (.one ⟨true, false, .gen i (fun j_ => .sl 154 j_ 0 cw 4)⟩)), (154, (.many (fun j_ => some ⟨true, true, .ig (W.rl i (cw * 4) j_) W.ck W.blank⟩))), (257, (.one ⟨true, true, .ig (cw * 4) W.ck (W.rep k)⟩))], 100016⟩
theorem LS_by {α : Type} (I : α → S0) (Inv : α → Prop) (μ : α → Nat) {ex : Ex} {s' : S0} (hex : ex ≠ .normal)
    (step : ∀ x, Inv x → (∃ y, Inv y ∧ μ y < μ x ∧ CodeOk Try.prog 40 100000 (kAt (kOf Try.prog Try.f23) [true, true, false, true, false, false, true, false, false, true, false, true, false, false]) (I x) .normal (I y)) ∨ CodeOk Try.prog 40 100000 (kAt (kOf Try.prog Try.f23) [true, true, false, true, false, false, true, false, false, true, false, true, false, false]) (I x) ex s') (x : α) (hx : Inv x) :
    CodeOk Try.prog 40 100000 (kAt (kOf Try.prog Try.f23) [true, true, false, true, false, false, true, false, false, true, false, true, false]) (I x) ex s' := by
  have hk : (kAt (kOf Try.prog Try.f23) [true, true, false, true, false, false, true, false, false, true, false, true, false]) = .loop (kAt (kOf Try.prog Try.f23) [true, true, false, true, false, false, true, false, false, true, false, true, false, false]) := by kernel_rfl
  rw [hk]
  exact CodeOk.loop I Inv μ hex step x hx
theorem LS_rt (rr cw i k : Nat)
    (hR : 1 ≤ rr ∧ rr ≤ 60)
    (hC : 1 ≤ cw ∧ cw ≤ 120)
    (hi : i ≤ rr)
    (hk : k ≤ cw)
    (h0 : ((↑k : Int) < (↑cw : Int))) :
    CodeOk Try.prog 40 100000 (kAt (kOf Try.prog Try.f23) [true, true, false, true, false, false, true, false, false, true, false, true, false, false]) (LSI rr cw i k) .normal ⟨[(4, (.c (.ptr 1 0 0))), (5, (.c (.ptr 97 0 0))), (6, (.c (.int .i64 (↑i)))), (7, (.c (.sl 257 0 0 cw 4))), (8, (.c (.int .i64 (↑(k + 1)))))], [(1, (.one ⟨true, true, (.cells [(.int .i64 0), (.int .i64 0), .nils, (.int .i64 0), (.int .i64 0), (.bool (false))])⟩)), (97, (.one ⟨true, true, (.cells [(.int .i64 (↑rr)), (.int .i64 (↑cw)), (.sl 153 0 0 i 1), (.int .i64 0), (.int .i64 0), (.bool (false))])⟩)), (153, (.one ⟨true, false, (.gen i (fun j_ => (.sl 154 j_ 0 cw 4)))⟩)), (154, (.many (fun j_ => some ⟨true, true, (.ig (W.rl i (cw * 4) j_) W.ck W.blank)⟩))), (257, (.one ⟨true, true, (.ig (cw * 4) (fun p_ => (bif inR (k * 4) 1 p_ then igK [(IntKind.i32, 32)] (p_ - k * 4) else W.ck p_)) (fun p_ => (bif inR (k * 4) 1 p_ then igG [(IntKind.i32, 32)] (p_ - k * 4) else W.rep k p_)))⟩))], 100016⟩ :=
  CodeOk.of_runs (fuel := 300) (v := ⟨[4, 5, 6, 7, 8], [1, 97, 153, 154, 257], [], 100016⟩) (hs := [(3, ⟨.auto, some (.c (.bool (true)))⟩), (7, ⟨.ask, none⟩), (8, ⟨.auto, some (.c (.ptr 257 0 (k * 4)))⟩), (9, ⟨.ask, none⟩), (11, ⟨.auto, some (.c (.int .i64 (↑(k + 1))))⟩)])
    (cs := [EI .i64 (IntKind.wrap IntKind.i64 ((↑k : Int) + 1)) ((↑(k + 1) : Int)),
      (k * (4 : Nat) + (1 : Nat) ≤ cw * (4 : Nat) ∧ (1 : Nat) = (1 : Nat)),
      ((.c (.ptr 257 0 (addO (k * 4) 0))) : V) = (.c (.ptr 257 0 (k * 4))),
      ((0 : Int) ≤ (↑k : Int) ∧ (↑k : Int) < (↑cw : Int)),
      EB (decide ((↑k : Int) < (↑cw : Int))) true])
    mixed (by kernel_rfl) ⟨.mk (by simp only [addO_eq, mulE_eq, mulE_one, Int.toNat_natCast, IntKind.wrap_i64, mmin, mmax]; omega), (by omega), EV.ptr (by simp only [addO_eq, mulE_eq, mulE_one, Int.toNat_natCast, IntKind.wrap_i64, mmin, mmax]; omega), (by omega), .mk (decide_eq_true h0), trivial⟩
theorem LS_xf (rr cw i k : Nat)
    (hR : 1 ≤ rr ∧ rr ≤ 60)
    (hC : 1 ≤ cw ∧ cw ≤ 120)
    (hi : i ≤ rr)
    (hk : k ≤ cw)
    (h0 : (¬(↑k : Int) < (↑cw : Int))) :
    CodeOk Try.prog 40 100000 (kAt (kOf Try.prog Try.f23) [true, true, false, true, false, false, true, false, false, true, false, true, false, false]) (LSI rr cw i k) (.exit 2) (LSI rr cw i k) :=
  CodeOk.of_runs (fuel := 300) (v := ⟨[4, 5, 6, 7, 8], [1, 97, 153, 154, 257], [], 100016⟩) (hs := [(3, ⟨.auto, some (.c (.bool (false)))⟩)])
    (cs := [EB (decide ((↑k : Int) < (↑cw : Int))) false])
    mixed (by kernel_rfl) ⟨.mk (decide_eq_false h0), trivial⟩
end Go.Proofs.Ytohleiikedpmkaa.Vm

namespace Go.Proofs.Ytohleiikedpmkaa.Vm
open Go Go.Proofs Go.Proofs.Ytohleiikedpmkaa
def LSB (rr cw i : Nat) : S0 :=
  ⟨[(4, (.c (.ptr 1 0 0))), (5, (.c (.ptr 97 0 0))), (6, (.c (.int .i64 (i : Int)))), (7, (.c (.sl 257 0 0 cw 4))), (8, (.c (.int .i64 0)))], [(1, (.one ⟨true, true, (.cells [(.int .i64 0), (.int .i64 0), .nils, (.int .i64 0), (.int .i64 0), (.bool (false))])⟩)), (97, (.one ⟨true, true, .cells [.int .i64 (rr : Int), .int .i64 (cw : Int), .sl 153 0 0 i 1, .int .i64 0, .int .i64 0, .bool false]⟩)), (153, (.one ⟨true, false, .gen i (fun j_ => .sl 154 j_ 0 cw 4)⟩)), (154, (.many (fun j_ => some ⟨true, true, .ig (W.rl i (cw * 4) j_) W.ck W.blank⟩))), (257, (.one ⟨true, true, (.ig (cw * 4) (fun p_ => (igK [(IntKind.i32, 0), (IntKind.i64, 0), (IntKind.i64, 0), (IntKind.i64, 0)] (p_ % 4))) (fun p_ => (igG [(IntKind.i32, 0), (IntKind.i64, 0), (IntKind.i64, 0), (IntKind.i64, 0)] (p_ % 4))))⟩))], 100000⟩
theorem put1_ck (k p : Nat) : (bif inR (k * 4) 1 p then igK [(IntKind.i32, 32)] (p - k * 4) else W.ck p) = W.ck p := by
  cases h : inR (k * 4) 1 p with
  | false => rfl
  | true =>
    have h1 := inR_iff.1 h
    have e : p - k * 4 = 0 := by omega
    rw [e, W.ck_32 (o := p) (by omega)]; rfl
theorem put1_val (k p : Nat) : (bif inR (k * 4) 1 p then igG [(IntKind.i32, 32)] (p - k * 4) else W.rep k p) = W.rep (k + 1) p := by
  cases h : inR (k * 4) 1 p with
  | false =>
    have h1 : ¬ (k * 4 ≤ p ∧ p < k * 4 + 1) := fun e => by rw [inR_iff.2 e] at h; cases h
    show W.rep k p = W.rep (k + 1) p
    unfold W.rep W.blank
    by_cases h2 : p < 4 * k
    · simp only [if_pos h2, if_pos (show p < 4 * (k + 1) by omega)]
    · by_cases h3 : p < 4 * (k + 1)
      · simp only [if_neg h2, if_pos h3, if_neg (show ¬ p % 4 = 0 by omega)]
      · simp only [if_neg h2, if_neg h3]
  | true =>
    have h1 := inR_iff.1 h
    have e : p - k * 4 = 0 := by omega
    rw [e]
    show (32 : Int) = W.rep (k + 1) p
    unfold W.rep W.blank
    rw [if_pos (by omega), if_pos (by omega)]
theorem zero_ck (p : Nat) : igK [(IntKind.i32, 0), (IntKind.i64, 0), (IntKind.i64, 0), (IntKind.i64, 0)] (p % 4) = W.ck p := by
  have key : ∀ q, q < 4 → igK [(IntKind.i32, 0), (IntKind.i64, 0), (IntKind.i64, 0), (IntKind.i64, 0)] q = W.ck q := by decide
  rw [key (p % 4) (by omega)]
  unfold W.ck
  rw [Nat.mod_mod]
theorem zero_val (p : Nat) : igG [(IntKind.i32, 0), (IntKind.i64, 0), (IntKind.i64, 0), (IntKind.i64, 0)] (p % 4) = W.rep 0 p := by
  have key : ∀ q, q < 4 → igG [(IntKind.i32, 0), (IntKind.i64, 0), (IntKind.i64, 0), (IntKind.i64, 0)] q = 0 := by decide
  rw [key (p % 4) (by omega)]
  unfold W.rep
  rw [if_neg (by omega)]
theorem bs_inner (rr cw i : Nat) (hC : 1 ≤ cw ∧ cw ≤ 120) (hR : 1 ≤ rr ∧ rr ≤ 60) (hi : i ≤ rr) :
    CodeOk Try.prog 40 100000 (kAt (kOf Try.prog Try.f23) [true, true, false, true, false, false, true, false, false, true, false, true, false]) (LSB rr cw i) (.exit 2) (LSI rr cw i cw) := by
  have h : CodeOk Try.prog 40 100000 (kAt (kOf Try.prog Try.f23) [true, true, false, true, false, false, true, false, false, true, false, true, false]) (LSI rr cw i 0) (.exit 2) (LSI rr cw i cw) := by
    refine LS_by (fun k => LSI rr cw i k) (fun k => k ≤ cw) (fun k => cw - k) (by simp) ?_ 0 (Nat.zero_le _)
    intro k hk
    by_cases h0 : (k : Int) < (cw : Int)
    · refine .inl ⟨k + 1, by omega, by omega, (LS_rt rr cw i k hR hC hi hk h0).move (Move.same (by decide) (by decide) (by decide) rfl ?_)⟩
      exact ⟨SameB.refl rfl, SameB.refl rfl, SameB.refl rfl, fun j k e => SameB.refl e, SameB.ig rfl (fun h => h) (fun p _ => put1_ck _ p) (fun p _ => put1_val _ p), trivial⟩
    · have e : k = cw := by omega
      subst e
      exact .inr (LS_xf rr k i k hR hC hi hk h0)
  refine CodeOk.enter (Move.same (by decide) (by decide) (by decide) rfl ?_) h
  exact ⟨SameB.refl rfl, SameB.refl rfl, SameB.refl rfl, fun j k e => SameB.refl e, SameB.ig rfl (fun h => h) (fun p _ => zero_ck p) (fun p _ => zero_val p), trivial⟩
end Go.Proofs.Ytohleiikedpmkaa.Vm

namespace Go.Proofs.Ytohleiikedpmkaa.Vm
open Go Go.Proofs Go.Proofs.Ytohleiikedpmkaa
set_option maxRecDepth 100000
def LTI (rr cw i : Nat) : S0 :=
  ⟨[(4, (.c (.ptr 1 0 0))), (5, (.c (.ptr 97 0 0))), (6, (.c (.int .i64 (i : Int))))], [(1, (.one ⟨true, true, (.cells [(.int .i64 0), (.int .i64 0), .nils, (.int .i64 0), (.int .i64 0), (.bool (false))])⟩)), (97, (.one ⟨true, true, .cells [.int .i64 (rr : Int), .int .i64 (cw : Int), .sl 153 0 0 i 1, .int .i64 0, .int .i64 0, .bool false]⟩)), (153, (.one ⟨true, false, .gen i (fun j_ => .sl 154 j_ 0 cw 4)⟩)), (154, (.many (fun j_ => some ⟨true, true, .ig (W.rl i (cw * 4) j_) W.ck W.blank⟩)))], 161⟩
theorem LT_by {α : Type} (I : α → S0) (Inv : α → Prop) (μ : α → Nat) {ex : Ex} {s' : S0} (hex : ex ≠ .normal)
    (step : ∀ x, Inv x → (∃ y, Inv y ∧ μ y < μ x ∧ CodeOk Try.prog 40 145 (kAt (kOf Try.prog Try.f23) [true, true, false, true, false, false]) (I x) .normal (I y)) ∨ CodeOk Try.prog 40 145 (kAt (kOf Try.prog Try.f23) [true, true, false, true, false, false]) (I x) ex s') (x : α) (hx : Inv x) :
    CodeOk Try.prog 40 145 (kAt (kOf Try.prog Try.f23) [true, true, false, true, false]) (I x) ex s' := by
  have hk : (kAt (kOf Try.prog Try.f23) [true, true, false, true, false]) = .loop (kAt (kOf Try.prog Try.f23) [true, true, false, true, false, false]) := by kernel_rfl
  rw [hk]
  exact CodeOk.loop I Inv μ hex step x hx
def LT0 (rr cw : Nat) : S0 :=
  ⟨[(4, (.c (.ptr 1 0 0))), (5, (.c (.ptr 97 0 0))), (6, (.c (.int .i64 0)))], [(1, (.one ⟨true, true, (.cells [(.int .i64 0), (.int .i64 0), .nils, (.int .i64 0), (.int .i64 0), (.bool (false))])⟩)), (97, (.one ⟨true, true, (.cells [(.int .i64 (↑rr)), (.int .i64 (↑cw)), .nils, (.int .i64 0), (.int .i64 0), (.bool (false))])⟩))], 145⟩
theorem LT_rt (rr cw i : Nat)
    (hR : 1 ≤ rr ∧ rr ≤ 60)
    (hC : 1 ≤ cw ∧ cw ≤ 120)
    (hi : i ≤ rr)
    (h0 : ((↑i : Int) < (↑rr : Int))) :
    CodeOk Try.prog 40 145 (kAt (kOf Try.prog Try.f23) [true, true, false, true, false, false]) (LTI rr cw i) .normal ⟨[(4, (.c (.ptr 1 0 0))), (5, (.c (.ptr 97 0 0))), (6, (.c (.int .i64 (↑(i + 1)))))], [(1, (.one ⟨true, true, (.cells [(.int .i64 0), (.int .i64 0), .nils, (.int .i64 0), (.int .i64 0), (.bool (false))])⟩)), (97, (.one ⟨true, true, (.cells [(.int .i64 (↑rr)), (.int .i64 (↑cw)), (.sl 145 0 0 (i + 1) 1), (.int .i64 0), (.int .i64 0), (.bool (false))])⟩)), (154, (.many (fun j_ => some ⟨true, true, (.ig (W.rl i (cw * 4) j_) W.ck W.blank)⟩))), (145, (.one ⟨true, false, (.gen (i + 1) (fun j_ => (renC [(153, 153), (154, 154), (100080, 145), (257, 146)] 145 (bif Nat.blt j_ (mulE i 1) then C.sl 154 (0 + j_) 0 cw 4 else List.getD (List.take 1 (List.drop 0 [C.sl 257 0 0 cw 4])) (j_ - mulE i 1) C.unk))))⟩)), (146, (.one ⟨true, true, (.ig (cw * 4) W.ck (fun p_ => (W.rep cw p_)))⟩))], 161⟩ :=
  CodeOk.of_runs (fuel := 300) (v := ⟨[4, 5, 6], [1, 97, 153, 154, 100080, 257], [(153, 153), (154, 154), (100080, 145), (257, 146)], 161⟩) (hs := [(3, ⟨.auto, some (.c (.bool (true)))⟩), (7, ⟨.ask, none⟩), (10, ⟨.sum ⟨[4, 5, 6, 7, 8], [1, 97, 153, 154, 257], [], 100000⟩ (.exit 2) (LSI rr cw i cw), none⟩), (15, ⟨.ask, some (.c (.sl 100080 0 0 (i + 1) 1))⟩), (19, ⟨.auto, some (.c (.int .i64 (↑(i + 1))))⟩)])
    (cs := [EI .i64 (IntKind.wrap IntKind.i64 ((↑i : Int) + 1)) ((↑(i + 1) : Int)),
      ((.c (.sl 100080 0 0 (addO i 1) 1)) : V) = (.c (.sl 100080 0 0 (i + 1) 1)),
      ((1 : Nat) ≤ (1 : Nat) ∧ (25 : Nat) * (i + (1 : Nat)) ≤ (4398046511104 : Nat) ∧ (0 : Nat) + i * (1 : Nat) ≤ i),
      CodeOk Try.prog 40 305 (kAt (kOf Try.prog Try.f23) [true, true, false, true, false, false, true, false, false, true, false, true, false]) (LSB rr cw i) (.exit 2) (LSI rr cw i cw),
      ((0 : Int) ≤ (↑cw : Int) ∧ (↑cw : Int) ≤ (↑cw : Int) ∧ (↑cw : Int) ≤ (4294967296 : Int) ∧ (32 : Nat) * cw ≤ (4398046511104 : Nat)),
      EB (decide ((↑i : Int) < (↑rr : Int))) true])
    mixed (by kernel_rfl) ⟨.mk (by simp only [addO_eq, mulE_eq, mulE_one, Int.toNat_natCast, IntKind.wrap_i64, mmin, mmax]; omega), EV.sl (by rfl) (by simp only [addO_eq, mulE_eq, mulE_one, Int.toNat_natCast, IntKind.wrap_i64, mmin, mmax]), (by omega), (CodeOk.mono (bs_inner rr cw i (by omega) (by omega) (by omega)) (by decide)), (by omega), .mk (decide_eq_true h0), trivial⟩
theorem LT_xf (rr cw i : Nat)
    (hR : 1 ≤ rr ∧ rr ≤ 60)
    (hC : 1 ≤ cw ∧ cw ≤ 120)
    (hi : i ≤ rr)
    (h0 : (¬(↑i : Int) < (↑rr : Int))) :
    CodeOk Try.prog 40 145 (kAt (kOf Try.prog Try.f23) [true, true, false, true, false, false]) (LTI rr cw i) (.exit 0) (LTI rr cw i) :=
  CodeOk.of_runs (fuel := 300) (v := ⟨[4, 5, 6], [1, 97, 153, 154], [(153, 153), (154, 154)], 161⟩) (hs := [(3, ⟨.auto, some (.c (.bool (false)))⟩)])
    (cs := [EB (decide ((↑i : Int) < (↑rr : Int))) false])
    mixed (by kernel_rfl) ⟨.mk (decide_eq_false h0), trivial⟩
end Go.Proofs.Ytohleiikedpmkaa.Vm

namespace Go.Proofs.Ytohleiikedpmkaa.Vm
open Go Go.Proofs Go.Proofs.Ytohleiikedpmkaa
theorem bs_loop (rr cw : Nat) (hR : 1 ≤ rr ∧ rr ≤ 60) (hC : 1 ≤ cw ∧ cw ≤ 120) : CodeOk Try.prog 40 145 (kAt (kOf Try.prog Try.f23) [true, true, false, true, false]) (LT0 rr cw) (.exit 0) (LTI rr cw rr) := by
  have h : CodeOk Try.prog 40 145 (kAt (kOf Try.prog Try.f23) [true, true, false, true, false]) (LTI rr cw 0) (.exit 0) (LTI rr cw rr) := by
    refine LT_by (fun i => LTI rr cw i) (fun i => i ≤ rr) (fun i => rr - i) (by simp) ?_ 0 (Nat.zero_le _)
    intro i hi
    by_cases h0 : (i : Int) < (rr : Int)
    · refine .inl ⟨i + 1, by omega, by omega, (LT_rt rr cw i hR hC hi h0).move (Move.grow (H := 153) (h' := 145) (F := 154) (N := 146) (i := i) (by decide) (show 145 ≤ 161 ∧ 153 < 161 ∧ 154 < 161 by decide) (by decide) (by decide) ?_ ?_)⟩
      · refine ⟨?_, ?_, ?_, ?_, trivial⟩
        · exact BR.cells (growRho_low (by decide)) rfl (fun h => h) ⟨⟨rfl, rfl⟩, ⟨rfl, rfl⟩, trivial, ⟨rfl, rfl⟩, ⟨rfl, rfl⟩, rfl, trivial⟩
        · exact BR.cells (growRho_low (by decide)) rfl (fun h => h) ⟨⟨rfl, rfl⟩, ⟨rfl, rfl⟩, ⟨growRho_H (by decide), rfl, rfl, rfl⟩, ⟨rfl, rfl⟩, ⟨rfl, rfl⟩, rfl, trivial⟩
        · exact BR.gen (growRho_H (by decide)) rfl (fun h => h) rfl (fun p hp => hdr_cell hp (by decide) (by decide) rfl rfl)
        · refine row_grow (by decide) (by decide) (fun j => rfl) rfl (fun h => h) (fun p hp => ?_)
          show W.blank p = W.rep cw p
          unfold W.rep
          rw [if_pos (by omega)]
      · exact ⟨rfl, ⟨growRho_low (by decide), rfl⟩, rfl, ⟨growRho_low (by decide), rfl⟩, rfl, ⟨rfl, rfl⟩, trivial⟩
    · have e : i = rr := by omega
      subst e
      exact .inr (LT_xf i cw i hR hC hi h0)
  refine CodeOk.enter (Move.begin (fun b _ => Nat.beq b 153 || Nat.beq b 154) (by decide) (show 145 ≤ 161 by decide) ?_ ?_ ?_) h
  · intro b k hb
    have hb : 161 ≤ b := hb
    rw [beqF (by omega), beqF (by omega)]; rfl
  · refine ⟨?_, ?_, ?_, ?_, trivial⟩
    · exact BR.cells (newRho_low (by decide)) rfl (fun h => h) ⟨⟨rfl, rfl⟩, ⟨rfl, rfl⟩, trivial, ⟨rfl, rfl⟩, ⟨rfl, rfl⟩, rfl, trivial⟩
    · exact BR.cells (newRho_low (by decide)) rfl (fun h => h) ⟨⟨rfl, rfl⟩, ⟨rfl, rfl⟩, rfl, ⟨rfl, rfl⟩, ⟨rfl, rfl⟩, rfl, trivial⟩
    · exact BR.none (newRho_high (by decide)) rfl rfl rfl
    · intro j k hk
      injection hk with hk
      subst hk
      exact BR.none (newRho_high (by decide)) rfl rfl (rl_ge (i := 0) (n := cw * 4) (j := j) (Nat.zero_le _))
  · exact ⟨rfl, ⟨newRho_low (by decide), rfl⟩, rfl, ⟨newRho_low (by decide), rfl⟩, rfl, ⟨rfl, rfl⟩, trivial⟩
end Go.Proofs.Ytohleiikedpmkaa.Vm

namespace Go.Proofs.Ytohleiikedpmkaa.Vm
open Go Go.Proofs Go.Proofs.Ytohleiikedpmkaa
set_option maxRecDepth 100000
theorem bs_ok (rr cw : Nat)
    (hR : 1 ≤ rr ∧ rr ≤ 60)
    (hC : 1 ≤ cw ∧ cw ≤ 120) :
    Contract0 Try.prog 23 [(.c (.int .i64 (↑rr))), (.c (.int .i64 (↑cw)))] [] 1 (.agg [(.int .i64 (↑rr)), (.int .i64 (↑cw)), (.sl 1 0 0 rr 1), (.int .i64 0), (.int .i64 0), (.bool (false))]) [] [(1, (.one ⟨true, false, (.gen rr (fun j_ => (.sl 2 j_ 0 cw 4)))⟩)), (2, (.many (fun j_ => some ⟨true, true, (.ig (W.rl rr (cw * 4) j_) W.ck W.blank)⟩)))] :=
  Contract0.renum (Contract0.of_frun (res := (.agg [(.int .i64 (↑rr)), (.int .i64 (↑cw)), (.sl 153 0 0 rr 1), (.int .i64 0), (.int .i64 0), (.bool (false))])) (up := [(153, (.one ⟨true, false, (.gen rr (fun j_ => (.sl 154 j_ 0 cw 4)))⟩)), (154, (.many (fun j_ => some ⟨true, true, (.ig (W.rl rr (cw * 4) j_) W.ck W.blank)⟩)))]) (kill := []) (n0 := 1) (m := []) (args := [(.c (.int .i64 (↑rr))), (.c (.int .i64 (↑cw)))]) (fn := Try.f23) (c := bodyOf Try.f23) (fuel := 300) (k := kOf Try.prog Try.f23) (outs := [153, 154]) (hs := [(2, ⟨.call [] (.c (.int .i64 (↑rr))) [] [], none⟩), (4, ⟨.call [] (.c (.int .i64 (↑cw))) [] [], none⟩), (9, ⟨.sum ⟨[4, 5, 6], [1, 97], [], 145⟩ (.exit 0) (LTI rr cw rr), none⟩)])
    (cs := [OwnF (fun j_ => some ⟨true, true, (.ig (W.rl rr (cw * 4) j_) W.ck W.blank)⟩),
      CodeOk Try.prog 40 145 (kAt (kOf Try.prog Try.f23) [true, true, false, true, false]) (LT0 rr cw) (.exit 0) (LTI rr cw rr),
      Contract Try.prog 40 [(.c (.int .i64 (↑cw))), (.c (.int .i64 1)), (.c (.int .i64 120))] [] 65 (.c (.int .i64 (↑cw))) [] [],
      Contract Try.prog 40 [(.c (.int .i64 (↑rr))), (.c (.int .i64 1)), (.c (.int .i64 60))] [] 33 (.c (.int .i64 (↑rr))) [] []])
    mixed Try.func23 (by kernel_rfl) (by kernel_rfl) (by kernel_rfl) (by kernel_rfl) (by kernel_rfl) ⟨OwnF.of (fun _ => rfl), (bs_loop rr cw (by omega) (by omega)), Contract0.in1 (clip120 cw (by omega)) [] [none, none, none] [] [] (by kernel_rfl), Contract0.in1 (clip60 rr (by omega)) [] [none, none, none] [] [] (by kernel_rfl), trivial⟩) [] [] [(153, 1), (154, 2)] [] (by kernel_rfl) (by kernel_rfl) (by kernel_rfl) (by kernel_rfl) (by kernel_rfl)
theorem pickraw_t (a b : Int)
    (ha : -9223372036854775808 ≤ a ∧ a < 9223372036854775808)
    (hb : 0 < b ∧ b < 4294967296)
    (h0 : (Int.tmod a b < (0 : Int))) :
    PureF Try.prog 14 [(.c (.int .i64 a)), (.c (.int .i64 b))] (.c (.int .i64 (IntKind.wrap IntKind.i64 (Int.tmod a b + b)))) :=
  Contract0.fr 300 [(3, ⟨.ask, none⟩), (6, ⟨.auto, some (.c (.bool (true)))⟩)] [] [EB (decide (Int.tmod a b < 0)) true,
      (b ≠ (0 : Int))] mixed Try.func14 (by kernel_rfl) ⟨.mk (decide_eq_true h0), (by omega), trivial⟩
theorem pickraw_f (a b : Int)
    (ha : -9223372036854775808 ≤ a ∧ a < 9223372036854775808)
    (hb : 0 < b ∧ b < 4294967296)
    (h0 : (¬Int.tmod a b < (0 : Int))) :
    PureF Try.prog 14 [(.c (.int .i64 a)), (.c (.int .i64 b))] (.c (.int .i64 (Int.tmod a b))) :=
  Contract0.fr 300 [(3, ⟨.ask, none⟩), (6, ⟨.auto, some (.c (.bool (false)))⟩)] [] [EB (decide (Int.tmod a b < 0)) false,
      (b ≠ (0 : Int))] mixed Try.func14 (by kernel_rfl) ⟨.mk (decide_eq_false h0), (by omega), trivial⟩
end Go.Proofs.Ytohleiikedpmkaa.Vm

namespace Go.Proofs.Ytohleiikedpmkaa.W
open Go Go.Proofs.Ytohleiikedpmkaa.Vm
def pick (a b : Int) : Nat := (a % b).toNat
theorem pick_lt {a b : Int} (h : 0 < b) : (pick a b : Int) < b := by
  have h1 := Int.emod_nonneg a (Int.ne_of_gt h)
  have h2 := Int.emod_lt_of_pos a h
  unfold pick; omega
end Go.Proofs.Ytohleiikedpmkaa.W
namespace Go.Proofs.Ytohleiikedpmkaa.Vm
open Go Go.Proofs Go.Proofs.Ytohleiikedpmkaa
theorem pick_ok (a b : Int) (ha : -9223372036854775808 ≤ a ∧ a < 9223372036854775808) (hb : 0 < b ∧ b < 4294967296) : PureF Try.prog 14 [(.c (.int .i64 a)), (.c (.int .i64 b))] (.c (.int .i64 ((W.pick a b : Nat) : Int))) := by
  have h1 := Int.tmod_eq_emod (a := a) (b := b)
  have h2 := Int.emod_nonneg a (show b ≠ 0 by omega)
  have h3 := Int.emod_lt_of_pos a hb.1
  have e0 : ((W.pick a b : Nat) : Int) = a % b := by unfold W.pick; omega
  rw [e0]
  by_cases h : a.tmod b < 0
  · have run := pickraw_t a b ha hb h
    have e : IntKind.i64.wrap (a.tmod b + b) = a % b := by
      rw [EI.wrapI (by have := Int.lt_tmod_of_pos a hb.1; omega)]
      split at h1 <;> omega
    rwa [e] at run
  · have run := pickraw_f a b ha hb h
    have e : a.tmod b = a % b := by split at h1 <;> omega
    rwa [e] at run
end Go.Proofs.Ytohleiikedpmkaa.Vm
namespace Go.Proofs.Ytohleiikedpmkaa.W
open Go Go.Proofs.Ytohleiikedpmkaa.Vm
theorem i64r (x : Int) : -9223372036854775808 ≤ IntKind.wrap IntKind.i64 x ∧ IntKind.wrap IntKind.i64 x < 9223372036854775808 := by
  simp only [IntKind.wrap, IntKind.signed, IntKind.bits]
  simp
  constructor <;> omega
theorem scr_side {a b : Int} {rr cw : Nat} (h1 : 1 ≤ rr) (h2 : 1 ≤ cw) : W.pick b cw * 4 + 4 ≤ W.rl rr (cw * 4) (W.pick a rr) := by
  have p1 := pick_lt (a := a) (b := (rr : Int)) (by omega)
  have p2 := pick_lt (a := b) (b := (cw : Int)) (by omega)
  have e : W.rl rr (cw * 4) (W.pick a rr) = cw * 4 := by
    unfold W.rl
    rw [show Nat.blt (W.pick a rr) rr = true from by rw [Nat.blt_eq]; omega]; rfl
  rw [e]; omega
end Go.Proofs.Ytohleiikedpmkaa.W

namespace Go.Proofs.Ytohleiikedpmkaa.Vm
open Go Go.Proofs Go.Proofs.Ytohleiikedpmkaa
set_option maxRecDepth 100000
def LCI (l : List Int) (o n rr cw : Nat) (X : Nat → Nat → Int) (ro co : Int) (hi : Bool) (i : Nat) : S0 :=
  ⟨[(2, (.c (.sl 1 0 o n 1))), (6, (.c (.ptr 2 0 0))), (7, (.c (.ptr 130 0 0))), (8, (.c (.int .i64 (i : Int))))], [(1, (.one ⟨false, false, (.ints .i64 l)⟩)), (2, (.one ⟨true, true, (.cells [(.int .i64 0), (.int .i64 0), .nils, (.int .i64 0), (.int .i64 0), (.bool (false))])⟩)), (114, (.one ⟨true, false, .gen rr (fun j_ => .sl 115 j_ 0 cw 4)⟩)), (115, (.many (fun j_ => some ⟨true, true, .ig (W.rl rr (cw * 4) j_) W.ck (X j_)⟩))), (130, (.one ⟨true, true, .cells [.int .i64 (rr : Int), .int .i64 (cw : Int), .sl 114 0 0 rr 1, .int .i64 ro, .int .i64 co, .bool hi]⟩))], 194⟩
theorem LC_by {α : Type} (I : α → S0) (Inv : α → Prop) (μ : α → Nat) {ex : Ex} {s' : S0} (hex : ex ≠ .normal)
    (step : ∀ x, Inv x → (∃ y, Inv y ∧ μ y < μ x ∧ CodeOk Try.prog 77 178 (kAt (kOf Try.prog Try.f10) [true, true, false, true, false, false]) (I x) .normal (I y)) ∨ CodeOk Try.prog 77 178 (kAt (kOf Try.prog Try.f10) [true, true, false, true, false, false]) (I x) ex s') (x : α) (hx : Inv x) :
    CodeOk Try.prog 77 178 (kAt (kOf Try.prog Try.f10) [true, true, false, true, false]) (I x) ex s' := by
  have hk : (kAt (kOf Try.prog Try.f10) [true, true, false, true, false]) = .loop (kAt (kOf Try.prog Try.f10) [true, true, false, true, false, false]) := by kernel_rfl
  rw [hk]
  exact CodeOk.loop I Inv μ hex step x hx
def LC0 (rows cols : Int) (l : List Int) (o n : Nat) : S0 :=
  ⟨[(2, (.c (.sl 1 0 o n 1))), (6, (.c (.ptr 2 0 0))), (7, (.c (.ptr 130 0 0))), (8, (.c (.int .i64 0)))], [(1, (.one ⟨false, false, (.ints .i64 l)⟩)), (2, (.one ⟨true, true, (.cells [(.int .i64 0), (.int .i64 0), .nils, (.int .i64 0), (.int .i64 0), (.bool (false))])⟩)), (114, (.one ⟨true, false, (.gen (1 + W.pick rows 6) (fun j_ => (.sl 115 j_ 0 (1 + W.pick cols 9) 4)))⟩)), (115, (.many (fun j_ => some ⟨true, true, (.ig (W.rl (1 + W.pick rows 6) ((1 + W.pick cols 9) * 4) j_) W.ck W.blank)⟩))), (130, (.one ⟨true, true, (.cells [(.int .i64 (↑(1 + W.pick rows 6))), (.int .i64 (↑(1 + W.pick cols 9))), (.sl 114 0 0 (1 + W.pick rows 6) 1), (.int .i64 0), (.int .i64 0), (.bool (false))])⟩))], 178⟩
theorem LC_rtt (rows cols : Int) (l : List Int) (o n rr cw : Nat) (X : Nat → Nat → Int) (ro co : Int) (hi : Bool) (i : Nat)
    (hr : -9223372036854775808 ≤ rows ∧ rows < 9223372036854775808)
    (hc : -9223372036854775808 ≤ cols ∧ cols < 9223372036854775808)
    (hl : o + n ≤ l.length)
    (hn : n ≤ 1048576)
    (h6 : W.pick rows 6 < 6)
    (h9 : W.pick cols 9 < 9)
    (hlb : ∀ j, -9223372036854775808 ≤ List.getD l j 0 ∧ List.getD l j 0 < 9223372036854775808)
    (hrr : 1 ≤ rr ∧ rr ≤ 6)
    (hcw : 1 ≤ cw ∧ cw ≤ 9)
    (hil : i ≤ 60)
    (h0 : ((↑i : Int) < (↑n : Int)))
    (h1 : ((↑i : Int) < (60 : Int)))
    (c2 : (W.pick (List.getD l (o + i) (0 : Int)) (↑rr : Int) + (1 : Nat) ≤ rr)) :
    CodeOk Try.prog 77 178 (kAt (kOf Try.prog Try.f10) [true, true, false, true, false, false]) (LCI l o n rr cw X ro co hi i) .normal ⟨[(2, (.c (.sl 1 0 o n 1))), (6, (.c (.ptr 2 0 0))), (7, (.c (.ptr 130 0 0))), (8, (.c (.int .i64 (↑(i + 1)))))], [(1, (.one ⟨false, false, (.ints .i64 l)⟩)), (2, (.one ⟨true, true, (.cells [(.int .i64 0), (.int .i64 0), .nils, (.int .i64 0), (.int .i64 0), (.bool (false))])⟩)), (114, (.one ⟨true, false, (.gen rr (fun j_ => (.sl 115 j_ 0 cw 4)))⟩)), (115, (.many (renF [] 178 (updF (fun j_ => some ⟨true, true, (.ig (W.rl rr (cw * 4) j_) W.ck (fun p_ => (X j_ p_)))⟩) (W.pick (List.getD l (o + i) 0) ↑rr) ⟨true, true, (.ig (W.rl rr (cw * 4) (W.pick (List.getD l (o + i) 0) ↑rr)) (fun p_ => (bif inR (W.pick (IntKind.wrap IntKind.i64 (Int.tdiv (List.getD l (o + i) 0) 7)) (↑cw : Int) * 4) (List.length [(IntKind.i32, List.getD [97, 98, 8364, 32] (W.pick (IntKind.wrap IntKind.i64 (Int.tdiv (List.getD l (o + i) 0) 70)) 4) 0), (IntKind.i64, (↑(W.pick (IntKind.wrap IntKind.i64 (Int.tdiv (List.getD l (o + i) 0) 300)) 9) : Int)), (IntKind.i64, (↑(W.pick (IntKind.wrap IntKind.i64 (Int.tdiv (List.getD l (o + i) 0) 3000)) 9) : Int)), (IntKind.i64, (↑(W.pick (IntKind.wrap IntKind.i64 (Int.tdiv (List.getD l (o + i) 0) 30000)) 8) : Int))]) p_ then igK [(IntKind.i32, List.getD [97, 98, 8364, 32] (W.pick (IntKind.wrap IntKind.i64 (Int.tdiv (List.getD l (o + i) 0) 70)) 4) 0), (IntKind.i64, (↑(W.pick (IntKind.wrap IntKind.i64 (Int.tdiv (List.getD l (o + i) 0) 300)) 9) : Int)), (IntKind.i64, (↑(W.pick (IntKind.wrap IntKind.i64 (Int.tdiv (List.getD l (o + i) 0) 3000)) 9) : Int)), (IntKind.i64, (↑(W.pick (IntKind.wrap IntKind.i64 (Int.tdiv (List.getD l (o + i) 0) 30000)) 8) : Int))] (p_ - W.pick (IntKind.wrap IntKind.i64 (Int.tdiv (List.getD l (o + i) 0) 7)) (↑cw : Int) * 4) else W.ck p_)) (fun p_ => (bif inR (W.pick (IntKind.wrap IntKind.i64 (Int.tdiv (List.getD l (o + i) 0) 7)) (↑cw : Int) * 4) (List.length [(IntKind.i32, List.getD [97, 98, 8364, 32] (W.pick (IntKind.wrap IntKind.i64 (Int.tdiv (List.getD l (o + i) 0) 70)) 4) 0), (IntKind.i64, (↑(W.pick (IntKind.wrap IntKind.i64 (Int.tdiv (List.getD l (o + i) 0) 300)) 9) : Int)), (IntKind.i64, (↑(W.pick (IntKind.wrap IntKind.i64 (Int.tdiv (List.getD l (o + i) 0) 3000)) 9) : Int)), (IntKind.i64, (↑(W.pick (IntKind.wrap IntKind.i64 (Int.tdiv (List.getD l (o + i) 0) 30000)) 8) : Int))]) p_ then igG [(IntKind.i32, List.getD [97, 98, 8364, 32] (W.pick (IntKind.wrap IntKind.i64 (Int.tdiv (List.getD l (o + i) 0) 70)) 4) 0), (IntKind.i64, (↑(W.pick (IntKind.wrap IntKind.i64 (Int.tdiv (List.getD l (o + i) 0) 300)) 9) : Int)), (IntKind.i64, (↑(W.pick (IntKind.wrap IntKind.i64 (Int.tdiv (List.getD l (o + i) 0) 3000)) 9) : Int)), (IntKind.i64, (↑(W.pick (IntKind.wrap IntKind.i64 (Int.tdiv (List.getD l (o + i) 0) 30000)) 8) : Int))] (p_ - W.pick (IntKind.wrap IntKind.i64 (Int.tdiv (List.getD l (o + i) 0) 7)) (↑cw : Int) * 4) else X (W.pick (List.getD l (o + i) 0) (↑rr : Int)) p_)))⟩)))), (130, (.one ⟨true, true, (.cells [(.int .i64 (↑rr)), (.int .i64 (↑cw)), (.sl 114 0 0 rr 1), (.int .i64 (↑(W.pick (IntKind.wrap IntKind.i64 (Int.tdiv (List.getD l (o + i) 0) 11)) ↑rr))), (.int .i64 (↑(W.pick (IntKind.wrap IntKind.i64 (Int.tdiv (List.getD l (o + i) 0) 13)) ↑cw))), (.bool (Int.tmod (List.getD l (o + i) 0) 5 == 0))])⟩))], 194⟩ :=
  CodeOk.of_runs (fuel := 300) (v := ⟨[2, 6, 7, 8], [1, 2, 114, 115, 130], [], 194⟩) (hs := [(4, ⟨.auto, some (.c (.bool (true)))⟩), (7, ⟨.auto, some (.c (.bool (true)))⟩), (11, ⟨.ask, some (.c (.ptr 1 0 (o + i)))⟩), (12, ⟨.ask, none⟩), (19, ⟨.call [] (.c (.int .i64 (↑(W.pick (List.getD l (o + i) 0) ↑rr)))) [] [], none⟩), (20, ⟨.ask, none⟩), (21, ⟨.ask, none⟩), (26, ⟨.call [] (.c (.int .i64 (↑(W.pick (IntKind.wrap IntKind.i64 (Int.tdiv (List.getD l (o + i) 0) 7)) ↑cw)))) [] [], none⟩), (30, ⟨.call [] (.c (.int .i64 (↑(W.pick (IntKind.wrap IntKind.i64 (Int.tdiv (List.getD l (o + i) 0) 70)) 4)))) [] [], none⟩), (31, ⟨.ask, some (.c (.int .i32 (List.getD [97, 98, 8364, 32] (W.pick (IntKind.wrap IntKind.i64 (Int.tdiv (List.getD l (o + i) 0) 70)) 4) 0)))⟩), (34, ⟨.call [] (.c (.int .i64 (↑(W.pick (IntKind.wrap IntKind.i64 (Int.tdiv (List.getD l (o + i) 0) 300)) 9)))) [] [], none⟩), (37, ⟨.call [] (.c (.int .i64 (↑(W.pick (IntKind.wrap IntKind.i64 (Int.tdiv (List.getD l (o + i) 0) 3000)) 9)))) [] [], none⟩), (40, ⟨.call [] (.c (.int .i64 (↑(W.pick (IntKind.wrap IntKind.i64 (Int.tdiv (List.getD l (o + i) 0) 30000)) 8)))) [] [], none⟩), (42, ⟨.ask, none⟩), (43, ⟨.ask, none⟩), (48, ⟨.call [] (.c (.int .i64 (↑(W.pick (IntKind.wrap IntKind.i64 (Int.tdiv (List.getD l (o + i) 0) 11)) ↑rr)))) [] [], none⟩), (55, ⟨.call [] (.c (.int .i64 (↑(W.pick (IntKind.wrap IntKind.i64 (Int.tdiv (List.getD l (o + i) 0) 13)) ↑cw)))) [] [], none⟩), (64, ⟨.auto, some (.c (.int .i64 (↑(i + 1))))⟩)])
    (cs := [EI .i64 (IntKind.wrap IntKind.i64 ((↑i : Int) + 1)) ((↑(i + 1) : Int)),
      Contract Try.prog 14 [(.c (.int .i64 (IntKind.wrap IntKind.i64 (Int.tdiv (List.getD l (o + i) 0) 13)))), (.c (.int .i64 (↑cw)))] [] 1058 (.c (.int .i64 (↑(W.pick (IntKind.wrap IntKind.i64 (Int.tdiv (List.getD l (o + i) 0) 13)) ↑cw)))) [] [],
      Contract Try.prog 14 [(.c (.int .i64 (IntKind.wrap IntKind.i64 (Int.tdiv (List.getD l (o + i) 0) 11)))), (.c (.int .i64 (↑rr)))] [] 946 (.c (.int .i64 (↑(W.pick (IntKind.wrap IntKind.i64 (Int.tdiv (List.getD l (o + i) 0) 11)) ↑rr)))) [] [],
      (W.pick (IntKind.wrap IntKind.i64 (Int.tdiv (List.getD l (o + i) (0 : Int)) (7 : Int))) (↑cw : Int) * (4 : Nat) + (4 : Nat) ≤ W.rl rr (cw * (4 : Nat)) (W.pick (List.getD l (o + i) (0 : Int)) (↑rr : Int)) ∧ (4 : Nat) = (4 : Nat)),
      ((0 : Int) ≤ (↑(W.pick (IntKind.wrap IntKind.i64 (Int.tdiv (List.getD l (o + i) (0 : Int)) (7 : Int))) (↑cw : Int)) : Int) ∧ (↑(W.pick (IntKind.wrap IntKind.i64 (Int.tdiv (List.getD l (o + i) (0 : Int)) (7 : Int))) (↑cw : Int)) : Int) < (↑cw : Int)),
      Contract Try.prog 14 [(.c (.int .i64 (IntKind.wrap IntKind.i64 (Int.tdiv (List.getD l (o + i) 0) 30000)))), (.c (.int .i64 8))] [] 818 (.c (.int .i64 (↑(W.pick (IntKind.wrap IntKind.i64 (Int.tdiv (List.getD l (o + i) 0) 30000)) 8)))) [] [],
      Contract Try.prog 14 [(.c (.int .i64 (IntKind.wrap IntKind.i64 (Int.tdiv (List.getD l (o + i) 0) 3000)))), (.c (.int .i64 9))] [] 770 (.c (.int .i64 (↑(W.pick (IntKind.wrap IntKind.i64 (Int.tdiv (List.getD l (o + i) 0) 3000)) 9)))) [] [],
      Contract Try.prog 14 [(.c (.int .i64 (IntKind.wrap IntKind.i64 (Int.tdiv (List.getD l (o + i) 0) 300)))), (.c (.int .i64 9))] [] 722 (.c (.int .i64 (↑(W.pick (IntKind.wrap IntKind.i64 (Int.tdiv (List.getD l (o + i) 0) 300)) 9)))) [] [],
      ((.c (Body.get (.cells [(.int .i32 97), (.int .i32 98), (.int .i32 8364), (.int .i32 32)]) (Int.toNat (↑(W.pick (IntKind.wrap IntKind.i64 (Int.tdiv (List.getD l (o + i) 0) 70)) 4) : Int)))) : V) = (.c (.int .i32 (List.getD [97, 98, 8364, 32] (W.pick (IntKind.wrap IntKind.i64 (Int.tdiv (List.getD l (o + i) 0) 70)) 4) 0))),
      ((0 : Int) ≤ (↑(W.pick (IntKind.wrap IntKind.i64 (Int.tdiv (List.getD l (o + i) (0 : Int)) (70 : Int))) (4 : Int)) : Int) ∧ (↑(W.pick (IntKind.wrap IntKind.i64 (Int.tdiv (List.getD l (o + i) (0 : Int)) (70 : Int))) (4 : Int)) : Int) < (4 : Int) ∧ (4 : Nat) = (4 : Nat)),
      Contract Try.prog 14 [(.c (.int .i64 (IntKind.wrap IntKind.i64 (Int.tdiv (List.getD l (o + i) 0) 70)))), (.c (.int .i64 4))] [] 658 (.c (.int .i64 (↑(W.pick (IntKind.wrap IntKind.i64 (Int.tdiv (List.getD l (o + i) 0) 70)) 4)))) [] [],
      Contract Try.prog 14 [(.c (.int .i64 (IntKind.wrap IntKind.i64 (Int.tdiv (List.getD l (o + i) 0) 7)))), (.c (.int .i64 (↑cw)))] [] 594 (.c (.int .i64 (↑(W.pick (IntKind.wrap IntKind.i64 (Int.tdiv (List.getD l (o + i) 0) 7)) ↑cw)))) [] [],
      (W.pick (List.getD l (o + i) (0 : Int)) (↑rr : Int) + (1 : Nat) ≤ rr),
      ((0 : Int) ≤ (↑(W.pick (List.getD l (o + i) (0 : Int)) (↑rr : Int)) : Int) ∧ (↑(W.pick (List.getD l (o + i) (0 : Int)) (↑rr : Int)) : Int) < (↑rr : Int)),
      Contract Try.prog 14 [(.c (.int .i64 (List.getD l (o + i) 0))), (.c (.int .i64 (↑rr)))] [] 482 (.c (.int .i64 (↑(W.pick (List.getD l (o + i) 0) ↑rr)))) [] [],
      (o + i + (1 : Nat) ≤ List.length l),
      ((.c (.ptr 1 0 (addO o i))) : V) = (.c (.ptr 1 0 (o + i))),
      ((0 : Int) ≤ (↑i : Int) ∧ (↑i : Int) < (↑n : Int)),
      EB (decide ((↑i : Int) < 60)) true,
      EB (decide ((↑i : Int) < (↑n : Int))) true])
    mixed (by kernel_rfl) ⟨.mk (by simp only [addO_eq, mulE_eq, mulE_one, Int.toNat_natCast, IntKind.wrap_i64, mmin, mmax]; omega), Contract0.in1 (pick_ok (IntKind.wrap IntKind.i64 (Int.tdiv (List.getD l (o + i) 0) 13)) ((↑cw : Int)) (by exact W.i64r _) (by omega)) [] [none, none] [] [] (by kernel_rfl), Contract0.in1 (pick_ok (IntKind.wrap IntKind.i64 (Int.tdiv (List.getD l (o + i) 0) 11)) ((↑rr : Int)) (by exact W.i64r _) (by omega)) [] [none, none] [] [] (by kernel_rfl), (by exact ⟨W.scr_side (by omega) (by omega), rfl⟩), (by exact ⟨by omega, W.pick_lt (by omega)⟩), Contract0.in1 (pick_ok (IntKind.wrap IntKind.i64 (Int.tdiv (List.getD l (o + i) 0) 30000)) 8 (by exact W.i64r _) (by omega)) [] [none, none] [] [] (by kernel_rfl), Contract0.in1 (pick_ok (IntKind.wrap IntKind.i64 (Int.tdiv (List.getD l (o + i) 0) 3000)) 9 (by exact W.i64r _) (by omega)) [] [none, none] [] [] (by kernel_rfl), Contract0.in1 (pick_ok (IntKind.wrap IntKind.i64 (Int.tdiv (List.getD l (o + i) 0) 300)) 9 (by exact W.i64r _) (by omega)) [] [none, none] [] [] (by kernel_rfl), EV.ixk (q := [97, 98, 8364, 32]) (by show _ < 4; have := W.pick_lt (a := IntKind.wrap IntKind.i64 (Int.tdiv (List.getD l (o + i) 0) 70)) (b := 4) (by decide); omega), (by have := W.pick_lt (a := IntKind.wrap IntKind.i64 (Int.tdiv (List.getD l (o + i) 0) 70)) (b := 4) (by decide); omega), Contract0.in1 (pick_ok (IntKind.wrap IntKind.i64 (Int.tdiv (List.getD l (o + i) 0) 70)) 4 (by exact W.i64r _) (by omega)) [] [none, none] [] [] (by kernel_rfl), Contract0.in1 (pick_ok (IntKind.wrap IntKind.i64 (Int.tdiv (List.getD l (o + i) 0) 7)) ((↑cw : Int)) (by exact W.i64r _) (by omega)) [] [none, none] [] [] (by kernel_rfl), c2, (by exact ⟨by omega, W.pick_lt (by omega)⟩), Contract0.in1 (pick_ok (List.getD l (o + i) 0) ((↑rr : Int)) (by exact hlb _) (by omega)) [] [none, none] [] [] (by kernel_rfl), (by omega), EV.ptr (by simp only [addO_eq, mulE_eq, mulE_one, Int.toNat_natCast, IntKind.wrap_i64, mmin, mmax]), (by omega), .mk (decide_eq_true h1), .mk (decide_eq_true h0), trivial⟩
theorem LC_xtf (rows cols : Int) (l : List Int) (o n rr cw : Nat) (X : Nat → Nat → Int) (ro co : Int) (hi : Bool) (i : Nat)
    (hr : -9223372036854775808 ≤ rows ∧ rows < 9223372036854775808)
    (hc : -9223372036854775808 ≤ cols ∧ cols < 9223372036854775808)
    (hl : o + n ≤ l.length)
    (hn : n ≤ 1048576)
    (h6 : W.pick rows 6 < 6)
    (h9 : W.pick cols 9 < 9)
    (hlb : ∀ j, -9223372036854775808 ≤ List.getD l j 0 ∧ List.getD l j 0 < 9223372036854775808)
    (hrr : 1 ≤ rr ∧ rr ≤ 6)
    (hcw : 1 ≤ cw ∧ cw ≤ 9)
    (hil : i ≤ 60)
    (h0 : ((↑i : Int) < (↑n : Int)))
    (h1 : (¬(↑i : Int) < (60 : Int))) :
    CodeOk Try.prog 77 178 (kAt (kOf Try.prog Try.f10) [true, true, false, true, false, false]) (LCI l o n rr cw X ro co hi i) (.exit 0) (LCI l o n rr cw (fun j_ p_ => X j_ p_) ro co hi i) :=
  CodeOk.of_runs (fuel := 300) (v := ⟨[2, 6, 7, 8], [1, 2, 114, 115, 130], [], 194⟩) (hs := [(4, ⟨.auto, some (.c (.bool (true)))⟩), (7, ⟨.auto, some (.c (.bool (false)))⟩)])
    (cs := [EB (decide ((↑i : Int) < 60)) false,
      EB (decide ((↑i : Int) < (↑n : Int))) true])
    mixed (by kernel_rfl) ⟨.mk (decide_eq_false h1), .mk (decide_eq_true h0), trivial⟩
theorem LC_xf (rows cols : Int) (l : List Int) (o n rr cw : Nat) (X : Nat → Nat → Int) (ro co : Int) (hi : Bool) (i : Nat)
    (hr : -9223372036854775808 ≤ rows ∧ rows < 9223372036854775808)
    (hc : -9223372036854775808 ≤ cols ∧ cols < 9223372036854775808)
    (hl : o + n ≤ l.length)
    (hn : n ≤ 1048576)
    (h6 : W.pick rows 6 < 6)
    (h9 : W.pick cols 9 < 9)
    (hlb : ∀ j, -9223372036854775808 ≤ List.getD l j 0 ∧ List.getD l j 0 < 9223372036854775808)
    (hrr : 1 ≤ rr ∧ rr ≤ 6)
    (hcw : 1 ≤ cw ∧ cw ≤ 9)
    (hil : i ≤ 60)
    (h0 : (¬(↑i : Int) < (↑n : Int))) :
    CodeOk Try.prog 77 178 (kAt (kOf Try.prog Try.f10) [true, true, false, true, false, false]) (LCI l o n rr cw X ro co hi i) (.exit 0) (LCI l o n rr cw (fun j_ p_ => X j_ p_) ro co hi i) :=
  CodeOk.of_runs (fuel := 300) (v := ⟨[2, 6, 7, 8], [1, 2, 114, 115, 130], [], 194⟩) (hs := [(4, ⟨.auto, some (.c (.bool (false)))⟩)])
    (cs := [EB (decide ((↑i : Int) < (↑n : Int))) false])
    mixed (by kernel_rfl) ⟨.mk (decide_eq_false h0), trivial⟩
end Go.Proofs.Ytohleiikedpmkaa.Vm

namespace Go.Proofs.Ytohleiikedpmkaa.W
open Go Go.Proofs.Ytohleiikedpmkaa.Vm
def tq (n d : Int) : Int := IntKind.wrap IntKind.i64 (Int.tdiv n d)
def four (n : Int) : List (IntKind × Int) := [(IntKind.i32, List.getD [97, 98, 8364, 32] (pick (tq n 70) 4) 0), (IntKind.i64, (pick (tq n 300) 9 : Int)), (IntKind.i64, (pick (tq n 3000) 9 : Int)), (IntKind.i64, (pick (tq n 30000) 8 : Int))]
def putX (X : Nat → Nat → Int) (j0 o0 : Nat) (v : Nat → Int) : Nat → Nat → Int := fun j p => bif Nat.beq j j0 && inR o0 4 p then v (p - o0) else X j p
def sX (rr cw : Nat) (l : List Int) (o : Nat) : Nat → Nat → Nat → Int
  | 0 => fun _ => blank
  | i + 1 => putX (sX rr cw l o i) (pick (List.getD l (o + i) 0) rr) (pick (tq (List.getD l (o + i) 0) 7) cw * 4) (igG (four (List.getD l (o + i) 0)))
def sRo (rr : Nat) (l : List Int) (o : Nat) : Nat → Int
  | 0 => 0
  | i + 1 => pick (tq (List.getD l (o + i) 0) 11) rr
def sCo (cw : Nat) (l : List Int) (o : Nat) : Nat → Int
  | 0 => 0
  | i + 1 => pick (tq (List.getD l (o + i) 0) 13) cw
def sHi (l : List Int) (o : Nat) : Nat → Bool
  | 0 => false
  | i + 1 => Int.tmod (List.getD l (o + i) 0) 5 == 0
end Go.Proofs.Ytohleiikedpmkaa.W
namespace Go.Proofs.Ytohleiikedpmkaa.Vm
open Go Go.Proofs Go.Proofs.Ytohleiikedpmkaa
theorem renF_upd {t : Th} {n0 : Nat} {F : Nat → Option Blk} {i : Nat} {k : Blk} (j : Nat) : renF t n0 (updF F i k) j = bif Nat.beq j i then some (renBlk t n0 k) else renF t n0 F j := by
  simp only [renF, updF]
  cases Nat.beq j i <;> rfl
theorem put4_ck {q : List (IntKind × Int)} (hq : ∀ c, c < 4 → igK q c = W.ck c) (k p : Nat) : (bif inR (k * 4) 4 p then igK q (p - k * 4) else W.ck p) = W.ck p := by
  cases h : inR (k * 4) 4 p with
  | false => rfl
  | true =>
    have h1 := inR_iff.1 h
    show igK q (p - k * 4) = W.ck p
    rw [hq _ (by omega)]
    unfold W.ck
    have : (p - k * 4) % 4 = p % 4 := by omega
    rw [this]
theorem four_ck {a b c d : Int} : ∀ q, q < 4 → igK [(IntKind.i32, a), (IntKind.i64, b), (IntKind.i64, c), (IntKind.i64, d)] q = W.ck q := by
  intro q hq
  rcases q with _ | _ | _ | _ | q
  all_goals first | rfl | omega
theorem scr_loop (rows cols : Int) (l : List Int) (o n : Nat) (hr : -9223372036854775808 ≤ rows ∧ rows < 9223372036854775808) (hc : -9223372036854775808 ≤ cols ∧ cols < 9223372036854775808) (hl : o + n ≤ l.length) (hn : n ≤ 1048576) (h6 : W.pick rows 6 < 6) (h9 : W.pick cols 9 < 9)
    (hlb : ∀ j, -9223372036854775808 ≤ List.getD l j 0 ∧ List.getD l j 0 < 9223372036854775808) :
    CodeOk Try.prog 77 178 (kAt (kOf Try.prog Try.f10) [true, true, false, true, false]) (LC0 rows cols l o n) (.exit 0) (LCI l o n (1 + W.pick rows 6) (1 + W.pick cols 9) (W.sX (1 + W.pick rows 6) (1 + W.pick cols 9) l o (min n 60)) (W.sRo (1 + W.pick rows 6) l o (min n 60)) (W.sCo (1 + W.pick cols 9) l o (min n 60)) (W.sHi l o (min n 60)) (min n 60)) := by
  have hrr : 1 ≤ 1 + W.pick rows 6 ∧ 1 + W.pick rows 6 ≤ 6 := by omega
  have hcw : 1 ≤ 1 + W.pick cols 9 ∧ 1 + W.pick cols 9 ≤ 9 := by omega
  generalize hR : 1 + W.pick rows 6 = rr at hrr ⊢
  generalize hC : 1 + W.pick cols 9 = cw at hcw ⊢
  have h : CodeOk Try.prog 77 178 (kAt (kOf Try.prog Try.f10) [true, true, false, true, false]) (LCI l o n rr cw (W.sX rr cw l o 0) (W.sRo rr l o 0) (W.sCo cw l o 0) (W.sHi l o 0) 0) (.exit 0) (LCI l o n rr cw (W.sX rr cw l o (min n 60)) (W.sRo rr l o (min n 60)) (W.sCo cw l o (min n 60)) (W.sHi l o (min n 60)) (min n 60)) := by
    refine LC_by (fun i => LCI l o n rr cw (W.sX rr cw l o i) (W.sRo rr l o i) (W.sCo cw l o i) (W.sHi l o i) i) (fun i => i ≤ 60 ∧ i ≤ n) (fun i => 60 - i) (by simp) ?_ 0 ⟨by omega, by omega⟩
    intro i hi
    by_cases h0 : (i : Int) < (n : Int)
    · by_cases h1 : (i : Int) < 60
      · have hp : W.pick (List.getD l (o + i) 0) (rr : Int) + 1 ≤ rr := by
          have := W.pick_lt (a := List.getD l (o + i) 0) (b := (rr : Int)) (by omega)
          omega
        refine .inl ⟨i + 1, by omega, by omega, (LC_rtt rows cols l o n rr cw _ _ _ _ i hr hc hl hn h6 h9 hlb hrr hcw hi.1 h0 h1 hp).move (Move.same (by decide) (by decide) (by decide) rfl ?_)⟩
        refine ⟨SameB.refl rfl, SameB.refl rfl, SameB.refl rfl, ?_, SameB.refl rfl, trivial⟩
        intro j k e
        injection e with e
        subst e
        by_cases hj : j = W.pick (List.getD l (o + i) 0) (rr : Int)
        · subst hj
          refine SameB.ig (((renF_upd _).trans (by rw [Nat.beq_refl]; rfl))) (fun h => h) (fun p _ => put4_ck four_ck _ p) (fun p _ => ?_)
          show _ = W.putX _ _ _ _ _ p
          unfold W.putX
          rw [Nat.beq_refl]
          rfl
        · refine SameB.ig (((renF_upd _).trans (by rw [beqF hj]; rfl))) (fun h => h) (fun p _ => rfl) (fun p _ => ?_)
          show _ = W.putX _ _ _ _ _ p
          unfold W.putX
          rw [beqF hj]
          rfl
      · have e : i = 60 := by omega
        have e2 : min n 60 = i := by omega
        rw [e2]
        exact .inr (LC_xtf rows cols l o n rr cw _ _ _ _ i hr hc hl hn h6 h9 hlb hrr hcw hi.1 h0 h1)
    · have e2 : min n 60 = i := by omega
      rw [e2]
      exact .inr (LC_xf rows cols l o n rr cw _ _ _ _ i hr hc hl hn h6 h9 hlb hrr hcw hi.1 h0)
  subst hR; subst hC
  refine CodeOk.enter (Move.same (by decide) (by decide) (by decide) rfl ?_) h
  exact ⟨SameB.refl rfl, SameB.refl rfl, SameB.refl rfl, fun j k e => SameB.refl e, SameB.refl rfl, trivial⟩
end Go.Proofs.Ytohleiikedpmkaa.Vm

namespace Go.Proofs.Ytohleiikedpmkaa.Vm
open Go Go.Proofs Go.Proofs.Ytohleiikedpmkaa
set_option maxRecDepth 100000
theorem scr_ok (rows cols : Int) (l : List Int) (o n : Nat)
    (hr : -9223372036854775808 ≤ rows ∧ rows < 9223372036854775808)
    (hc : -9223372036854775808 ≤ cols ∧ cols < 9223372036854775808)
    (hl : o + n ≤ l.length)
    (hn : n ≤ 1048576)
    (h6 : W.pick rows 6 < 6)
    (h9 : W.pick cols 9 < 9)
    (hlb : ∀ j, -9223372036854775808 ≤ List.getD l j 0 ∧ List.getD l j 0 < 9223372036854775808) :
    Contract0 Try.prog 10 [(.c (.int .i64 rows)), (.c (.int .i64 cols)), (.c (.sl 1 0 o n 1))] [(1, (.one ⟨false, false, (.ints .i64 l)⟩))] 2 (.agg [(.int .i64 (↑(1 + W.pick rows 6))), (.int .i64 (↑(1 + W.pick cols 9))), (.sl 2 0 0 (1 + W.pick rows 6) 1), (.int .i64 (W.sRo (1 + W.pick rows 6) l o (min n 60))), (.int .i64 (W.sCo (1 + W.pick cols 9) l o (min n 60))), (.bool (W.sHi l o (min n 60)))]) [] [(2, (.one ⟨true, false, (.gen (1 + W.pick rows 6) (fun j_ => (.sl 3 j_ 0 (1 + W.pick cols 9) 4)))⟩)), (3, (.many (fun j_ => some ⟨true, true, (.ig (W.rl (1 + W.pick rows 6) ((1 + W.pick cols 9) * 4) j_) W.ck (fun p_ => (W.sX (1 + W.pick rows 6) (1 + W.pick cols 9) l o (min n 60) j_ p_)))⟩)))] :=
  Contract0.renum (Contract0.of_frun (res := (.agg [(.int .i64 (↑(1 + W.pick rows 6))), (.int .i64 (↑(1 + W.pick cols 9))), (.sl 114 0 0 (1 + W.pick rows 6) 1), (.int .i64 (W.sRo (1 + W.pick rows 6) l o (min n 60))), (.int .i64 (W.sCo (1 + W.pick cols 9) l o (min n 60))), (.bool (W.sHi l o (min n 60)))])) (up := [(114, (.one ⟨true, false, (.gen (1 + W.pick rows 6) (fun j_ => (.sl 115 j_ 0 (1 + W.pick cols 9) 4)))⟩)), (115, (.many (fun j_ => some ⟨true, true, (.ig (W.rl (1 + W.pick rows 6) ((1 + W.pick cols 9) * 4) j_) W.ck (fun p_ => (W.sX (1 + W.pick rows 6) (1 + W.pick cols 9) l o (min n 60) j_ p_)))⟩)))]) (kill := []) (n0 := 2) (m := [(1, (.one ⟨false, false, (.ints .i64 l)⟩))]) (args := [(.c (.int .i64 rows)), (.c (.int .i64 cols)), (.c (.sl 1 0 o n 1))]) (fn := Try.f10) (c := bodyOf Try.f10) (fuel := 300) (k := kOf Try.prog Try.f10) (outs := [114, 115]) (hs := [(2, ⟨.call [] (.c (.int .i64 (↑(W.pick rows 6)))) [] [], none⟩), (3, ⟨.auto, some (.c (.int .i64 (↑(1 + W.pick rows 6))))⟩), (5, ⟨.call [] (.c (.int .i64 (↑(W.pick cols 9)))) [] [], none⟩), (6, ⟨.auto, some (.c (.int .i64 (↑(1 + W.pick cols 9))))⟩), (7, ⟨.call [] (.agg [(.int .i64 (↑(1 + W.pick rows 6))), (.int .i64 (↑(1 + W.pick cols 9))), (.sl 114 0 0 (1 + W.pick rows 6) 1), (.int .i64 0), (.int .i64 0), (.bool (false))]) [] [(114, (.one ⟨true, false, (.gen (1 + W.pick rows 6) (fun j_ => (.sl 115 j_ 0 (1 + W.pick cols 9) 4)))⟩)), (115, (.many (fun j_ => some ⟨true, true, (.ig (W.rl (1 + W.pick rows 6) ((1 + W.pick cols 9) * 4) j_) W.ck W.blank)⟩)))], none⟩), (11, ⟨.sum ⟨[2, 6, 7, 8], [1, 2, 114, 115, 130], [], 178⟩ (.exit 0) (LCI l o n (1 + W.pick rows 6) (1 + W.pick cols 9) (W.sX (1 + W.pick rows 6) (1 + W.pick cols 9) l o (min n 60)) (W.sRo (1 + W.pick rows 6) l o (min n 60)) (W.sCo (1 + W.pick cols 9) l o (min n 60)) (W.sHi l o (min n 60)) (min n 60)), none⟩)])
    (cs := [OwnF (fun j_ => some ⟨true, true, (.ig (W.rl (1 + W.pick rows 6) ((1 + W.pick cols 9) * 4) j_) W.ck (fun p_ => (W.sX (1 + W.pick rows 6) (1 + W.pick cols 9) l o (min n 60) j_ p_)))⟩),
      CodeOk Try.prog 77 178 (kAt (kOf Try.prog Try.f10) [true, true, false, true, false]) (LC0 rows cols l o n) (.exit 0) (LCI l o n (1 + W.pick rows 6) (1 + W.pick cols 9) (W.sX (1 + W.pick rows 6) (1 + W.pick cols 9) l o (min n 60)) (W.sRo (1 + W.pick rows 6) l o (min n 60)) (W.sCo (1 + W.pick cols 9) l o (min n 60)) (W.sHi l o (min n 60)) (min n 60)),
      Contract Try.prog 23 [(.c (.int .i64 (↑(1 + W.pick rows 6)))), (.c (.int .i64 (↑(1 + W.pick cols 9))))] [] 114 (.agg [(.int .i64 (↑(1 + W.pick rows 6))), (.int .i64 (↑(1 + W.pick cols 9))), (.sl 114 0 0 (1 + W.pick rows 6) 1), (.int .i64 0), (.int .i64 0), (.bool (false))]) [] [(114, (.one ⟨true, false, (.gen (1 + W.pick rows 6) (fun j_ => (.sl 115 j_ 0 (1 + W.pick cols 9) 4)))⟩)), (115, (.many (fun j_ => some ⟨true, true, (.ig (W.rl (1 + W.pick rows 6) ((1 + W.pick cols 9) * 4) j_) W.ck W.blank)⟩)))],
      EI .i64 (IntKind.wrap IntKind.i64 (1 + (↑(W.pick cols 9) : Int))) ((↑(1 + W.pick cols 9) : Int)),
      Contract Try.prog 14 [(.c (.int .i64 cols)), (.c (.int .i64 9))] [] 82 (.c (.int .i64 (↑(W.pick cols 9)))) [] [],
      EI .i64 (IntKind.wrap IntKind.i64 (1 + (↑(W.pick rows 6) : Int))) ((↑(1 + W.pick rows 6) : Int)),
      Contract Try.prog 14 [(.c (.int .i64 rows)), (.c (.int .i64 6))] [] 34 (.c (.int .i64 (↑(W.pick rows 6)))) [] []])
    mixed Try.func10 (by kernel_rfl) (by kernel_rfl) (by kernel_rfl) (by kernel_rfl) (by kernel_rfl) ⟨OwnF.of (fun _ => rfl), (scr_loop rows cols l o n (by omega) (by omega) (by omega) (by omega) (by omega) (by omega) (by omega)), Contract0.in1 (bs_ok (1 + W.pick rows 6) (1 + W.pick cols 9) (by omega) (by omega)) [] [none, none] [(1, 114), (2, 115)] [] (by kernel_rfl), .mk (by simp only [addO_eq, mulE_eq, mulE_one, Int.toNat_natCast, IntKind.wrap_i64, mmin, mmax]; omega), Contract0.in1 (pick_ok cols 9 (by omega) (by omega)) [] [none, none] [] [] (by kernel_rfl), .mk (by simp only [addO_eq, mulE_eq, mulE_one, Int.toNat_natCast, IntKind.wrap_i64, mmin, mmax]; omega), Contract0.in1 (pick_ok rows 6 (by omega) (by omega)) [] [none, none] [] [] (by kernel_rfl), trivial⟩) [.b 1 1 true] [] [(114, 2), (115, 3)] [] (by kernel_rfl) (by kernel_rfl) (by kernel_rfl) (by kernel_rfl) (by kernel_rfl)
end Go.Proofs.Ytohleiikedpmkaa.Vm
