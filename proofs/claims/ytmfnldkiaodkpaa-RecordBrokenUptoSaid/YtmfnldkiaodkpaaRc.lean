/- What functions of the program come to: parts of the walk (Rc). -/
import Derived.Test.YtmfnldkiaodkpaaRb
import Derived.KernelRfl
import Derived.Test.YtmfnldkiaodkpaaProg
import Derived.Test.YtmfnldkiaodkpaaVmc
set_option linter.unusedSimpArgs false
set_option linter.unusedVariables false
namespace Go.Proofs.Ytmfnldkiaodkpaa.Vm
open Go Go.Proofs Go.Proofs.Ytmfnldkiaodkpaa
set_option maxRecDepth 100000
def LRI (N : Int) (w : Nat) (z : Int) (u : Nat) : S0 :=
  ⟨[(1, (.c (.int .i64 N))), (5, (.c (.ptr 33 0 0))), (6, (.c (.ptr 225 0 0))), (7, (.c (.ptr 257 0 0))), (4, (.c (.bool false))), (8, (.c (.int .i64 ((↑w : Int)))))], [(33, (.one ⟨true, true, .cells ((W.bts z).map (C.int .u8) ++ [.bool true, .int .u64 (u : Int)])⟩)), (225, (.one ⟨true, true, .cells [.ptr 33 0 0, .int .i64 (u : Int), .bool false]⟩)), (257, (.one ⟨true, true, .cells ((W.bts z).map (C.int .u8) ++ [.bool true, .int .u64 0])⟩))], 353⟩
theorem LR_by {α : Type} (I : α → S0) (Inv : α → Prop) (μ : α → Nat) {ex : Ex} {s' : S0} (hex : ex ≠ .normal)
    (step : ∀ x, Inv x → (∃ y, Inv y ∧ μ y < μ x ∧ CodeOk Try.prog 66 353 (kAt (kOf Try.prog Try.f7) [true, true, true, true, true, true, true, false, true, false, false]) (I x) .normal (I y)) ∨ CodeOk Try.prog 66 353 (kAt (kOf Try.prog Try.f7) [true, true, true, true, true, true, true, false, true, false, false]) (I x) ex s') (x : α) (hx : Inv x) :
    CodeOk Try.prog 66 353 (kAt (kOf Try.prog Try.f7) [true, true, true, true, true, true, true, false, true, false]) (I x) ex s' := by
  have hk : (kAt (kOf Try.prog Try.f7) [true, true, true, true, true, true, true, false, true, false]) = .loop (kAt (kOf Try.prog Try.f7) [true, true, true, true, true, true, true, false, true, false, false]) := by kernel_rfl
  rw [hk]
  exact CodeOk.loop I Inv μ hex step x hx
-- init: LRI N 1 K 0
def LR0 (K N : Int) : S0 :=
  ⟨[(1, (.c (.int .i64 N))), (5, (.c (.ptr 33 0 0))), (6, (.c (.ptr 225 0 0))), (7, (.c (.ptr 257 0 0))), (4, (.c (.bool (false)))), (8, (.c (.int .i64 1)))], [(33, (.one ⟨true, true, (.cells ((W.bts K).map (C.int .u8) ++ [(.bool (true)), (.int .u64 0)]))⟩)), (225, (.one ⟨true, true, (.cells [(.ptr 33 0 0), (.int .i64 0), (.bool (false))])⟩)), (257, (.one ⟨true, true, (.cells ((W.bts K).map (C.int .u8) ++ [(.bool (true)), (.int .u64 0)]))⟩))], 353⟩
theorem LR_rtc0 (N : Int) (w : Nat) (z : Int) (u : Nat)
    (hN : -9223372036854775808 ≤ N ∧ N < 9223372036854775808)
    (hp : W.pick N 60 < 60)
    (hu : u + 1 = w)
    (hw : w ≤ 60)
    (h2 : ((↑w : Int) ≤ (↑(W.pick N (60 : Int)) : Int)))
    (c3 : (W.bytes [(↑w : Int)]))
    (c4 : (((↑u : Int) + (1 : Int)) % (16 : Int) = (0 : Int))) :
    CodeOk Try.prog 66 353 (kAt (kOf Try.prog Try.f7) [true, true, true, true, true, true, true, false, true, false, false]) (LRI N w z u) .normal (LRI N (w + 1) (W.rk z) (u + 1)) :=
  CodeOk.of_runs (fuel := 300) (v := ⟨[1, 5, 6, 7, 4, 8], [33, 225, 257], [], 353⟩) (hs := [(2, ⟨.call [] (.c (.int .i64 (↑(W.pick N 60)))) [] [], none⟩), (3, ⟨.auto, some (.c (.bool (true)))⟩), (7, ⟨.auto, some (.c (.int .u8 (↑w)))⟩), (9, ⟨.call [225, 465, 33] (.tup [(.c (.sl 481 0 0 82 1)), (.c (.int .i64 0))]) [] [(225, (.one ⟨true, true, (.cells [(.ptr 33 0 0), (.int .i64 (↑u + 1)), (.bool (false))])⟩)), (33, (.one ⟨true, true, (.cells ((W.bts (W.rk z)).map (C.int .u8) ++ [(.bool (true)), (.int .u64 (↑u + 1))]))⟩)), (481, (.one ⟨true, false, (.ints .u8 (W.rcd z (↑u : Int) 1 (List.take 1 [(↑w : Int)])))⟩))], none⟩), (20, ⟨.auto, some (.c (.bool (true)))⟩), (23, ⟨.call [257] (.c (.int .i64 0)) [] [(257, (.one ⟨true, true, (.cells ((W.bts (W.rk z)).map (C.int .u8) ++ [(.bool (true)), (.int .u64 0)]))⟩))], none⟩), (25, ⟨.call [33] (.aggi .u8 (W.bts (W.rk z))) [] [], none⟩), (27, ⟨.call [257] (.aggi .u8 (W.bts (W.rk z))) [] [], none⟩), (28, ⟨.auto, some (.c (.bool (false)))⟩), (31, ⟨.call [225, 33] (.c (.int .i64 (↑u + 1))) [] [], none⟩), (33, ⟨.auto, some (.c (.bool (false)))⟩), (37, ⟨.call [33] (.c (.int .u64 (↑u + 1))) [] [], none⟩), (39, ⟨.auto, some (.c (.int .u64 (↑w)))⟩), (40, ⟨.auto, some (.c (.bool (false)))⟩), (44, ⟨.auto, some (.c (.int .i64 (↑(w + 1))))⟩)])
    (cs := [EI .i64 (IntKind.wrap IntKind.i64 ((↑w : Int) + 1)) ((↑(w + 1) : Int)),
      EB ((↑u : Int) + 1 != (↑w : Int)) false,
      EI .u64 ((↑w : Int) % 18446744073709551616) ((↑w : Int)),
      Contract Try.prog 33 [(.c (.ptr 33 0 0))] [(33, (.one ⟨true, true, (.cells ((W.bts (W.rk z)).map (C.int .u8) ++ [(.bool (true)), (.int .u64 (↑u + 1))]))⟩))] 897 (.c (.int .u64 (↑u + 1))) [] [],
      EB ((↑u : Int) + 1 != (↑w : Int)) false,
      Contract Try.prog 38 [(.c (.ptr 225 0 0))] [(225, (.one ⟨true, true, (.cells [(.ptr 33 0 0), (.int .i64 (↑u + 1)), (.bool (false))])⟩)), (33, (.one ⟨true, true, (.cells ((W.bts (W.rk z)).map (C.int .u8) ++ [(.bool (true)), (.int .u64 (↑u + 1))]))⟩))] 801 (.c (.int .i64 (↑u + 1))) [] [],
      EB (!W.bts (W.rk z) == W.bts (W.rk z)) false,
      Contract Try.prog 34 [(.c (.ptr 257 0 0))] [(257, (.one ⟨true, true, (.cells ((W.bts (W.rk z)).map (C.int .u8) ++ [(.bool (true)), (.int .u64 0)]))⟩))] 737 (.aggi .u8 (W.bts (W.rk z))) [] [],
      Contract Try.prog 34 [(.c (.ptr 33 0 0))] [(33, (.one ⟨true, true, (.cells ((W.bts (W.rk z)).map (C.int .u8) ++ [(.bool (true)), (.int .u64 (↑u + 1))]))⟩))] 705 (.aggi .u8 (W.bts (W.rk z))) [] [],
      Contract Try.prog 30 [(.c (.ptr 257 0 0))] [(257, (.one ⟨true, true, (.cells ((W.bts z).map (C.int .u8) ++ [(.bool (true)), (.int .u64 0)]))⟩))] 673 (.c (.int .i64 0)) [] [(257, (.one ⟨true, true, (.cells ((W.bts (W.rk z)).map (C.int .u8) ++ [(.bool (true)), (.int .u64 0)]))⟩))],
      EB ((↑(w % 16) : Int) == 0) true,
      Contract Try.prog 37 [(.c (.ptr 225 0 0)), (.c (.sl 465 0 0 1 1))] [(225, (.one ⟨true, true, (.cells [(.ptr 33 0 0), (.int .i64 (↑u)), (.bool (false))])⟩)), (465, (.one ⟨true, true, (.cells [(.int .u8 (↑w))])⟩)), (33, (.one ⟨true, true, (.cells ((W.bts z).map (C.int .u8) ++ [(.bool (true)), (.int .u64 (↑u))]))⟩))] 481 (.tup [(.c (.sl 481 0 0 82 1)), (.c (.int .i64 0))]) [] [(225, (.one ⟨true, true, (.cells [(.ptr 33 0 0), (.int .i64 (↑u + 1)), (.bool (false))])⟩)), (33, (.one ⟨true, true, (.cells ((W.bts (W.rk z)).map (C.int .u8) ++ [(.bool (true)), (.int .u64 (↑u + 1))]))⟩)), (481, (.one ⟨true, false, (.ints .u8 (W.rcd z (↑u : Int) 1 (List.take 1 [(↑w : Int)])))⟩))],
      EI .u8 ((↑w : Int) % 256) ((↑w : Int)),
      EB (decide ((↑w : Int) ≤ (↑(W.pick N 60) : Int))) true,
      Contract Try.prog 15 [(.c (.int .i64 N)), (.c (.int .i64 60))] [] 385 (.c (.int .i64 (↑(W.pick N 60)))) [] []])
    mixed (by kernel_rfl) ⟨.mk (by simp only [addO_eq, mulE_eq, mulE_one, Int.toNat_natCast, IntKind.wrap_i64, mmin, mmax]; omega), .mk (bne_f (Decidable.of_not_not (by omega))), .mk (by omega), Contract0.inst (cnonceK true ((↑u : Int) + 1) (W.rk z)) [.b 33 1 true []] [none] [] [] (by kernel_rfl) (by kernel_rfl) (by kernel_rfl) (by kernel_rfl) (by kernel_rfl), .mk (bne_f (Decidable.of_not_not (by omega))), Contract0.inst (hcount ((↑u : Int) + 1) false true ((↑u : Int) + 1) (W.rk z)) [.b 225 1 true [], .b 33 2 true []] [none] [] [] (by kernel_rfl) (by kernel_rfl) (by kernel_rfl) (by kernel_rfl) (by kernel_rfl), .mk (not_f (by simp)), Contract0.inst (ckeyK true 0 (W.rk z)) [.b 257 1 true []] [none] [] [] (by kernel_rfl) (by kernel_rfl) (by kernel_rfl) (by kernel_rfl) (by kernel_rfl), Contract0.inst (ckeyK true ((↑u : Int) + 1) (W.rk z)) [.b 33 1 true []] [none] [] [] (by kernel_rfl) (by kernel_rfl) (by kernel_rfl) (by kernel_rfl) (by kernel_rfl), Contract0.inst (crekeyK true 0 z) [.b 257 1 false []] [none] [] [] (by kernel_rfl) (by kernel_rfl) (by kernel_rfl) (by kernel_rfl) (by kernel_rfl), .mk (beq_t (by omega)), Contract0.inst (hseal_t true ((↑u : Int)) ((↑u : Int)) z ([(↑w : Int)]) 0 1 (by simp only [and_true, List.length_set, List.length_append, List.length_replicate, List.length_take, List.length_drop, List.length_map, List.length_cons, List.length_nil, List.length_zipWith, splice_len1, W.le_len, W.bts_len, Int.toNat_natCast, addO_eq, mulE_eq, mulE_one, W.once_len, W.block_len, W.p8_len, W.apply_len, W.boxTag_len, W.box_len, W.nonce_len, W.hand_len, W.tag_len, W.padd_len, W.frm_len]; omega) c3 (by omega) (by omega) (by omega) (by omega) c4) [.b 225 1 false [], .b 33 2 false [], .b 465 3 true []] [none, none] [(4, 481)] [] (by kernel_rfl) (by kernel_rfl) (by kernel_rfl) (by kernel_rfl) (by kernel_rfl), .mk (by omega), .mk (decide_eq_true h2), Contract0.inst (pick_ok N 60 (by omega) (by omega)) [] [none, none] [] [] (by kernel_rfl) (by kernel_rfl) (by kernel_rfl) (by kernel_rfl) (by kernel_rfl), trivial⟩
theorem LR_rtc1 (N : Int) (w : Nat) (z : Int) (u : Nat)
    (hN : -9223372036854775808 ≤ N ∧ N < 9223372036854775808)
    (hp : W.pick N 60 < 60)
    (hu : u + 1 = w)
    (hw : w ≤ 60)
    (h2 : ((↑w : Int) ≤ (↑(W.pick N (60 : Int)) : Int)))
    (c3 : (W.bytes [(↑w : Int)]))
    (c4 : (¬((↑u : Int) + (1 : Int)) % (16 : Int) = (0 : Int))) :
    CodeOk Try.prog 66 353 (kAt (kOf Try.prog Try.f7) [true, true, true, true, true, true, true, false, true, false, false]) (LRI N w z u) .normal (LRI N (w + 1) z (u + 1)) :=
  CodeOk.of_runs (fuel := 300) (v := ⟨[1, 5, 6, 7, 4, 8], [33, 225, 257], [], 353⟩) (hs := [(2, ⟨.call [] (.c (.int .i64 (↑(W.pick N 60)))) [] [], none⟩), (3, ⟨.auto, some (.c (.bool (true)))⟩), (7, ⟨.auto, some (.c (.int .u8 (↑w)))⟩), (9, ⟨.call [225, 465, 33] (.tup [(.c (.sl 481 0 0 82 1)), (.c (.int .i64 0))]) [] [(225, (.one ⟨true, true, (.cells [(.ptr 33 0 0), (.int .i64 (↑u + 1)), (.bool (false))])⟩)), (33, (.one ⟨true, true, (.cells ((W.bts z).map (C.int .u8) ++ [(.bool (true)), (.int .u64 (↑u + 1))]))⟩)), (481, (.one ⟨true, false, (.ints .u8 (W.rcd z (↑u : Int) 1 (List.take 1 [(↑w : Int)])))⟩))], none⟩), (20, ⟨.auto, some (.c (.bool (false)))⟩), (23, ⟨.call [33] (.aggi .u8 (W.bts z)) [] [], none⟩), (25, ⟨.call [257] (.aggi .u8 (W.bts z)) [] [], none⟩), (26, ⟨.auto, some (.c (.bool (false)))⟩), (29, ⟨.call [225, 33] (.c (.int .i64 (↑u + 1))) [] [], none⟩), (31, ⟨.auto, some (.c (.bool (false)))⟩), (35, ⟨.call [33] (.c (.int .u64 (↑u + 1))) [] [], none⟩), (37, ⟨.auto, some (.c (.int .u64 (↑w)))⟩), (38, ⟨.auto, some (.c (.bool (false)))⟩), (42, ⟨.auto, some (.c (.int .i64 (↑(w + 1))))⟩)])
    (cs := [EI .i64 (IntKind.wrap IntKind.i64 ((↑w : Int) + 1)) ((↑(w + 1) : Int)),
      EB ((↑u : Int) + 1 != (↑w : Int)) false,
      EI .u64 ((↑w : Int) % 18446744073709551616) ((↑w : Int)),
      Contract Try.prog 33 [(.c (.ptr 33 0 0))] [(33, (.one ⟨true, true, (.cells ((W.bts z).map (C.int .u8) ++ [(.bool (true)), (.int .u64 (↑u + 1))]))⟩))] 865 (.c (.int .u64 (↑u + 1))) [] [],
      EB ((↑u : Int) + 1 != (↑w : Int)) false,
      Contract Try.prog 38 [(.c (.ptr 225 0 0))] [(225, (.one ⟨true, true, (.cells [(.ptr 33 0 0), (.int .i64 (↑u + 1)), (.bool (false))])⟩)), (33, (.one ⟨true, true, (.cells ((W.bts z).map (C.int .u8) ++ [(.bool (true)), (.int .u64 (↑u + 1))]))⟩))] 769 (.c (.int .i64 (↑u + 1))) [] [],
      EB (!W.bts z == W.bts z) false,
      Contract Try.prog 34 [(.c (.ptr 257 0 0))] [(257, (.one ⟨true, true, (.cells ((W.bts z).map (C.int .u8) ++ [(.bool (true)), (.int .u64 0)]))⟩))] 705 (.aggi .u8 (W.bts z)) [] [],
      Contract Try.prog 34 [(.c (.ptr 33 0 0))] [(33, (.one ⟨true, true, (.cells ((W.bts z).map (C.int .u8) ++ [(.bool (true)), (.int .u64 (↑u + 1))]))⟩))] 673 (.aggi .u8 (W.bts z)) [] [],
      EB ((↑(w % 16) : Int) == 0) false,
      Contract Try.prog 37 [(.c (.ptr 225 0 0)), (.c (.sl 465 0 0 1 1))] [(225, (.one ⟨true, true, (.cells [(.ptr 33 0 0), (.int .i64 (↑u)), (.bool (false))])⟩)), (465, (.one ⟨true, true, (.cells [(.int .u8 (↑w))])⟩)), (33, (.one ⟨true, true, (.cells ((W.bts z).map (C.int .u8) ++ [(.bool (true)), (.int .u64 (↑u))]))⟩))] 481 (.tup [(.c (.sl 481 0 0 82 1)), (.c (.int .i64 0))]) [] [(225, (.one ⟨true, true, (.cells [(.ptr 33 0 0), (.int .i64 (↑u + 1)), (.bool (false))])⟩)), (33, (.one ⟨true, true, (.cells ((W.bts z).map (C.int .u8) ++ [(.bool (true)), (.int .u64 (↑u + 1))]))⟩)), (481, (.one ⟨true, false, (.ints .u8 (W.rcd z (↑u : Int) 1 (List.take 1 [(↑w : Int)])))⟩))],
      EI .u8 ((↑w : Int) % 256) ((↑w : Int)),
      EB (decide ((↑w : Int) ≤ (↑(W.pick N 60) : Int))) true,
      Contract Try.prog 15 [(.c (.int .i64 N)), (.c (.int .i64 60))] [] 385 (.c (.int .i64 (↑(W.pick N 60)))) [] []])
    mixed (by kernel_rfl) ⟨.mk (by simp only [addO_eq, mulE_eq, mulE_one, Int.toNat_natCast, IntKind.wrap_i64, mmin, mmax]; omega), .mk (bne_f (Decidable.of_not_not (by omega))), .mk (by omega), Contract0.inst (cnonceK true ((↑u : Int) + 1) z) [.b 33 1 true []] [none] [] [] (by kernel_rfl) (by kernel_rfl) (by kernel_rfl) (by kernel_rfl) (by kernel_rfl), .mk (bne_f (Decidable.of_not_not (by omega))), Contract0.inst (hcount ((↑u : Int) + 1) false true ((↑u : Int) + 1) z) [.b 225 1 true [], .b 33 2 true []] [none] [] [] (by kernel_rfl) (by kernel_rfl) (by kernel_rfl) (by kernel_rfl) (by kernel_rfl), .mk (not_f (by simp)), Contract0.inst (ckeyK true 0 z) [.b 257 1 true []] [none] [] [] (by kernel_rfl) (by kernel_rfl) (by kernel_rfl) (by kernel_rfl) (by kernel_rfl), Contract0.inst (ckeyK true ((↑u : Int) + 1) z) [.b 33 1 true []] [none] [] [] (by kernel_rfl) (by kernel_rfl) (by kernel_rfl) (by kernel_rfl) (by kernel_rfl), .mk (beq_f (by omega)), Contract0.inst (hseal_f true ((↑u : Int)) ((↑u : Int)) z ([(↑w : Int)]) 0 1 (by simp only [and_true, List.length_set, List.length_append, List.length_replicate, List.length_take, List.length_drop, List.length_map, List.length_cons, List.length_nil, List.length_zipWith, splice_len1, W.le_len, W.bts_len, Int.toNat_natCast, addO_eq, mulE_eq, mulE_one, W.once_len, W.block_len, W.p8_len, W.apply_len, W.boxTag_len, W.box_len, W.nonce_len, W.hand_len, W.tag_len, W.padd_len, W.frm_len]; omega) c3 (by omega) (by omega) (by omega) (by omega) c4) [.b 225 1 false [], .b 33 2 false [], .b 465 3 true []] [none, none] [(4, 481)] [] (by kernel_rfl) (by kernel_rfl) (by kernel_rfl) (by kernel_rfl) (by kernel_rfl), .mk (by omega), .mk (decide_eq_true h2), Contract0.inst (pick_ok N 60 (by omega) (by omega)) [] [none, none] [] [] (by kernel_rfl) (by kernel_rfl) (by kernel_rfl) (by kernel_rfl) (by kernel_rfl), trivial⟩
theorem LR_xf (N : Int) (w : Nat) (z : Int) (u : Nat)
    (hN : -9223372036854775808 ≤ N ∧ N < 9223372036854775808)
    (hp : W.pick N 60 < 60)
    (hu : u + 1 = w)
    (hw : w ≤ 60)
    (h2 : (¬(↑w : Int) ≤ (↑(W.pick N (60 : Int)) : Int))) :
    CodeOk Try.prog 66 353 (kAt (kOf Try.prog Try.f7) [true, true, true, true, true, true, true, false, true, false, false]) (LRI N w z u) (.exit 0) (LRI N w z u) :=
  CodeOk.of_runs (fuel := 300) (v := ⟨[1, 5, 6, 7, 4, 8], [33, 225, 257], [], 353⟩) (hs := [(2, ⟨.call [] (.c (.int .i64 (↑(W.pick N 60)))) [] [], none⟩), (3, ⟨.auto, some (.c (.bool (false)))⟩)])
    (cs := [EB (decide ((↑w : Int) ≤ (↑(W.pick N 60) : Int))) false,
      Contract Try.prog 15 [(.c (.int .i64 N)), (.c (.int .i64 60))] [] 385 (.c (.int .i64 (↑(W.pick N 60)))) [] []])
    mixed (by kernel_rfl) ⟨.mk (decide_eq_false h2), Contract0.inst (pick_ok N 60 (by omega) (by omega)) [] [none, none] [] [] (by kernel_rfl) (by kernel_rfl) (by kernel_rfl) (by kernel_rfl) (by kernel_rfl), trivial⟩

-- recordRekeys 0: 19040 ms
end Go.Proofs.Ytmfnldkiaodkpaa.Vm

namespace Go.Proofs.Ytmfnldkiaodkpaa.Vm
open Go Go.Proofs Go.Proofs.Ytmfnldkiaodkpaa
/-- The key behind so many records. -/
noncomputable def recKey (K : Int) : Nat → Int
  | 0 => K
  | i + 1 => if (i + 1) % 16 = 0 then W.rk (recKey K i) else recKey K i
theorem rekeys_loop (K N : Int) (hN : -9223372036854775808 ≤ N ∧ N < 9223372036854775808) (hp : W.pick N 60 < 60) :
    CodeOk Try.prog 66 353 (kAt (kOf Try.prog Try.f7) [true, true, true, true, true, true, true, false, true, false]) (LR0 K N) (.exit 0) (LRI N (W.pick N 60 + 1) (recKey K (W.pick N 60)) (W.pick N 60)) := by
  refine LR_by (fun i : Nat => LRI N (i + 1) (recKey K i) i) (fun i => i ≤ W.pick N 60) (fun i => W.pick N 60 - i) (by simp) ?_ 0 (Nat.zero_le _)
  intro i hi
  by_cases h : i < W.pick N 60
  · refine .inl ⟨i + 1, h, by omega, ?_⟩
    have c3 : W.bytes [((i + 1 : Nat) : Int)] := by
      intro x hx
      rw [List.mem_singleton] at hx
      omega
    by_cases h5 : (i + 1) % 16 = 0
    · have e : recKey K (i + 1) = W.rk (recKey K i) := if_pos h5
      rw [e]
      exact LR_rtc0 N (i + 1) _ i hN hp rfl (by omega) (by omega) c3 (by omega)
    · have e : recKey K (i + 1) = recKey K i := if_neg h5
      rw [e]
      exact LR_rtc1 N (i + 1) _ i hN hp rfl (by omega) (by omega) c3 (by omega)
  · have e : i = W.pick N 60 := by omega
    right
    rw [← e]
    exact LR_xf N (i + 1) _ i hN hp rfl (by omega) (by omega)
end Go.Proofs.Ytmfnldkiaodkpaa.Vm

namespace Go.Proofs.Ytmfnldkiaodkpaa.Vm
open Go Go.Proofs Go.Proofs.Ytmfnldkiaodkpaa
set_option maxRecDepth 100000
theorem recordRekeys (K N : Int)
    (hN : -9223372036854775808 ≤ N ∧ N < 9223372036854775808)
    (hp : W.pick N 60 < 60) :
    PureF Try.prog 7 [(.aggi .u8 (W.bts K)), (.c (.int .i64 N))] (.c (.bool (true))) :=
  Contract0.of_frun (res := (.c (.bool (true)))) (up := []) (kill := []) (n0 := 1) (m := []) (args := [(.aggi .u8 (W.bts K)), (.c (.int .i64 N))]) (fn := Try.f7) (c := bodyOf Try.f7) (fuel := 300) (k := kOf Try.prog Try.f7) (outs := []) (hs := [(2, ⟨.call [] (.c (.ptr 33 0 0)) [] [(33, (.one ⟨true, true, (.cells ((W.bts 0).map (C.int .u8) ++ [(.bool (false)), (.int .u64 0)]))⟩))], none⟩), (4, ⟨.call [] (.c (.bool (true))) [] [], none⟩), (13, ⟨.call [33] (.tup []) [] [(33, (.one ⟨true, true, (.cells ((W.bts K).map (C.int .u8) ++ [(.bool (true)), (.int .u64 0)]))⟩))], none⟩), (15, ⟨.call [33] (.c (.ptr 225 0 0)) [] [(33, (.one ⟨true, true, (.cells ((W.bts K).map (C.int .u8) ++ [(.bool (true)), (.int .u64 0)]))⟩)), (225, (.one ⟨true, true, (.cells [(.ptr 33 0 0), (.int .i64 0), (.bool (false))])⟩))], none⟩), (17, ⟨.call [] (.c (.ptr 257 0 0)) [] [(257, (.one ⟨true, true, (.cells ((W.bts 0).map (C.int .u8) ++ [(.bool (false)), (.int .u64 0)]))⟩))], none⟩), (21, ⟨.call [257] (.tup []) [] [(257, (.one ⟨true, true, (.cells ((W.bts K).map (C.int .u8) ++ [(.bool (true)), (.int .u64 0)]))⟩))], none⟩), (23, ⟨.sum ⟨[1, 5, 6, 7, 4, 8], [33, 225, 257], [], 353⟩ (.exit 0) (LRI N (W.pick N 60 + 1) (recKey K (W.pick N 60)) (W.pick N 60)), none⟩)])
    (cs := [CodeOk Try.prog 66 353 (kAt (kOf Try.prog Try.f7) [true, true, true, true, true, true, true, false, true, false]) (LR0 K N) (.exit 0) (LRI N (W.pick N 60 + 1) (recKey K (W.pick N 60)) (W.pick N 60)),
      Contract Try.prog 29 [(.c (.ptr 257 0 0)), (.aggi .u8 (W.bts K))] [(257, (.one ⟨true, true, (.cells ((W.bts 0).map (C.int .u8) ++ [(.bool (false)), (.int .u64 0)]))⟩))] 321 (.tup []) [] [(257, (.one ⟨true, true, (.cells ((W.bts K).map (C.int .u8) ++ [(.bool (true)), (.int .u64 0)]))⟩))],
      Contract Try.prog 27 [] [] 257 (.c (.ptr 257 0 0)) [] [(257, (.one ⟨true, true, (.cells ((W.bts 0).map (C.int .u8) ++ [(.bool (false)), (.int .u64 0)]))⟩))],
      Contract Try.prog 36 [(.c (.ptr 33 0 0))] [(33, (.one ⟨true, true, (.cells ((W.bts K).map (C.int .u8) ++ [(.bool (true)), (.int .u64 0)]))⟩))] 225 (.c (.ptr 225 0 0)) [] [(33, (.one ⟨true, true, (.cells ((W.bts K).map (C.int .u8) ++ [(.bool (true)), (.int .u64 0)]))⟩)), (225, (.one ⟨true, true, (.cells [(.ptr 33 0 0), (.int .i64 0), (.bool (false))])⟩))],
      Contract Try.prog 29 [(.c (.ptr 33 0 0)), (.aggi .u8 (W.bts K))] [(33, (.one ⟨true, true, (.cells ((W.bts 0).map (C.int .u8) ++ [(.bool (false)), (.int .u64 0)]))⟩))] 193 (.tup []) [] [(33, (.one ⟨true, true, (.cells ((W.bts K).map (C.int .u8) ++ [(.bool (true)), (.int .u64 0)]))⟩))],
      Contract Try.prog 35 [] [] 65 (.c (.bool (true))) [] [],
      Contract Try.prog 27 [] [] 33 (.c (.ptr 33 0 0)) [] [(33, (.one ⟨true, true, (.cells ((W.bts 0).map (C.int .u8) ++ [(.bool (false)), (.int .u64 0)]))⟩))]])
    mixed Try.func7 (by kernel_rfl) (by kernel_rfl) (by kernel_rfl) (by kernel_rfl) (by kernel_rfl) ⟨(rekeys_loop K N (by omega) (by omega)), Contract0.inst (cinit true false 0 0 0 0 0 0 0 0 0 0 0 0 0 0 0 0 0 0 0 0 0 0 0 0 0 0 0 0 0 0 0 0 0 (K % 256) (K / 256 % 256) (K / 65536 % 256) (K / 16777216 % 256) (K / 4294967296 % 256) (K / 1099511627776 % 256) (K / 281474976710656 % 256) (K / 72057594037927936 % 256) (K / 18446744073709551616 % 256) (K / 4722366482869645213696 % 256) (K / 1208925819614629174706176 % 256) (K / 309485009821345068724781056 % 256) (K / 79228162514264337593543950336 % 256) (K / 20282409603651670423947251286016 % 256) (K / 5192296858534827628530496329220096 % 256) (K / 1329227995784915872903807060280344576 % 256) (K / 340282366920938463463374607431768211456 % 256) (K / 87112285931760246646623899502532662132736 % 256) (K / 22300745198530623141535718272648361505980416 % 256) (K / 5708990770823839524233143877797980545530986496 % 256) (K / 1461501637330902918203684832716283019655932542976 % 256) (K / 374144419156711147060143317175368453031918731001856 % 256) (K / 95780971304118053647396689196894323976171195136475136 % 256) (K / 24519928653854221733733552434404946937899825954937634816 % 256) (K / 6277101735386680763835789423207666416102355444464034512896 % 256) (K / 1606938044258990275541962092341162602522202993782792835301376 % 256) (K / 411376139330301510538742295639337626245683966408394965837152256 % 256) (K / 105312291668557186697918027683670432318895095400549111254310977536 % 256) (K / 26959946667150639794667015087019630673637144422540572481103610249216 % 256) (K / 6901746346790563787434755862277025452451108972170386555162524223799296 % 256) (K / 1766847064778384329583297500742918515827483896875618958121606201292619776 % 256) (K / 452312848583266388373324160190187140051835877600158453279131187530910662656 % 256)) [.b 257 1 false []] [none, none] [] [] (by kernel_rfl) (by kernel_rfl) (by kernel_rfl) (by kernel_rfl) (by kernel_rfl), Contract0.inst cnew [] [] [(1, 257)] [] (by kernel_rfl) (by kernel_rfl) (by kernel_rfl) (by kernel_rfl) (by kernel_rfl), Contract0.inst (newHalf true true 0 K) [.b 33 1 false []] [none] [(2, 225)] [] (by kernel_rfl) (by kernel_rfl) (by kernel_rfl) (by kernel_rfl) (by kernel_rfl), Contract0.inst (cinit true false 0 0 0 0 0 0 0 0 0 0 0 0 0 0 0 0 0 0 0 0 0 0 0 0 0 0 0 0 0 0 0 0 0 (K % 256) (K / 256 % 256) (K / 65536 % 256) (K / 16777216 % 256) (K / 4294967296 % 256) (K / 1099511627776 % 256) (K / 281474976710656 % 256) (K / 72057594037927936 % 256) (K / 18446744073709551616 % 256) (K / 4722366482869645213696 % 256) (K / 1208925819614629174706176 % 256) (K / 309485009821345068724781056 % 256) (K / 79228162514264337593543950336 % 256) (K / 20282409603651670423947251286016 % 256) (K / 5192296858534827628530496329220096 % 256) (K / 1329227995784915872903807060280344576 % 256) (K / 340282366920938463463374607431768211456 % 256) (K / 87112285931760246646623899502532662132736 % 256) (K / 22300745198530623141535718272648361505980416 % 256) (K / 5708990770823839524233143877797980545530986496 % 256) (K / 1461501637330902918203684832716283019655932542976 % 256) (K / 374144419156711147060143317175368453031918731001856 % 256) (K / 95780971304118053647396689196894323976171195136475136 % 256) (K / 24519928653854221733733552434404946937899825954937634816 % 256) (K / 6277101735386680763835789423207666416102355444464034512896 % 256) (K / 1606938044258990275541962092341162602522202993782792835301376 % 256) (K / 411376139330301510538742295639337626245683966408394965837152256 % 256) (K / 105312291668557186697918027683670432318895095400549111254310977536 % 256) (K / 26959946667150639794667015087019630673637144422540572481103610249216 % 256) (K / 6901746346790563787434755862277025452451108972170386555162524223799296 % 256) (K / 1766847064778384329583297500742918515827483896875618958121606201292619776 % 256) (K / 452312848583266388373324160190187140051835877600158453279131187530910662656 % 256)) [.b 33 1 false []] [none, none] [] [] (by kernel_rfl) (by kernel_rfl) (by kernel_rfl) (by kernel_rfl) (by kernel_rfl), Contract0.inst known16 [] [] [] [] (by kernel_rfl) (by kernel_rfl) (by kernel_rfl) (by kernel_rfl) (by kernel_rfl), Contract0.inst cnew [] [] [(1, 33)] [] (by kernel_rfl) (by kernel_rfl) (by kernel_rfl) (by kernel_rfl) (by kernel_rfl), trivial⟩


-- recordRekeys: 1328 ms
end Go.Proofs.Ytmfnldkiaodkpaa.Vm

namespace Go.Proofs.Ytmfnldkiaodkpaa.Vm
open Go Go.Proofs Go.Proofs.Ytmfnldkiaodkpaa
theorem bkt4 {n : Nat} : W.bkt n = 64 ∨ W.bkt n = 256 ∨ W.bkt n = 1024 ∨ W.bkt n = 3968 := by unfold W.bkt; split <;> (try split) <;> (try split) <;> omega
theorem recordSizes_law (k : List Int) (hk : k.length = 32) (hkb : W.bytes k) (j : List Int) (hj : j.length = 32) (hjb : W.bytes j) (n : Int) (hn : -9223372036854775808 ≤ n ∧ n < 9223372036854775808) (a : Int) (ha : -9223372036854775808 ≤ a ∧ a < 9223372036854775808) (b : Int) (hb : -9223372036854775808 ≤ b ∧ b < 9223372036854775808) :
    Contract0 Try.prog 6 [(.aggi .u8 k), (.aggi .u8 j), (.c (.int .i64 n)), (.c (.int .i64 a)), (.c (.int .i64 b))] (memL [] 1) 1 (.c (.bool true)) [] [] := by
  have e := key_bts hk hkb
  have e2 := key_bts hj hjb
  rw [e, e2]
  by_cases h : W.pick n 4000 ≤ 3966
  · have v := @bkt4 (W.pick n 4000)
    by_cases h1 : W.bkt (W.pick n 4000) = 64
    · exact recordSizes_t (W.num k) (W.num j) n a b hn ha hb v h (by omega)
    · by_cases h2 : W.bkt (W.pick n 4000) = 256
      · exact recordSizes_ft (W.num k) (W.num j) n a b hn ha hb v h (by omega) (by omega)
      · by_cases h3 : W.bkt (W.pick n 4000) = 1024
        · exact recordSizes_fft (W.num k) (W.num j) n a b hn ha hb v h (by omega) (by omega) (by omega)
        · exact recordSizes_fff (W.num k) (W.num j) n a b hn ha hb v h (by omega) (by omega) (by omega)
  · have p : (W.pick n 4000 : Int) < 4000 := W.pick_lt (by decide)
    exact recordSizesL (W.num k) (W.num j) n a b hn ha hb (by omega) (by omega)
theorem recordRekeys_law (k : List Int) (hk : k.length = 32) (hkb : W.bytes k) (N : Int) (hN : -9223372036854775808 ≤ N ∧ N < 9223372036854775808) :
    Contract0 Try.prog 7 [(.aggi .u8 k), (.c (.int .i64 N))] (memL [] 1) 1 (.c (.bool true)) [] [] := by
  have e := key_bts hk hkb
  rw [e]
  have p : (W.pick N 60 : Int) < 60 := W.pick_lt (by decide)
  exact recordRekeys (W.num k) N hN (by omega)
end Go.Proofs.Ytmfnldkiaodkpaa.Vm
