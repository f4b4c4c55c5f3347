/- What functions of the program come to: parts of the walk (Ee). -/
import Derived.Test.YtmfnldkiaodkpaaDoorEd
import Derived.Test.YtmfnldkiaodkpaaDoorOe
import Derived.KernelRfl
import Derived.Test.YtmfnldkiaodkpaaDoorProg
import Derived.Test.YtmfnldkiaodkpaaDoorEf
set_option linter.unusedSimpArgs false
set_option linter.unusedVariables false
namespace Go.Proofs.YtmfnldkiaodkpaaDoor.Vm
open Go Go.Proofs Go.Proofs.YtmfnldkiaodkpaaDoor
set_option maxRecDepth 100000
theorem errno0 :
    PureF Tryd.prog 32 [(.c (.int .i64 0))] (.c (.int .i64 0)) :=
  Contract0.of_frun (res := (.c (.int .i64 0))) (up := []) (kill := []) (n0 := 1) (m := []) (args := [(.c (.int .i64 0))]) (fn := Tryd.f32) (c := bodyOf Tryd.f32) (fuel := 300) (k := kOf Tryd.prog Tryd.f32) (outs := []) (hs := [])
    (cs := [])
    mixed Tryd.func32 (by kernel_rfl) (by kernel_rfl) (by kernel_rfl) (by kernel_rfl) (by kernel_rfl) trivial


theorem errno1 :
    PureF Tryd.prog 32 [(.c (.int .i64 1))] (.c (.int .i64 7)) :=
  Contract0.of_frun (res := (.c (.int .i64 7))) (up := []) (kill := []) (n0 := 1) (m := []) (args := [(.c (.int .i64 1))]) (fn := Tryd.f32) (c := bodyOf Tryd.f32) (fuel := 300) (k := kOf Tryd.prog Tryd.f32) (outs := []) (hs := [])
    (cs := [])
    mixed Tryd.func32 (by kernel_rfl) (by kernel_rfl) (by kernel_rfl) (by kernel_rfl) (by kernel_rfl) trivial


theorem errno2 :
    PureF Tryd.prog 32 [(.c (.int .i64 2))] (.c (.int .i64 8)) :=
  Contract0.of_frun (res := (.c (.int .i64 8))) (up := []) (kill := []) (n0 := 1) (m := []) (args := [(.c (.int .i64 2))]) (fn := Tryd.f32) (c := bodyOf Tryd.f32) (fuel := 300) (k := kOf Tryd.prog Tryd.f32) (outs := []) (hs := [])
    (cs := [])
    mixed Tryd.func32 (by kernel_rfl) (by kernel_rfl) (by kernel_rfl) (by kernel_rfl) (by kernel_rfl) trivial


theorem aeadOpens_tc0 (k nn la lt lr : List Int) (oa na ot nt o_ nr : Nat) (how at_ by_ : Int) (G : Nat → List Int)
    (hk : k.length = 32)
    (hnn : nn.length = 12)
    (hkb : W.bytes k)
    (hnb : W.bytes nn)
    (hG : G 2 = W.rows)
    (hla : oa + na ≤ la.length)
    (hlt : ot + nt ≤ lt.length)
    (hs : na + nt ≤ 1900000)
    (hba : W.bytes la)
    (hbt : W.bytes lt)
    (hlr : o_ + nr ≤ lr.length)
    (hs2 : na + nr ≤ 1900000)
    (hbr : W.bytes lr)
    (hho : -9223372036854775808 ≤ how ∧ how < 9223372036854775808)
    (hat : -9223372036854775808 ≤ at_ ∧ at_ < 9223372036854775808)
    (hby : 0 ≤ by_ ∧ by_ < 256)
    (hp7 : (W.pick how 7 : Int) < 7)
    (hp1 : (W.pick at_ ((nt + 16 : Nat) : Int) : Int) < ((nt + 16 : Nat) : Int))
    (hp2 : (W.pick at_ ((nt + 16 + 1 : Nat) : Int) : Int) < ((nt + 16 + 1 : Nat) : Int))
    (hp3 : (W.pick at_ 32 : Int) < 32)
    (hp4 : (W.pick at_ 12 : Int) < 12)
    (h0 : ((↑(W.pick how (7 : Int)) : Int) = (0 : Int)))
    (c1 : ((↑nr : Int) < (16 : Int))) :
    Contract0 Tryd.prog 5 [(.aggi .u8 k), (.aggi .u8 nn), (.c (.sl 1 0 oa na 1)), (.c (.sl 2 0 ot nt 1)), (.c (.int .i64 how)), (.c (.int .i64 at_)), (.c (.int .u8 by_)), (.c (.sl 3 0 o_ nr 1))] [(0, (.many (fun j_ => some ⟨false, false, (.ints (W.gk j_) (G j_))⟩))), (1, (.one ⟨false, false, (.ints .u8 la)⟩)), (2, (.one ⟨false, false, (.ints .u8 lt)⟩)), (3, (.one ⟨false, false, (.ints .u8 lr)⟩))] 5 (.c (.bool (true))) [] [] :=
  Contract0.unkill pr_glob (Contract0.of_frun (res := (.c (.bool (true)))) (up := []) (kill := [0]) (n0 := 5) (m := [(0, (.many (fun j_ => some ⟨false, false, (.ints (W.gk j_) (G j_))⟩))), (1, (.one ⟨false, false, (.ints .u8 la)⟩)), (2, (.one ⟨false, false, (.ints .u8 lt)⟩)), (3, (.one ⟨false, false, (.ints .u8 lr)⟩))]) (args := [(.aggi .u8 k), (.aggi .u8 nn), (.c (.sl 1 0 oa na 1)), (.c (.sl 2 0 ot nt 1)), (.c (.int .i64 how)), (.c (.int .i64 at_)), (.c (.int .u8 by_)), (.c (.sl 3 0 o_ nr 1))]) (fn := Tryd.f5) (c := bodyOf Tryd.f5) (fuel := 300) (k := kOf Tryd.prog Tryd.f5) (outs := []) (hs := [(3, ⟨.ask, some (.aggi .u8 k)⟩), (4, ⟨.ask, some (.aggi .u8 nn)⟩), (7, ⟨.call [0, 1, 2] (.c (.sl 117 0 0 (nt + 16) 1)) [] [(117, (.one ⟨true, false, (.ints .u8 (W.box k nn (List.take na (List.drop oa la)) (List.take nt (List.drop ot lt))))⟩))], none⟩), (10, ⟨.call [] (.c (.int .i64 (↑(W.pick how 7)))) [] [], none⟩), (12, ⟨.auto, some (.c (.bool (true)))⟩), (17, ⟨.call [3] (.c (.sl 261 0 0 nr 1)) [] [(261, (.one ⟨true, false, (.ints .u8 (List.take nr (List.drop o_ lr)))⟩))], none⟩), (19, ⟨.ask, some (.aggi .u8 k)⟩), (20, ⟨.ask, some (.aggi .u8 nn)⟩), (23, ⟨.call [1, 261] (.tup [(.c .nils), (.c (.int .i64 7))]) [] [], none⟩), (29, ⟨.ask, some (.aggi .u8 k)⟩), (30, ⟨.ask, some (.aggi .u8 nn)⟩), (33, ⟨.call [0, 1, 261] (.tup [(.c .nils), (.c (.int .i64 1))]) [] [], none⟩), (39, ⟨.call [] (.c (.bool (true))) [] [], none⟩), (50, ⟨.call [] (.c (.int .i64 7)) [] [], none⟩)])
    (cs := [Contract Tryd.prog 32 [(.c (.int .i64 1))] [] 789 (.c (.int .i64 7)) [] [],
      Contract Tryd.prog 24 [] [] 613 (.c (.bool (true))) [] [],
      Contract Tryd.prog 31 [(.aggi .u8 k), (.aggi .u8 nn), (.c (.sl 1 0 oa na 1)), (.c (.sl 261 0 0 nr 1))] [(0, (.many (fun j_ => some ⟨false, false, (.ints (W.gk j_) (G j_))⟩))), (1, (.one ⟨false, false, (.ints .u8 la)⟩)), (261, (.one ⟨true, false, (.ints .u8 (List.take nr (List.drop o_ lr)))⟩))] 517 (.tup [(.c .nils), (.c (.int .i64 1))]) [] [],
      ((.aggi .u8 (List.take 12 nn)) : V) = (.aggi .u8 nn),
      ((12 : Nat) ≤ List.length nn),
      ((.aggi .u8 (List.take 32 k)) : V) = (.aggi .u8 k),
      ((32 : Nat) ≤ List.length k),
      Contract Tryd.prog 30 [(.aggi .u8 k), (.aggi .u8 nn), (.c (.sl 1 0 oa na 1)), (.c (.sl 261 0 0 nr 1))] [(1, (.one ⟨false, false, (.ints .u8 la)⟩)), (261, (.one ⟨true, false, (.ints .u8 (List.take nr (List.drop o_ lr)))⟩))] 357 (.tup [(.c .nils), (.c (.int .i64 7))]) [] [],
      ((.aggi .u8 (List.take 12 nn)) : V) = (.aggi .u8 nn),
      ((12 : Nat) ≤ List.length nn),
      ((.aggi .u8 (List.take 32 k)) : V) = (.aggi .u8 k),
      ((32 : Nat) ≤ List.length k),
      Contract Tryd.prog 23 [(.c (.sl 3 0 o_ nr 1)), (.c (.int .i64 (↑nr)))] [(3, (.one ⟨false, false, (.ints .u8 lr)⟩))] 261 (.c (.sl 261 0 0 nr 1)) [] [(261, (.one ⟨true, false, (.ints .u8 (List.take nr (List.drop o_ lr)))⟩))],
      EB ((↑(W.pick how 7) : Int) == 0) true,
      Contract Tryd.prog 29 [(.c (.int .i64 how)), (.c (.int .i64 7))] [] 165 (.c (.int .i64 (↑(W.pick how 7)))) [] [],
      Contract Tryd.prog 26 [(.aggi .u8 k), (.aggi .u8 nn), (.c (.sl 1 0 oa na 1)), (.c (.sl 2 0 ot nt 1))] [(0, (.many (fun j_ => some ⟨false, false, (.ints (W.gk j_) (G j_))⟩))), (1, (.one ⟨false, false, (.ints .u8 la)⟩)), (2, (.one ⟨false, false, (.ints .u8 lt)⟩))] 117 (.c (.sl 117 0 0 (nt + 16) 1)) [] [(117, (.one ⟨true, false, (.ints .u8 (W.box k nn (List.take na (List.drop oa la)) (List.take nt (List.drop ot lt))))⟩))],
      ((.aggi .u8 (List.take 12 nn)) : V) = (.aggi .u8 nn),
      ((12 : Nat) ≤ List.length nn),
      ((.aggi .u8 (List.take 32 k)) : V) = (.aggi .u8 k),
      ((32 : Nat) ≤ List.length k)])
    mixed Tryd.func5 (by kernel_rfl) (by kernel_rfl) (by kernel_rfl) (by kernel_rfl) (by kernel_rfl) ⟨Contract0.inst errno1 [] [none] [] [] (by kernel_rfl) (by kernel_rfl) (by kernel_rfl) (by kernel_rfl) (by kernel_rfl), Contract0.inst known6 [] [] [] [] (by kernel_rfl) (by kernel_rfl) (by kernel_rfl) (by kernel_rfl) (by kernel_rfl), Contract0.instG (ropen_t k nn la (List.take nr (List.drop o_ lr)) oa na 0 nr G (by omega) (by omega) (by omega) (by omega) (by omega) (by omega) (by simp only [lensD]; omega) (by omega) (by omega) (by exact W.bytes_take (W.bytes_drop hbr)) (by omega)) pr_glob [.b 1 1 true [], .b 261 2 true []] [none, none, none, none] [] [] rfl (by kernel_rfl) (by kernel_rfl) (by kernel_rfl) (by kernel_rfl) (by kernel_rfl), EV.aggi (List.take_of_length_le (by omega)), (by omega), EV.aggi (List.take_of_length_le (by omega)), (by omega), Contract0.inst (open_ok_t k nn la (List.take nr (List.drop o_ lr)) oa na 0 nr (by omega) (by omega) (by omega) (by simp only [lensD]; omega) (by omega) (by omega) (by omega) (by exact W.bytes_take (W.bytes_drop hbr)) c1) [.b 1 1 true [], .b 261 2 true []] [none, none, none, none] [] [] (by kernel_rfl) (by kernel_rfl) (by kernel_rfl) (by kernel_rfl) (by kernel_rfl), EV.aggi (List.take_of_length_le (by omega)), (by omega), EV.aggi (List.take_of_length_le (by omega)), (by omega), Contract0.inst (few_ok lr o_ nr (by omega) (by omega)) [.b 3 1 true []] [none, none] [(2, 261)] [] (by kernel_rfl) (by kernel_rfl) (by kernel_rfl) (by kernel_rfl) (by kernel_rfl), .mk (beq_t h0), Contract0.inst (pick_ok how 7 (by omega) (by omega)) [] [none, none] [] [] (by kernel_rfl) (by kernel_rfl) (by kernel_rfl) (by kernel_rfl) (by kernel_rfl), Contract0.instG (rseal_ok k nn la lt oa na ot nt G (by omega) (by omega) (by omega) (by omega) (by omega) (by omega) (by omega) (by omega) (by omega) (by omega)) pr_glob [.b 1 1 true [], .b 2 2 true []] [none, none, none, none] [(4, 117)] [] rfl (by kernel_rfl) (by kernel_rfl) (by kernel_rfl) (by kernel_rfl) (by kernel_rfl), EV.aggi (List.take_of_length_le (by omega)), (by omega), EV.aggi (List.take_of_length_le (by omega)), (by omega), trivial⟩)

theorem aeadOpens_tc1 (k nn la lt lr : List Int) (oa na ot nt o_ nr : Nat) (how at_ by_ : Int) (G : Nat → List Int)
    (hk : k.length = 32)
    (hnn : nn.length = 12)
    (hkb : W.bytes k)
    (hnb : W.bytes nn)
    (hG : G 2 = W.rows)
    (hla : oa + na ≤ la.length)
    (hlt : ot + nt ≤ lt.length)
    (hs : na + nt ≤ 1900000)
    (hba : W.bytes la)
    (hbt : W.bytes lt)
    (hlr : o_ + nr ≤ lr.length)
    (hs2 : na + nr ≤ 1900000)
    (hbr : W.bytes lr)
    (hho : -9223372036854775808 ≤ how ∧ how < 9223372036854775808)
    (hat : -9223372036854775808 ≤ at_ ∧ at_ < 9223372036854775808)
    (hby : 0 ≤ by_ ∧ by_ < 256)
    (hp7 : (W.pick how 7 : Int) < 7)
    (hp1 : (W.pick at_ ((nt + 16 : Nat) : Int) : Int) < ((nt + 16 : Nat) : Int))
    (hp2 : (W.pick at_ ((nt + 16 + 1 : Nat) : Int) : Int) < ((nt + 16 + 1 : Nat) : Int))
    (hp3 : (W.pick at_ 32 : Int) < 32)
    (hp4 : (W.pick at_ 12 : Int) < 12)
    (h0 : ((↑(W.pick how (7 : Int)) : Int) = (0 : Int)))
    (c1 : (¬(↑nr : Int) < (16 : Int)))
    (c2 : (¬List.take (16 : Nat) (List.drop ((0 : Nat) + (nr - (16 : Nat))) (List.take nr (List.drop o_ lr))) = List.take (16 : Nat) (W.boxTag k nn (List.take na (List.drop oa la)) (List.take (nr - (16 : Nat)) (List.drop (0 : Nat) (List.take nr (List.drop o_ lr))))))) :
    Contract0 Tryd.prog 5 [(.aggi .u8 k), (.aggi .u8 nn), (.c (.sl 1 0 oa na 1)), (.c (.sl 2 0 ot nt 1)), (.c (.int .i64 how)), (.c (.int .i64 at_)), (.c (.int .u8 by_)), (.c (.sl 3 0 o_ nr 1))] [(0, (.many (fun j_ => some ⟨false, false, (.ints (W.gk j_) (G j_))⟩))), (1, (.one ⟨false, false, (.ints .u8 la)⟩)), (2, (.one ⟨false, false, (.ints .u8 lt)⟩)), (3, (.one ⟨false, false, (.ints .u8 lr)⟩))] 5 (.c (.bool (true))) [] [] :=
  Contract0.unkill pr_glob (Contract0.of_frun (res := (.c (.bool (true)))) (up := []) (kill := [0]) (n0 := 5) (m := [(0, (.many (fun j_ => some ⟨false, false, (.ints (W.gk j_) (G j_))⟩))), (1, (.one ⟨false, false, (.ints .u8 la)⟩)), (2, (.one ⟨false, false, (.ints .u8 lt)⟩)), (3, (.one ⟨false, false, (.ints .u8 lr)⟩))]) (args := [(.aggi .u8 k), (.aggi .u8 nn), (.c (.sl 1 0 oa na 1)), (.c (.sl 2 0 ot nt 1)), (.c (.int .i64 how)), (.c (.int .i64 at_)), (.c (.int .u8 by_)), (.c (.sl 3 0 o_ nr 1))]) (fn := Tryd.f5) (c := bodyOf Tryd.f5) (fuel := 300) (k := kOf Tryd.prog Tryd.f5) (outs := []) (hs := [(3, ⟨.ask, some (.aggi .u8 k)⟩), (4, ⟨.ask, some (.aggi .u8 nn)⟩), (7, ⟨.call [0, 1, 2] (.c (.sl 117 0 0 (nt + 16) 1)) [] [(117, (.one ⟨true, false, (.ints .u8 (W.box k nn (List.take na (List.drop oa la)) (List.take nt (List.drop ot lt))))⟩))], none⟩), (10, ⟨.call [] (.c (.int .i64 (↑(W.pick how 7)))) [] [], none⟩), (12, ⟨.auto, some (.c (.bool (true)))⟩), (17, ⟨.call [3] (.c (.sl 261 0 0 nr 1)) [] [(261, (.one ⟨true, false, (.ints .u8 (List.take nr (List.drop o_ lr)))⟩))], none⟩), (19, ⟨.ask, some (.aggi .u8 k)⟩), (20, ⟨.ask, some (.aggi .u8 nn)⟩), (23, ⟨.call [1, 261] (.tup [(.c .nils), (.c (.int .i64 8))]) [] [], none⟩), (29, ⟨.ask, some (.aggi .u8 k)⟩), (30, ⟨.ask, some (.aggi .u8 nn)⟩), (33, ⟨.call [0, 1, 261] (.tup [(.c .nils), (.c (.int .i64 2))]) [] [], none⟩), (39, ⟨.call [] (.c (.bool (true))) [] [], none⟩), (50, ⟨.call [] (.c (.int .i64 8)) [] [], none⟩)])
    (cs := [Contract Tryd.prog 32 [(.c (.int .i64 2))] [] 789 (.c (.int .i64 8)) [] [],
      Contract Tryd.prog 24 [] [] 613 (.c (.bool (true))) [] [],
      Contract Tryd.prog 31 [(.aggi .u8 k), (.aggi .u8 nn), (.c (.sl 1 0 oa na 1)), (.c (.sl 261 0 0 nr 1))] [(0, (.many (fun j_ => some ⟨false, false, (.ints (W.gk j_) (G j_))⟩))), (1, (.one ⟨false, false, (.ints .u8 la)⟩)), (261, (.one ⟨true, false, (.ints .u8 (List.take nr (List.drop o_ lr)))⟩))] 517 (.tup [(.c .nils), (.c (.int .i64 2))]) [] [],
      ((.aggi .u8 (List.take 12 nn)) : V) = (.aggi .u8 nn),
      ((12 : Nat) ≤ List.length nn),
      ((.aggi .u8 (List.take 32 k)) : V) = (.aggi .u8 k),
      ((32 : Nat) ≤ List.length k),
      Contract Tryd.prog 30 [(.aggi .u8 k), (.aggi .u8 nn), (.c (.sl 1 0 oa na 1)), (.c (.sl 261 0 0 nr 1))] [(1, (.one ⟨false, false, (.ints .u8 la)⟩)), (261, (.one ⟨true, false, (.ints .u8 (List.take nr (List.drop o_ lr)))⟩))] 357 (.tup [(.c .nils), (.c (.int .i64 8))]) [] [],
      ((.aggi .u8 (List.take 12 nn)) : V) = (.aggi .u8 nn),
      ((12 : Nat) ≤ List.length nn),
      ((.aggi .u8 (List.take 32 k)) : V) = (.aggi .u8 k),
      ((32 : Nat) ≤ List.length k),
      Contract Tryd.prog 23 [(.c (.sl 3 0 o_ nr 1)), (.c (.int .i64 (↑nr)))] [(3, (.one ⟨false, false, (.ints .u8 lr)⟩))] 261 (.c (.sl 261 0 0 nr 1)) [] [(261, (.one ⟨true, false, (.ints .u8 (List.take nr (List.drop o_ lr)))⟩))],
      EB ((↑(W.pick how 7) : Int) == 0) true,
      Contract Tryd.prog 29 [(.c (.int .i64 how)), (.c (.int .i64 7))] [] 165 (.c (.int .i64 (↑(W.pick how 7)))) [] [],
      Contract Tryd.prog 26 [(.aggi .u8 k), (.aggi .u8 nn), (.c (.sl 1 0 oa na 1)), (.c (.sl 2 0 ot nt 1))] [(0, (.many (fun j_ => some ⟨false, false, (.ints (W.gk j_) (G j_))⟩))), (1, (.one ⟨false, false, (.ints .u8 la)⟩)), (2, (.one ⟨false, false, (.ints .u8 lt)⟩))] 117 (.c (.sl 117 0 0 (nt + 16) 1)) [] [(117, (.one ⟨true, false, (.ints .u8 (W.box k nn (List.take na (List.drop oa la)) (List.take nt (List.drop ot lt))))⟩))],
      ((.aggi .u8 (List.take 12 nn)) : V) = (.aggi .u8 nn),
      ((12 : Nat) ≤ List.length nn),
      ((.aggi .u8 (List.take 32 k)) : V) = (.aggi .u8 k),
      ((32 : Nat) ≤ List.length k)])
    mixed Tryd.func5 (by kernel_rfl) (by kernel_rfl) (by kernel_rfl) (by kernel_rfl) (by kernel_rfl) ⟨Contract0.inst errno2 [] [none] [] [] (by kernel_rfl) (by kernel_rfl) (by kernel_rfl) (by kernel_rfl) (by kernel_rfl), Contract0.inst known6 [] [] [] [] (by kernel_rfl) (by kernel_rfl) (by kernel_rfl) (by kernel_rfl) (by kernel_rfl), Contract0.instG (ropen_w k nn la (List.take nr (List.drop o_ lr)) oa na 0 nr G (by omega) (by omega) (by omega) (by omega) (by omega) (by omega) (by simp only [lensD]; omega) (by omega) (by omega) (by exact W.bytes_take (W.bytes_drop hbr)) (by omega) (by omega)) pr_glob [.b 1 1 true [], .b 261 2 true []] [none, none, none, none] [] [] rfl (by kernel_rfl) (by kernel_rfl) (by kernel_rfl) (by kernel_rfl) (by kernel_rfl), EV.aggi (List.take_of_length_le (by omega)), (by omega), EV.aggi (List.take_of_length_le (by omega)), (by omega), Contract0.inst (open_ok_ff k nn la (List.take nr (List.drop o_ lr)) oa na 0 nr (by omega) (by omega) (by omega) (by simp only [lensD]; omega) (by omega) (by omega) (by omega) (by exact W.bytes_take (W.bytes_drop hbr)) c1 c2) [.b 1 1 true [], .b 261 2 true []] [none, none, none, none] [] [] (by kernel_rfl) (by kernel_rfl) (by kernel_rfl) (by kernel_rfl) (by kernel_rfl), EV.aggi (List.take_of_length_le (by omega)), (by omega), EV.aggi (List.take_of_length_le (by omega)), (by omega), Contract0.inst (few_ok lr o_ nr (by omega) (by omega)) [.b 3 1 true []] [none, none] [(2, 261)] [] (by kernel_rfl) (by kernel_rfl) (by kernel_rfl) (by kernel_rfl) (by kernel_rfl), .mk (beq_t h0), Contract0.inst (pick_ok how 7 (by omega) (by omega)) [] [none, none] [] [] (by kernel_rfl) (by kernel_rfl) (by kernel_rfl) (by kernel_rfl) (by kernel_rfl), Contract0.instG (rseal_ok k nn la lt oa na ot nt G (by omega) (by omega) (by omega) (by omega) (by omega) (by omega) (by omega) (by omega) (by omega) (by omega)) pr_glob [.b 1 1 true [], .b 2 2 true []] [none, none, none, none] [(4, 117)] [] rfl (by kernel_rfl) (by kernel_rfl) (by kernel_rfl) (by kernel_rfl) (by kernel_rfl), EV.aggi (List.take_of_length_le (by omega)), (by omega), EV.aggi (List.take_of_length_le (by omega)), (by omega), trivial⟩)

theorem aeadOpens_tc2 (k nn la lt lr : List Int) (oa na ot nt o_ nr : Nat) (how at_ by_ : Int) (G : Nat → List Int)
    (hk : k.length = 32)
    (hnn : nn.length = 12)
    (hkb : W.bytes k)
    (hnb : W.bytes nn)
    (hG : G 2 = W.rows)
    (hla : oa + na ≤ la.length)
    (hlt : ot + nt ≤ lt.length)
    (hs : na + nt ≤ 1900000)
    (hba : W.bytes la)
    (hbt : W.bytes lt)
    (hlr : o_ + nr ≤ lr.length)
    (hs2 : na + nr ≤ 1900000)
    (hbr : W.bytes lr)
    (hho : -9223372036854775808 ≤ how ∧ how < 9223372036854775808)
    (hat : -9223372036854775808 ≤ at_ ∧ at_ < 9223372036854775808)
    (hby : 0 ≤ by_ ∧ by_ < 256)
    (hp7 : (W.pick how 7 : Int) < 7)
    (hp1 : (W.pick at_ ((nt + 16 : Nat) : Int) : Int) < ((nt + 16 : Nat) : Int))
    (hp2 : (W.pick at_ ((nt + 16 + 1 : Nat) : Int) : Int) < ((nt + 16 + 1 : Nat) : Int))
    (hp3 : (W.pick at_ 32 : Int) < 32)
    (hp4 : (W.pick at_ 12 : Int) < 12)
    (h0 : ((↑(W.pick how (7 : Int)) : Int) = (0 : Int)))
    (c1 : (¬(↑nr : Int) < (16 : Int)))
    (c2 : (List.take (16 : Nat) (List.drop ((0 : Nat) + (nr - (16 : Nat))) (List.take nr (List.drop o_ lr))) = List.take (16 : Nat) (W.boxTag k nn (List.take na (List.drop oa la)) (List.take (nr - (16 : Nat)) (List.drop (0 : Nat) (List.take nr (List.drop o_ lr))))))) :
    Contract0 Tryd.prog 5 [(.aggi .u8 k), (.aggi .u8 nn), (.c (.sl 1 0 oa na 1)), (.c (.sl 2 0 ot nt 1)), (.c (.int .i64 how)), (.c (.int .i64 at_)), (.c (.int .u8 by_)), (.c (.sl 3 0 o_ nr 1))] [(0, (.many (fun j_ => some ⟨false, false, (.ints (W.gk j_) (G j_))⟩))), (1, (.one ⟨false, false, (.ints .u8 la)⟩)), (2, (.one ⟨false, false, (.ints .u8 lt)⟩)), (3, (.one ⟨false, false, (.ints .u8 lr)⟩))] 5 (.c (.bool (true))) [] [] :=
  Contract0.unkill pr_glob (Contract0.of_frun (res := (.c (.bool (true)))) (up := []) (kill := [0]) (n0 := 5) (m := [(0, (.many (fun j_ => some ⟨false, false, (.ints (W.gk j_) (G j_))⟩))), (1, (.one ⟨false, false, (.ints .u8 la)⟩)), (2, (.one ⟨false, false, (.ints .u8 lt)⟩)), (3, (.one ⟨false, false, (.ints .u8 lr)⟩))]) (args := [(.aggi .u8 k), (.aggi .u8 nn), (.c (.sl 1 0 oa na 1)), (.c (.sl 2 0 ot nt 1)), (.c (.int .i64 how)), (.c (.int .i64 at_)), (.c (.int .u8 by_)), (.c (.sl 3 0 o_ nr 1))]) (fn := Tryd.f5) (c := bodyOf Tryd.f5) (fuel := 300) (k := kOf Tryd.prog Tryd.f5) (outs := []) (hs := [(3, ⟨.ask, some (.aggi .u8 k)⟩), (4, ⟨.ask, some (.aggi .u8 nn)⟩), (7, ⟨.call [0, 1, 2] (.c (.sl 117 0 0 (nt + 16) 1)) [] [(117, (.one ⟨true, false, (.ints .u8 (W.box k nn (List.take na (List.drop oa la)) (List.take nt (List.drop ot lt))))⟩))], none⟩), (10, ⟨.call [] (.c (.int .i64 (↑(W.pick how 7)))) [] [], none⟩), (12, ⟨.auto, some (.c (.bool (true)))⟩), (17, ⟨.call [3] (.c (.sl 261 0 0 nr 1)) [] [(261, (.one ⟨true, false, (.ints .u8 (List.take nr (List.drop o_ lr)))⟩))], none⟩), (19, ⟨.ask, some (.aggi .u8 k)⟩), (20, ⟨.ask, some (.aggi .u8 nn)⟩), (23, ⟨.call [1, 261] (.tup [(.c (.sl 357 0 0 (nr - 16) 1)), (.c (.int .i64 0))]) [] [(357, (.one ⟨true, false, (.ints .u8 (W.apply k 1 nn (List.take (nr - 16) (List.take nr (List.drop o_ lr)))))⟩))], none⟩), (29, ⟨.ask, some (.aggi .u8 k)⟩), (30, ⟨.ask, some (.aggi .u8 nn)⟩), (33, ⟨.call [0, 1, 261] (.tup [(.c (.sl 517 0 0 (nr - 16) 1)), (.c (.int .i64 0))]) [] [(517, (.one ⟨true, false, (.ints .u8 (W.apply k 1 nn (List.take (nr - 16) (List.take nr (List.drop o_ lr)))))⟩))], none⟩), (39, ⟨.call [] (.c (.bool (true))) [] [], none⟩), (42, ⟨.ask, none⟩), (44, ⟨.ask, none⟩), (45, ⟨.ask, some (.c (.bool (true)))⟩), (50, ⟨.call [] (.c (.int .i64 0)) [] [], none⟩)])
    (cs := [Contract Tryd.prog 32 [(.c (.int .i64 0))] [] 789 (.c (.int .i64 0)) [] [],
      EB (ByteArray.toList { data := List.toArray (List.map (fun n => UInt8.ofNat (Int.toNat n)) (List.take (nr - 16) (List.drop 0 (W.apply k 1 nn (List.take (nr - 16) (List.take nr (List.drop o_ lr))))))) } == ByteArray.toList { data := List.toArray (List.map (fun n => UInt8.ofNat (Int.toNat n)) (List.take (nr - 16) (List.drop 0 (W.apply k 1 nn (List.take (nr - 16) (List.take nr (List.drop o_ lr))))))) }) true,
      ((0 : Nat) + (nr - (16 : Nat)) ≤ List.length (W.apply k (1 : Int) nn (List.take (nr - (16 : Nat)) (List.take nr (List.drop o_ lr))))),
      ((0 : Nat) + (nr - (16 : Nat)) ≤ List.length (W.apply k (1 : Int) nn (List.take (nr - (16 : Nat)) (List.take nr (List.drop o_ lr))))),
      Contract Tryd.prog 24 [] [] 613 (.c (.bool (true))) [] [],
      Contract Tryd.prog 31 [(.aggi .u8 k), (.aggi .u8 nn), (.c (.sl 1 0 oa na 1)), (.c (.sl 261 0 0 nr 1))] [(0, (.many (fun j_ => some ⟨false, false, (.ints (W.gk j_) (G j_))⟩))), (1, (.one ⟨false, false, (.ints .u8 la)⟩)), (261, (.one ⟨true, false, (.ints .u8 (List.take nr (List.drop o_ lr)))⟩))] 517 (.tup [(.c (.sl 517 0 0 (nr - 16) 1)), (.c (.int .i64 0))]) [] [(517, (.one ⟨true, false, (.ints .u8 (W.apply k 1 nn (List.take (nr - 16) (List.take nr (List.drop o_ lr)))))⟩))],
      ((.aggi .u8 (List.take 12 nn)) : V) = (.aggi .u8 nn),
      ((12 : Nat) ≤ List.length nn),
      ((.aggi .u8 (List.take 32 k)) : V) = (.aggi .u8 k),
      ((32 : Nat) ≤ List.length k),
      Contract Tryd.prog 30 [(.aggi .u8 k), (.aggi .u8 nn), (.c (.sl 1 0 oa na 1)), (.c (.sl 261 0 0 nr 1))] [(1, (.one ⟨false, false, (.ints .u8 la)⟩)), (261, (.one ⟨true, false, (.ints .u8 (List.take nr (List.drop o_ lr)))⟩))] 357 (.tup [(.c (.sl 357 0 0 (nr - 16) 1)), (.c (.int .i64 0))]) [] [(357, (.one ⟨true, false, (.ints .u8 (W.apply k 1 nn (List.take (nr - 16) (List.take nr (List.drop o_ lr)))))⟩))],
      ((.aggi .u8 (List.take 12 nn)) : V) = (.aggi .u8 nn),
      ((12 : Nat) ≤ List.length nn),
      ((.aggi .u8 (List.take 32 k)) : V) = (.aggi .u8 k),
      ((32 : Nat) ≤ List.length k),
      Contract Tryd.prog 23 [(.c (.sl 3 0 o_ nr 1)), (.c (.int .i64 (↑nr)))] [(3, (.one ⟨false, false, (.ints .u8 lr)⟩))] 261 (.c (.sl 261 0 0 nr 1)) [] [(261, (.one ⟨true, false, (.ints .u8 (List.take nr (List.drop o_ lr)))⟩))],
      EB ((↑(W.pick how 7) : Int) == 0) true,
      Contract Tryd.prog 29 [(.c (.int .i64 how)), (.c (.int .i64 7))] [] 165 (.c (.int .i64 (↑(W.pick how 7)))) [] [],
      Contract Tryd.prog 26 [(.aggi .u8 k), (.aggi .u8 nn), (.c (.sl 1 0 oa na 1)), (.c (.sl 2 0 ot nt 1))] [(0, (.many (fun j_ => some ⟨false, false, (.ints (W.gk j_) (G j_))⟩))), (1, (.one ⟨false, false, (.ints .u8 la)⟩)), (2, (.one ⟨false, false, (.ints .u8 lt)⟩))] 117 (.c (.sl 117 0 0 (nt + 16) 1)) [] [(117, (.one ⟨true, false, (.ints .u8 (W.box k nn (List.take na (List.drop oa la)) (List.take nt (List.drop ot lt))))⟩))],
      ((.aggi .u8 (List.take 12 nn)) : V) = (.aggi .u8 nn),
      ((12 : Nat) ≤ List.length nn),
      ((.aggi .u8 (List.take 32 k)) : V) = (.aggi .u8 k),
      ((32 : Nat) ≤ List.length k)])
    mixed Tryd.func5 (by kernel_rfl) (by kernel_rfl) (by kernel_rfl) (by kernel_rfl) (by kernel_rfl) ⟨Contract0.inst errno0 [] [none] [] [] (by kernel_rfl) (by kernel_rfl) (by kernel_rfl) (by kernel_rfl) (by kernel_rfl), .mk (strEq_t (by simp only [List.take_take, Nat.min_self, List.drop_zero])), (by simp only [lensD]; omega), (by simp only [lensD]; omega), Contract0.inst known6 [] [] [] [] (by kernel_rfl) (by kernel_rfl) (by kernel_rfl) (by kernel_rfl) (by kernel_rfl), Contract0.instG (ropen_o k nn la (List.take nr (List.drop o_ lr)) oa na 0 nr G (by omega) (by omega) (by omega) (by omega) (by omega) (by omega) (by simp only [lensD]; omega) (by omega) (by omega) (by exact W.bytes_take (W.bytes_drop hbr)) (by omega) (by omega)) pr_glob [.b 1 1 true [], .b 261 2 true []] [none, none, none, none] [(4, 517)] [] rfl (by kernel_rfl) (by kernel_rfl) (by kernel_rfl) (by kernel_rfl) (by kernel_rfl), EV.aggi (List.take_of_length_le (by omega)), (by omega), EV.aggi (List.take_of_length_le (by omega)), (by omega), Contract0.inst (open_ok_ft k nn la (List.take nr (List.drop o_ lr)) oa na 0 nr (by omega) (by omega) (by omega) (by simp only [lensD]; omega) (by omega) (by omega) (by omega) (by exact W.bytes_take (W.bytes_drop hbr)) c1 c2) [.b 1 1 true [], .b 261 2 true []] [none, none, none, none] [(3, 357)] [] (by kernel_rfl) (by kernel_rfl) (by kernel_rfl) (by kernel_rfl) (by kernel_rfl), EV.aggi (List.take_of_length_le (by omega)), (by omega), EV.aggi (List.take_of_length_le (by omega)), (by omega), Contract0.inst (few_ok lr o_ nr (by omega) (by omega)) [.b 3 1 true []] [none, none] [(2, 261)] [] (by kernel_rfl) (by kernel_rfl) (by kernel_rfl) (by kernel_rfl) (by kernel_rfl), .mk (beq_t h0), Contract0.inst (pick_ok how 7 (by omega) (by omega)) [] [none, none] [] [] (by kernel_rfl) (by kernel_rfl) (by kernel_rfl) (by kernel_rfl) (by kernel_rfl), Contract0.instG (rseal_ok k nn la lt oa na ot nt G (by omega) (by omega) (by omega) (by omega) (by omega) (by omega) (by omega) (by omega) (by omega) (by omega)) pr_glob [.b 1 1 true [], .b 2 2 true []] [none, none, none, none] [(4, 117)] [] rfl (by kernel_rfl) (by kernel_rfl) (by kernel_rfl) (by kernel_rfl) (by kernel_rfl), EV.aggi (List.take_of_length_le (by omega)), (by omega), EV.aggi (List.take_of_length_le (by omega)), (by omega), trivial⟩)

theorem aeadOpens_ftc0 (k nn la lt lr : List Int) (oa na ot nt o_ nr : Nat) (how at_ by_ : Int) (G : Nat → List Int)
    (hk : k.length = 32)
    (hnn : nn.length = 12)
    (hkb : W.bytes k)
    (hnb : W.bytes nn)
    (hG : G 2 = W.rows)
    (hla : oa + na ≤ la.length)
    (hlt : ot + nt ≤ lt.length)
    (hs : na + nt ≤ 1900000)
    (hba : W.bytes la)
    (hbt : W.bytes lt)
    (hlr : o_ + nr ≤ lr.length)
    (hs2 : na + nr ≤ 1900000)
    (hbr : W.bytes lr)
    (hho : -9223372036854775808 ≤ how ∧ how < 9223372036854775808)
    (hat : -9223372036854775808 ≤ at_ ∧ at_ < 9223372036854775808)
    (hby : 0 ≤ by_ ∧ by_ < 256)
    (hp7 : (W.pick how 7 : Int) < 7)
    (hp1 : (W.pick at_ ((nt + 16 : Nat) : Int) : Int) < ((nt + 16 : Nat) : Int))
    (hp2 : (W.pick at_ ((nt + 16 + 1 : Nat) : Int) : Int) < ((nt + 16 + 1 : Nat) : Int))
    (hp3 : (W.pick at_ 32 : Int) < 32)
    (hp4 : (W.pick at_ 12 : Int) < 12)
    (h0 : (¬(↑(W.pick how (7 : Int)) : Int) = (0 : Int)))
    (h1 : ((↑(W.pick how (7 : Int)) : Int) = (1 : Int)))
    (c2 : (¬List.take (16 : Nat) (List.drop ((0 : Nat) + (nt + (16 : Nat) - (16 : Nat))) (splice (W.box k nn (List.take na (List.drop oa la)) (List.take nt (List.drop ot lt))) (W.pick at_ (↑(nt + (16 : Nat)) : Int)) [bXor IntKind.u8 (List.getD (W.box k nn (List.take na (List.drop oa la)) (List.take nt (List.drop ot lt))) (W.pick at_ (↑(nt + (16 : Nat)) : Int)) (0 : Int)) by_])) = List.take (16 : Nat) (W.boxTag k nn (List.take na (List.drop oa la)) (List.take (nt + (16 : Nat) - (16 : Nat)) (List.drop (0 : Nat) (splice (W.box k nn (List.take na (List.drop oa la)) (List.take nt (List.drop ot lt))) (W.pick at_ (↑(nt + (16 : Nat)) : Int)) [bXor IntKind.u8 (List.getD (W.box k nn (List.take na (List.drop oa la)) (List.take nt (List.drop ot lt))) (W.pick at_ (↑(nt + (16 : Nat)) : Int)) (0 : Int)) by_])))))) :
    Contract0 Tryd.prog 5 [(.aggi .u8 k), (.aggi .u8 nn), (.c (.sl 1 0 oa na 1)), (.c (.sl 2 0 ot nt 1)), (.c (.int .i64 how)), (.c (.int .i64 at_)), (.c (.int .u8 by_)), (.c (.sl 3 0 o_ nr 1))] [(0, (.many (fun j_ => some ⟨false, false, (.ints (W.gk j_) (G j_))⟩))), (1, (.one ⟨false, false, (.ints .u8 la)⟩)), (2, (.one ⟨false, false, (.ints .u8 lt)⟩)), (3, (.one ⟨false, false, (.ints .u8 lr)⟩))] 5 (.c (.bool (true))) [] [] :=
  Contract0.unkill pr_glob (Contract0.of_frun (res := (.c (.bool (true)))) (up := []) (kill := [0]) (n0 := 5) (m := [(0, (.many (fun j_ => some ⟨false, false, (.ints (W.gk j_) (G j_))⟩))), (1, (.one ⟨false, false, (.ints .u8 la)⟩)), (2, (.one ⟨false, false, (.ints .u8 lt)⟩)), (3, (.one ⟨false, false, (.ints .u8 lr)⟩))]) (args := [(.aggi .u8 k), (.aggi .u8 nn), (.c (.sl 1 0 oa na 1)), (.c (.sl 2 0 ot nt 1)), (.c (.int .i64 how)), (.c (.int .i64 at_)), (.c (.int .u8 by_)), (.c (.sl 3 0 o_ nr 1))]) (fn := Tryd.f5) (c := bodyOf Tryd.f5) (fuel := 300) (k := kOf Tryd.prog Tryd.f5) (outs := []) (hs := [(3, ⟨.ask, some (.aggi .u8 k)⟩), (4, ⟨.ask, some (.aggi .u8 nn)⟩), (7, ⟨.call [0, 1, 2] (.c (.sl 117 0 0 (nt + 16) 1)) [] [(117, (.one ⟨true, false, (.ints .u8 (W.box k nn (List.take na (List.drop oa la)) (List.take nt (List.drop ot lt))))⟩))], none⟩), (10, ⟨.call [] (.c (.int .i64 (↑(W.pick how 7)))) [] [], none⟩), (12, ⟨.auto, some (.c (.bool (false)))⟩), (15, ⟨.auto, some (.c (.bool (true)))⟩), (21, ⟨.call [] (.c (.int .i64 (↑(W.pick at_ ↑(nt + 16))))) [] [], none⟩), (22, ⟨.ask, none⟩), (23, ⟨.ask, none⟩), (26, ⟨.ask, none⟩), (27, ⟨.ask, none⟩), (28, ⟨.ask, some (.aggi .u8 k)⟩), (29, ⟨.ask, some (.aggi .u8 nn)⟩), (32, ⟨.call [1, 117] (.tup [(.c .nils), (.c (.int .i64 8))]) [] [], none⟩), (38, ⟨.ask, some (.aggi .u8 k)⟩), (39, ⟨.ask, some (.aggi .u8 nn)⟩), (42, ⟨.call [0, 1, 117] (.tup [(.c .nils), (.c (.int .i64 2))]) [] [], none⟩), (48, ⟨.call [] (.c (.bool (true))) [] [], none⟩), (59, ⟨.call [] (.c (.int .i64 8)) [] [], none⟩)])
    (cs := [Contract Tryd.prog 32 [(.c (.int .i64 2))] [] 917 (.c (.int .i64 8)) [] [],
      Contract Tryd.prog 24 [] [] 741 (.c (.bool (true))) [] [],
      Contract Tryd.prog 31 [(.aggi .u8 k), (.aggi .u8 nn), (.c (.sl 1 0 oa na 1)), (.c (.sl 117 0 0 (nt + 16) 1))] [(0, (.many (fun j_ => some ⟨false, false, (.ints (W.gk j_) (G j_))⟩))), (1, (.one ⟨false, false, (.ints .u8 la)⟩)), (117, (.one ⟨true, false, (.ints .u8 (splice (W.box k nn (List.take na (List.drop oa la)) (List.take nt (List.drop ot lt))) (W.pick at_ (↑(nt + 16) : Int)) [bXor IntKind.u8 (List.getD (W.box k nn (List.take na (List.drop oa la)) (List.take nt (List.drop ot lt))) (W.pick at_ (↑(nt + 16) : Int)) 0) by_]))⟩))] 645 (.tup [(.c .nils), (.c (.int .i64 2))]) [] [],
      ((.aggi .u8 (List.take 12 nn)) : V) = (.aggi .u8 nn),
      ((12 : Nat) ≤ List.length nn),
      ((.aggi .u8 (List.take 32 k)) : V) = (.aggi .u8 k),
      ((32 : Nat) ≤ List.length k),
      Contract Tryd.prog 30 [(.aggi .u8 k), (.aggi .u8 nn), (.c (.sl 1 0 oa na 1)), (.c (.sl 117 0 0 (nt + 16) 1))] [(1, (.one ⟨false, false, (.ints .u8 la)⟩)), (117, (.one ⟨true, false, (.ints .u8 (splice (W.box k nn (List.take na (List.drop oa la)) (List.take nt (List.drop ot lt))) (W.pick at_ (↑(nt + 16) : Int)) [bXor IntKind.u8 (List.getD (W.box k nn (List.take na (List.drop oa la)) (List.take nt (List.drop ot lt))) (W.pick at_ (↑(nt + 16) : Int)) 0) by_]))⟩))] 485 (.tup [(.c .nils), (.c (.int .i64 8))]) [] [],
      ((.aggi .u8 (List.take 12 nn)) : V) = (.aggi .u8 nn),
      ((12 : Nat) ≤ List.length nn),
      ((.aggi .u8 (List.take 32 k)) : V) = (.aggi .u8 k),
      ((32 : Nat) ≤ List.length k),
      (W.pick at_ (↑(nt + (16 : Nat)) : Int) + (1 : Nat) ≤ List.length (W.box k nn (List.take na (List.drop oa la)) (List.take nt (List.drop ot lt))) ∧ (1 : Nat) = (1 : Nat)),
      ((0 : Int) ≤ (↑(W.pick at_ (↑(nt + (16 : Nat)) : Int)) : Int) ∧ (↑(W.pick at_ (↑(nt + (16 : Nat)) : Int)) : Int) < (↑(nt + (16 : Nat)) : Int)),
      (W.pick at_ (↑(nt + (16 : Nat)) : Int) + (1 : Nat) ≤ List.length (W.box k nn (List.take na (List.drop oa la)) (List.take nt (List.drop ot lt)))),
      ((0 : Int) ≤ (↑(W.pick at_ (↑(nt + (16 : Nat)) : Int)) : Int) ∧ (↑(W.pick at_ (↑(nt + (16 : Nat)) : Int)) : Int) < (↑(nt + (16 : Nat)) : Int)),
      Contract Tryd.prog 29 [(.c (.int .i64 at_)), (.c (.int .i64 (↑(nt + 16))))] [] 309 (.c (.int .i64 (↑(W.pick at_ ↑(nt + 16))))) [] [],
      EB ((↑(W.pick how 7) : Int) == 1) true,
      EB ((↑(W.pick how 7) : Int) == 0) false,
      Contract Tryd.prog 29 [(.c (.int .i64 how)), (.c (.int .i64 7))] [] 165 (.c (.int .i64 (↑(W.pick how 7)))) [] [],
      Contract Tryd.prog 26 [(.aggi .u8 k), (.aggi .u8 nn), (.c (.sl 1 0 oa na 1)), (.c (.sl 2 0 ot nt 1))] [(0, (.many (fun j_ => some ⟨false, false, (.ints (W.gk j_) (G j_))⟩))), (1, (.one ⟨false, false, (.ints .u8 la)⟩)), (2, (.one ⟨false, false, (.ints .u8 lt)⟩))] 117 (.c (.sl 117 0 0 (nt + 16) 1)) [] [(117, (.one ⟨true, false, (.ints .u8 (W.box k nn (List.take na (List.drop oa la)) (List.take nt (List.drop ot lt))))⟩))],
      ((.aggi .u8 (List.take 12 nn)) : V) = (.aggi .u8 nn),
      ((12 : Nat) ≤ List.length nn),
      ((.aggi .u8 (List.take 32 k)) : V) = (.aggi .u8 k),
      ((32 : Nat) ≤ List.length k)])
    mixed Tryd.func5 (by kernel_rfl) (by kernel_rfl) (by kernel_rfl) (by kernel_rfl) (by kernel_rfl) ⟨Contract0.inst errno2 [] [none] [] [] (by kernel_rfl) (by kernel_rfl) (by kernel_rfl) (by kernel_rfl) (by kernel_rfl), Contract0.inst known6 [] [] [] [] (by kernel_rfl) (by kernel_rfl) (by kernel_rfl) (by kernel_rfl) (by kernel_rfl), Contract0.instG (ropen_w k nn la (splice (W.box k nn (List.take na (List.drop oa la)) (List.take nt (List.drop ot lt))) (W.pick at_ (↑(nt + 16) : Int)) [bXor IntKind.u8 (List.getD (W.box k nn (List.take na (List.drop oa la)) (List.take nt (List.drop ot lt))) (W.pick at_ (↑(nt + 16) : Int)) 0) by_]) oa na 0 (nt + 16) G (by omega) (by omega) (by omega) (by omega) (by omega) (by omega) (by simp only [lensD]; omega) (by omega) (by omega) (by exact W.bytes_splice W.box_bytes W.bXor_byte) (by omega) (by omega)) pr_glob [.b 1 1 true [], .b 117 2 true []] [none, none, none, none] [] [] rfl (by kernel_rfl) (by kernel_rfl) (by kernel_rfl) (by kernel_rfl) (by kernel_rfl), EV.aggi (List.take_of_length_le (by omega)), (by omega), EV.aggi (List.take_of_length_le (by omega)), (by omega), Contract0.inst (open_ok_ff k nn la (splice (W.box k nn (List.take na (List.drop oa la)) (List.take nt (List.drop ot lt))) (W.pick at_ (↑(nt + 16) : Int)) [bXor IntKind.u8 (List.getD (W.box k nn (List.take na (List.drop oa la)) (List.take nt (List.drop ot lt))) (W.pick at_ (↑(nt + 16) : Int)) 0) by_]) oa na 0 (nt + 16) (by omega) (by omega) (by omega) (by simp only [lensD]; omega) (by omega) (by omega) (by omega) (by exact W.bytes_splice W.box_bytes W.bXor_byte) (by omega) c2) [.b 1 1 true [], .b 117 2 true []] [none, none, none, none] [] [] (by kernel_rfl) (by kernel_rfl) (by kernel_rfl) (by kernel_rfl) (by kernel_rfl), EV.aggi (List.take_of_length_le (by omega)), (by omega), EV.aggi (List.take_of_length_le (by omega)), (by omega), (by simp only [lensD]; omega), (by omega), (by simp only [lensD]; omega), (by omega), Contract0.inst (pick_ok at_ ((↑(nt + 16) : Int)) (by omega) (by omega)) [] [none, none] [] [] (by kernel_rfl) (by kernel_rfl) (by kernel_rfl) (by kernel_rfl) (by kernel_rfl), .mk (beq_t h1), .mk (beq_f h0), Contract0.inst (pick_ok how 7 (by omega) (by omega)) [] [none, none] [] [] (by kernel_rfl) (by kernel_rfl) (by kernel_rfl) (by kernel_rfl) (by kernel_rfl), Contract0.instG (rseal_ok k nn la lt oa na ot nt G (by omega) (by omega) (by omega) (by omega) (by omega) (by omega) (by omega) (by omega) (by omega) (by omega)) pr_glob [.b 1 1 true [], .b 2 2 true []] [none, none, none, none] [(4, 117)] [] rfl (by kernel_rfl) (by kernel_rfl) (by kernel_rfl) (by kernel_rfl) (by kernel_rfl), EV.aggi (List.take_of_length_le (by omega)), (by omega), EV.aggi (List.take_of_length_le (by omega)), (by omega), trivial⟩)

theorem aeadOpens_ftc1 (k nn la lt lr : List Int) (oa na ot nt o_ nr : Nat) (how at_ by_ : Int) (G : Nat → List Int)
    (hk : k.length = 32)
    (hnn : nn.length = 12)
    (hkb : W.bytes k)
    (hnb : W.bytes nn)
    (hG : G 2 = W.rows)
    (hla : oa + na ≤ la.length)
    (hlt : ot + nt ≤ lt.length)
    (hs : na + nt ≤ 1900000)
    (hba : W.bytes la)
    (hbt : W.bytes lt)
    (hlr : o_ + nr ≤ lr.length)
    (hs2 : na + nr ≤ 1900000)
    (hbr : W.bytes lr)
    (hho : -9223372036854775808 ≤ how ∧ how < 9223372036854775808)
    (hat : -9223372036854775808 ≤ at_ ∧ at_ < 9223372036854775808)
    (hby : 0 ≤ by_ ∧ by_ < 256)
    (hp7 : (W.pick how 7 : Int) < 7)
    (hp1 : (W.pick at_ ((nt + 16 : Nat) : Int) : Int) < ((nt + 16 : Nat) : Int))
    (hp2 : (W.pick at_ ((nt + 16 + 1 : Nat) : Int) : Int) < ((nt + 16 + 1 : Nat) : Int))
    (hp3 : (W.pick at_ 32 : Int) < 32)
    (hp4 : (W.pick at_ 12 : Int) < 12)
    (h0 : (¬(↑(W.pick how (7 : Int)) : Int) = (0 : Int)))
    (h1 : ((↑(W.pick how (7 : Int)) : Int) = (1 : Int)))
    (c2 : (List.take (16 : Nat) (List.drop ((0 : Nat) + (nt + (16 : Nat) - (16 : Nat))) (splice (W.box k nn (List.take na (List.drop oa la)) (List.take nt (List.drop ot lt))) (W.pick at_ (↑(nt + (16 : Nat)) : Int)) [bXor IntKind.u8 (List.getD (W.box k nn (List.take na (List.drop oa la)) (List.take nt (List.drop ot lt))) (W.pick at_ (↑(nt + (16 : Nat)) : Int)) (0 : Int)) by_])) = List.take (16 : Nat) (W.boxTag k nn (List.take na (List.drop oa la)) (List.take (nt + (16 : Nat) - (16 : Nat)) (List.drop (0 : Nat) (splice (W.box k nn (List.take na (List.drop oa la)) (List.take nt (List.drop ot lt))) (W.pick at_ (↑(nt + (16 : Nat)) : Int)) [bXor IntKind.u8 (List.getD (W.box k nn (List.take na (List.drop oa la)) (List.take nt (List.drop ot lt))) (W.pick at_ (↑(nt + (16 : Nat)) : Int)) (0 : Int)) by_])))))) :
    Contract0 Tryd.prog 5 [(.aggi .u8 k), (.aggi .u8 nn), (.c (.sl 1 0 oa na 1)), (.c (.sl 2 0 ot nt 1)), (.c (.int .i64 how)), (.c (.int .i64 at_)), (.c (.int .u8 by_)), (.c (.sl 3 0 o_ nr 1))] [(0, (.many (fun j_ => some ⟨false, false, (.ints (W.gk j_) (G j_))⟩))), (1, (.one ⟨false, false, (.ints .u8 la)⟩)), (2, (.one ⟨false, false, (.ints .u8 lt)⟩)), (3, (.one ⟨false, false, (.ints .u8 lr)⟩))] 5 (.c (.bool (true))) [] [] :=
  Contract0.unkill pr_glob (Contract0.of_frun (res := (.c (.bool (true)))) (up := []) (kill := [0]) (n0 := 5) (m := [(0, (.many (fun j_ => some ⟨false, false, (.ints (W.gk j_) (G j_))⟩))), (1, (.one ⟨false, false, (.ints .u8 la)⟩)), (2, (.one ⟨false, false, (.ints .u8 lt)⟩)), (3, (.one ⟨false, false, (.ints .u8 lr)⟩))]) (args := [(.aggi .u8 k), (.aggi .u8 nn), (.c (.sl 1 0 oa na 1)), (.c (.sl 2 0 ot nt 1)), (.c (.int .i64 how)), (.c (.int .i64 at_)), (.c (.int .u8 by_)), (.c (.sl 3 0 o_ nr 1))]) (fn := Tryd.f5) (c := bodyOf Tryd.f5) (fuel := 300) (k := kOf Tryd.prog Tryd.f5) (outs := []) (hs := [(3, ⟨.ask, some (.aggi .u8 k)⟩), (4, ⟨.ask, some (.aggi .u8 nn)⟩), (7, ⟨.call [0, 1, 2] (.c (.sl 117 0 0 (nt + 16) 1)) [] [(117, (.one ⟨true, false, (.ints .u8 (W.box k nn (List.take na (List.drop oa la)) (List.take nt (List.drop ot lt))))⟩))], none⟩), (10, ⟨.call [] (.c (.int .i64 (↑(W.pick how 7)))) [] [], none⟩), (12, ⟨.auto, some (.c (.bool (false)))⟩), (15, ⟨.auto, some (.c (.bool (true)))⟩), (21, ⟨.call [] (.c (.int .i64 (↑(W.pick at_ ↑(nt + 16))))) [] [], none⟩), (22, ⟨.ask, none⟩), (23, ⟨.ask, none⟩), (26, ⟨.ask, none⟩), (27, ⟨.ask, none⟩), (28, ⟨.ask, some (.aggi .u8 k)⟩), (29, ⟨.ask, some (.aggi .u8 nn)⟩), (32, ⟨.call [1, 117] (.tup [(.c (.sl 485 0 0 nt 1)), (.c (.int .i64 0))]) [] [(485, (.one ⟨true, false, (.ints .u8 (W.apply k 1 nn (List.take (nt + 16 - 16) (splice (W.box k nn (List.take na (List.drop oa la)) (List.take nt (List.drop ot lt))) (W.pick at_ (↑(nt + 16) : Int)) [bXor IntKind.u8 (List.getD (W.box k nn (List.take na (List.drop oa la)) (List.take nt (List.drop ot lt))) (W.pick at_ (↑(nt + 16) : Int)) 0) by_]))))⟩))], none⟩), (38, ⟨.ask, some (.aggi .u8 k)⟩), (39, ⟨.ask, some (.aggi .u8 nn)⟩), (42, ⟨.call [0, 1, 117] (.tup [(.c (.sl 645 0 0 nt 1)), (.c (.int .i64 0))]) [] [(645, (.one ⟨true, false, (.ints .u8 (W.apply k 1 nn (List.take (nt + 16 - 16) (splice (W.box k nn (List.take na (List.drop oa la)) (List.take nt (List.drop ot lt))) (W.pick at_ (↑(nt + 16) : Int)) [bXor IntKind.u8 (List.getD (W.box k nn (List.take na (List.drop oa la)) (List.take nt (List.drop ot lt))) (W.pick at_ (↑(nt + 16) : Int)) 0) by_]))))⟩))], none⟩), (48, ⟨.call [] (.c (.bool (true))) [] [], none⟩), (51, ⟨.ask, none⟩), (53, ⟨.ask, none⟩), (54, ⟨.ask, some (.c (.bool (true)))⟩), (59, ⟨.call [] (.c (.int .i64 0)) [] [], none⟩)])
    (cs := [Contract Tryd.prog 32 [(.c (.int .i64 0))] [] 917 (.c (.int .i64 0)) [] [],
      EB (ByteArray.toList { data := List.toArray (List.map (fun n => UInt8.ofNat (Int.toNat n)) (List.take nt (List.drop 0 (W.apply k 1 nn (List.take (nt + 16 - 16) (splice (W.box k nn (List.take na (List.drop oa la)) (List.take nt (List.drop ot lt))) (W.pick at_ (↑(nt + 16) : Int)) [bXor IntKind.u8 (List.getD (W.box k nn (List.take na (List.drop oa la)) (List.take nt (List.drop ot lt))) (W.pick at_ (↑(nt + 16) : Int)) 0) by_])))))) } == ByteArray.toList { data := List.toArray (List.map (fun n => UInt8.ofNat (Int.toNat n)) (List.take nt (List.drop 0 (W.apply k 1 nn (List.take (nt + 16 - 16) (splice (W.box k nn (List.take na (List.drop oa la)) (List.take nt (List.drop ot lt))) (W.pick at_ (↑(nt + 16) : Int)) [bXor IntKind.u8 (List.getD (W.box k nn (List.take na (List.drop oa la)) (List.take nt (List.drop ot lt))) (W.pick at_ (↑(nt + 16) : Int)) 0) by_])))))) }) true,
      ((0 : Nat) + nt ≤ List.length (W.apply k (1 : Int) nn (List.take (nt + (16 : Nat) - (16 : Nat)) (splice (W.box k nn (List.take na (List.drop oa la)) (List.take nt (List.drop ot lt))) (W.pick at_ (↑(nt + (16 : Nat)) : Int)) [bXor IntKind.u8 (List.getD (W.box k nn (List.take na (List.drop oa la)) (List.take nt (List.drop ot lt))) (W.pick at_ (↑(nt + (16 : Nat)) : Int)) (0 : Int)) by_])))),
      ((0 : Nat) + nt ≤ List.length (W.apply k (1 : Int) nn (List.take (nt + (16 : Nat) - (16 : Nat)) (splice (W.box k nn (List.take na (List.drop oa la)) (List.take nt (List.drop ot lt))) (W.pick at_ (↑(nt + (16 : Nat)) : Int)) [bXor IntKind.u8 (List.getD (W.box k nn (List.take na (List.drop oa la)) (List.take nt (List.drop ot lt))) (W.pick at_ (↑(nt + (16 : Nat)) : Int)) (0 : Int)) by_])))),
      Contract Tryd.prog 24 [] [] 741 (.c (.bool (true))) [] [],
      Contract Tryd.prog 31 [(.aggi .u8 k), (.aggi .u8 nn), (.c (.sl 1 0 oa na 1)), (.c (.sl 117 0 0 (nt + 16) 1))] [(0, (.many (fun j_ => some ⟨false, false, (.ints (W.gk j_) (G j_))⟩))), (1, (.one ⟨false, false, (.ints .u8 la)⟩)), (117, (.one ⟨true, false, (.ints .u8 (splice (W.box k nn (List.take na (List.drop oa la)) (List.take nt (List.drop ot lt))) (W.pick at_ (↑(nt + 16) : Int)) [bXor IntKind.u8 (List.getD (W.box k nn (List.take na (List.drop oa la)) (List.take nt (List.drop ot lt))) (W.pick at_ (↑(nt + 16) : Int)) 0) by_]))⟩))] 645 (.tup [(.c (.sl 645 0 0 nt 1)), (.c (.int .i64 0))]) [] [(645, (.one ⟨true, false, (.ints .u8 (W.apply k 1 nn (List.take (nt + 16 - 16) (splice (W.box k nn (List.take na (List.drop oa la)) (List.take nt (List.drop ot lt))) (W.pick at_ (↑(nt + 16) : Int)) [bXor IntKind.u8 (List.getD (W.box k nn (List.take na (List.drop oa la)) (List.take nt (List.drop ot lt))) (W.pick at_ (↑(nt + 16) : Int)) 0) by_]))))⟩))],
      ((.aggi .u8 (List.take 12 nn)) : V) = (.aggi .u8 nn),
      ((12 : Nat) ≤ List.length nn),
      ((.aggi .u8 (List.take 32 k)) : V) = (.aggi .u8 k),
      ((32 : Nat) ≤ List.length k),
      Contract Tryd.prog 30 [(.aggi .u8 k), (.aggi .u8 nn), (.c (.sl 1 0 oa na 1)), (.c (.sl 117 0 0 (nt + 16) 1))] [(1, (.one ⟨false, false, (.ints .u8 la)⟩)), (117, (.one ⟨true, false, (.ints .u8 (splice (W.box k nn (List.take na (List.drop oa la)) (List.take nt (List.drop ot lt))) (W.pick at_ (↑(nt + 16) : Int)) [bXor IntKind.u8 (List.getD (W.box k nn (List.take na (List.drop oa la)) (List.take nt (List.drop ot lt))) (W.pick at_ (↑(nt + 16) : Int)) 0) by_]))⟩))] 485 (.tup [(.c (.sl 485 0 0 nt 1)), (.c (.int .i64 0))]) [] [(485, (.one ⟨true, false, (.ints .u8 (W.apply k 1 nn (List.take (nt + 16 - 16) (splice (W.box k nn (List.take na (List.drop oa la)) (List.take nt (List.drop ot lt))) (W.pick at_ (↑(nt + 16) : Int)) [bXor IntKind.u8 (List.getD (W.box k nn (List.take na (List.drop oa la)) (List.take nt (List.drop ot lt))) (W.pick at_ (↑(nt + 16) : Int)) 0) by_]))))⟩))],
      ((.aggi .u8 (List.take 12 nn)) : V) = (.aggi .u8 nn),
      ((12 : Nat) ≤ List.length nn),
      ((.aggi .u8 (List.take 32 k)) : V) = (.aggi .u8 k),
      ((32 : Nat) ≤ List.length k),
      (W.pick at_ (↑(nt + (16 : Nat)) : Int) + (1 : Nat) ≤ List.length (W.box k nn (List.take na (List.drop oa la)) (List.take nt (List.drop ot lt))) ∧ (1 : Nat) = (1 : Nat)),
      ((0 : Int) ≤ (↑(W.pick at_ (↑(nt + (16 : Nat)) : Int)) : Int) ∧ (↑(W.pick at_ (↑(nt + (16 : Nat)) : Int)) : Int) < (↑(nt + (16 : Nat)) : Int)),
      (W.pick at_ (↑(nt + (16 : Nat)) : Int) + (1 : Nat) ≤ List.length (W.box k nn (List.take na (List.drop oa la)) (List.take nt (List.drop ot lt)))),
      ((0 : Int) ≤ (↑(W.pick at_ (↑(nt + (16 : Nat)) : Int)) : Int) ∧ (↑(W.pick at_ (↑(nt + (16 : Nat)) : Int)) : Int) < (↑(nt + (16 : Nat)) : Int)),
      Contract Tryd.prog 29 [(.c (.int .i64 at_)), (.c (.int .i64 (↑(nt + 16))))] [] 309 (.c (.int .i64 (↑(W.pick at_ ↑(nt + 16))))) [] [],
      EB ((↑(W.pick how 7) : Int) == 1) true,
      EB ((↑(W.pick how 7) : Int) == 0) false,
      Contract Tryd.prog 29 [(.c (.int .i64 how)), (.c (.int .i64 7))] [] 165 (.c (.int .i64 (↑(W.pick how 7)))) [] [],
      Contract Tryd.prog 26 [(.aggi .u8 k), (.aggi .u8 nn), (.c (.sl 1 0 oa na 1)), (.c (.sl 2 0 ot nt 1))] [(0, (.many (fun j_ => some ⟨false, false, (.ints (W.gk j_) (G j_))⟩))), (1, (.one ⟨false, false, (.ints .u8 la)⟩)), (2, (.one ⟨false, false, (.ints .u8 lt)⟩))] 117 (.c (.sl 117 0 0 (nt + 16) 1)) [] [(117, (.one ⟨true, false, (.ints .u8 (W.box k nn (List.take na (List.drop oa la)) (List.take nt (List.drop ot lt))))⟩))],
      ((.aggi .u8 (List.take 12 nn)) : V) = (.aggi .u8 nn),
      ((12 : Nat) ≤ List.length nn),
      ((.aggi .u8 (List.take 32 k)) : V) = (.aggi .u8 k),
      ((32 : Nat) ≤ List.length k)])
    mixed Tryd.func5 (by kernel_rfl) (by kernel_rfl) (by kernel_rfl) (by kernel_rfl) (by kernel_rfl) ⟨Contract0.inst errno0 [] [none] [] [] (by kernel_rfl) (by kernel_rfl) (by kernel_rfl) (by kernel_rfl) (by kernel_rfl), .mk (strEq_t (by simp only [List.take_take, Nat.min_self, List.drop_zero])), (by simp only [lensD]; omega), (by simp only [lensD]; omega), Contract0.inst known6 [] [] [] [] (by kernel_rfl) (by kernel_rfl) (by kernel_rfl) (by kernel_rfl) (by kernel_rfl), Contract0.instG (ropen_o k nn la (splice (W.box k nn (List.take na (List.drop oa la)) (List.take nt (List.drop ot lt))) (W.pick at_ (↑(nt + 16) : Int)) [bXor IntKind.u8 (List.getD (W.box k nn (List.take na (List.drop oa la)) (List.take nt (List.drop ot lt))) (W.pick at_ (↑(nt + 16) : Int)) 0) by_]) oa na 0 (nt + 16) G (by omega) (by omega) (by omega) (by omega) (by omega) (by omega) (by simp only [lensD]; omega) (by omega) (by omega) (by exact W.bytes_splice W.box_bytes W.bXor_byte) (by omega) (by omega)) pr_glob [.b 1 1 true [], .b 117 2 true []] [none, none, none, none] [(4, 645)] [] rfl (by kernel_rfl) (by kernel_rfl) (by kernel_rfl) (by kernel_rfl) (by kernel_rfl), EV.aggi (List.take_of_length_le (by omega)), (by omega), EV.aggi (List.take_of_length_le (by omega)), (by omega), Contract0.inst (open_ok_ft k nn la (splice (W.box k nn (List.take na (List.drop oa la)) (List.take nt (List.drop ot lt))) (W.pick at_ (↑(nt + 16) : Int)) [bXor IntKind.u8 (List.getD (W.box k nn (List.take na (List.drop oa la)) (List.take nt (List.drop ot lt))) (W.pick at_ (↑(nt + 16) : Int)) 0) by_]) oa na 0 (nt + 16) (by omega) (by omega) (by omega) (by simp only [lensD]; omega) (by omega) (by omega) (by omega) (by exact W.bytes_splice W.box_bytes W.bXor_byte) (by omega) c2) [.b 1 1 true [], .b 117 2 true []] [none, none, none, none] [(3, 485)] [] (by kernel_rfl) (by kernel_rfl) (by kernel_rfl) (by kernel_rfl) (by kernel_rfl), EV.aggi (List.take_of_length_le (by omega)), (by omega), EV.aggi (List.take_of_length_le (by omega)), (by omega), (by simp only [lensD]; omega), (by omega), (by simp only [lensD]; omega), (by omega), Contract0.inst (pick_ok at_ ((↑(nt + 16) : Int)) (by omega) (by omega)) [] [none, none] [] [] (by kernel_rfl) (by kernel_rfl) (by kernel_rfl) (by kernel_rfl) (by kernel_rfl), .mk (beq_t h1), .mk (beq_f h0), Contract0.inst (pick_ok how 7 (by omega) (by omega)) [] [none, none] [] [] (by kernel_rfl) (by kernel_rfl) (by kernel_rfl) (by kernel_rfl) (by kernel_rfl), Contract0.instG (rseal_ok k nn la lt oa na ot nt G (by omega) (by omega) (by omega) (by omega) (by omega) (by omega) (by omega) (by omega) (by omega) (by omega)) pr_glob [.b 1 1 true [], .b 2 2 true []] [none, none, none, none] [(4, 117)] [] rfl (by kernel_rfl) (by kernel_rfl) (by kernel_rfl) (by kernel_rfl) (by kernel_rfl), EV.aggi (List.take_of_length_le (by omega)), (by omega), EV.aggi (List.take_of_length_le (by omega)), (by omega), trivial⟩)

theorem aeadOpens_fftc0 (k nn la lt lr : List Int) (oa na ot nt o_ nr : Nat) (how at_ by_ : Int) (G : Nat → List Int)
    (hk : k.length = 32)
    (hnn : nn.length = 12)
    (hkb : W.bytes k)
    (hnb : W.bytes nn)
    (hG : G 2 = W.rows)
    (hla : oa + na ≤ la.length)
    (hlt : ot + nt ≤ lt.length)
    (hs : na + nt ≤ 1900000)
    (hba : W.bytes la)
    (hbt : W.bytes lt)
    (hlr : o_ + nr ≤ lr.length)
    (hs2 : na + nr ≤ 1900000)
    (hbr : W.bytes lr)
    (hho : -9223372036854775808 ≤ how ∧ how < 9223372036854775808)
    (hat : -9223372036854775808 ≤ at_ ∧ at_ < 9223372036854775808)
    (hby : 0 ≤ by_ ∧ by_ < 256)
    (hp7 : (W.pick how 7 : Int) < 7)
    (hp1 : (W.pick at_ ((nt + 16 : Nat) : Int) : Int) < ((nt + 16 : Nat) : Int))
    (hp2 : (W.pick at_ ((nt + 16 + 1 : Nat) : Int) : Int) < ((nt + 16 + 1 : Nat) : Int))
    (hp3 : (W.pick at_ 32 : Int) < 32)
    (hp4 : (W.pick at_ 12 : Int) < 12)
    (h0 : (¬(↑(W.pick how (7 : Int)) : Int) = (0 : Int)))
    (h1 : (¬(↑(W.pick how (7 : Int)) : Int) = (1 : Int)))
    (h2 : ((↑(W.pick how (7 : Int)) : Int) = (2 : Int)))
    (c3 : ((0 : Int) ≤ (0 : Int) ∧ (0 : Int) ≤ (↑(W.pick at_ (↑(nt + (17 : Nat)) : Int)) : Int) ∧ (↑(W.pick at_ (↑(nt + (17 : Nat)) : Int)) : Int) ≤ (↑(nt + (16 : Nat)) : Int)))
    (c4 : ((↑(W.pick at_ (↑(nt + (17 : Nat)) : Int)) : Int) < (16 : Int))) :
    Contract0 Tryd.prog 5 [(.aggi .u8 k), (.aggi .u8 nn), (.c (.sl 1 0 oa na 1)), (.c (.sl 2 0 ot nt 1)), (.c (.int .i64 how)), (.c (.int .i64 at_)), (.c (.int .u8 by_)), (.c (.sl 3 0 o_ nr 1))] [(0, (.many (fun j_ => some ⟨false, false, (.ints (W.gk j_) (G j_))⟩))), (1, (.one ⟨false, false, (.ints .u8 la)⟩)), (2, (.one ⟨false, false, (.ints .u8 lt)⟩)), (3, (.one ⟨false, false, (.ints .u8 lr)⟩))] 5 (.c (.bool (true))) [] [] :=
  Contract0.unkill pr_glob (Contract0.of_frun (res := (.c (.bool (true)))) (up := []) (kill := [0]) (n0 := 5) (m := [(0, (.many (fun j_ => some ⟨false, false, (.ints (W.gk j_) (G j_))⟩))), (1, (.one ⟨false, false, (.ints .u8 la)⟩)), (2, (.one ⟨false, false, (.ints .u8 lt)⟩)), (3, (.one ⟨false, false, (.ints .u8 lr)⟩))]) (args := [(.aggi .u8 k), (.aggi .u8 nn), (.c (.sl 1 0 oa na 1)), (.c (.sl 2 0 ot nt 1)), (.c (.int .i64 how)), (.c (.int .i64 at_)), (.c (.int .u8 by_)), (.c (.sl 3 0 o_ nr 1))]) (fn := Tryd.f5) (c := bodyOf Tryd.f5) (fuel := 300) (k := kOf Tryd.prog Tryd.f5) (outs := []) (hs := [(3, ⟨.ask, some (.aggi .u8 k)⟩), (4, ⟨.ask, some (.aggi .u8 nn)⟩), (7, ⟨.call [0, 1, 2] (.c (.sl 117 0 0 (nt + 16) 1)) [] [(117, (.one ⟨true, false, (.ints .u8 (W.box k nn (List.take na (List.drop oa la)) (List.take nt (List.drop ot lt))))⟩))], none⟩), (10, ⟨.call [] (.c (.int .i64 (↑(W.pick how 7)))) [] [], none⟩), (12, ⟨.auto, some (.c (.bool (false)))⟩), (15, ⟨.auto, some (.c (.bool (false)))⟩), (18, ⟨.auto, some (.c (.bool (true)))⟩), (24, ⟨.auto, some (.c (.int .i64 (↑(nt + 17))))⟩), (25, ⟨.call [] (.c (.int .i64 (↑(W.pick at_ ↑(nt + 17))))) [] [], none⟩), (26, ⟨.ask, none⟩), (28, ⟨.ask, some (.aggi .u8 k)⟩), (29, ⟨.ask, some (.aggi .u8 nn)⟩), (32, ⟨.call [1, 117] (.tup [(.c .nils), (.c (.int .i64 7))]) [] [], none⟩), (38, ⟨.ask, some (.aggi .u8 k)⟩), (39, ⟨.ask, some (.aggi .u8 nn)⟩), (42, ⟨.call [0, 1, 117] (.tup [(.c .nils), (.c (.int .i64 1))]) [] [], none⟩), (48, ⟨.call [] (.c (.bool (true))) [] [], none⟩), (59, ⟨.call [] (.c (.int .i64 7)) [] [], none⟩)])
    (cs := [Contract Tryd.prog 32 [(.c (.int .i64 1))] [] 901 (.c (.int .i64 7)) [] [],
      Contract Tryd.prog 24 [] [] 725 (.c (.bool (true))) [] [],
      Contract Tryd.prog 31 [(.aggi .u8 k), (.aggi .u8 nn), (.c (.sl 1 0 oa na 1)), (.c (.sl 117 0 0 (W.pick at_ ↑(nt + 17)) 1))] [(0, (.many (fun j_ => some ⟨false, false, (.ints (W.gk j_) (G j_))⟩))), (1, (.one ⟨false, false, (.ints .u8 la)⟩)), (117, (.one ⟨true, false, (.ints .u8 (W.box k nn (List.take na (List.drop oa la)) (List.take nt (List.drop ot lt))))⟩))] 629 (.tup [(.c .nils), (.c (.int .i64 1))]) [] [],
      ((.aggi .u8 (List.take 12 nn)) : V) = (.aggi .u8 nn),
      ((12 : Nat) ≤ List.length nn),
      ((.aggi .u8 (List.take 32 k)) : V) = (.aggi .u8 k),
      ((32 : Nat) ≤ List.length k),
      Contract Tryd.prog 30 [(.aggi .u8 k), (.aggi .u8 nn), (.c (.sl 1 0 oa na 1)), (.c (.sl 117 0 0 (W.pick at_ ↑(nt + 17)) 1))] [(1, (.one ⟨false, false, (.ints .u8 la)⟩)), (117, (.one ⟨true, false, (.ints .u8 (W.box k nn (List.take na (List.drop oa la)) (List.take nt (List.drop ot lt))))⟩))] 469 (.tup [(.c .nils), (.c (.int .i64 7))]) [] [],
      ((.aggi .u8 (List.take 12 nn)) : V) = (.aggi .u8 nn),
      ((12 : Nat) ≤ List.length nn),
      ((.aggi .u8 (List.take 32 k)) : V) = (.aggi .u8 k),
      ((32 : Nat) ≤ List.length k),
      ((0 : Int) ≤ (0 : Int) ∧ (0 : Int) ≤ (↑(W.pick at_ (↑(nt + (17 : Nat)) : Int)) : Int) ∧ (↑(W.pick at_ (↑(nt + (17 : Nat)) : Int)) : Int) ≤ (↑(nt + (16 : Nat)) : Int)),
      Contract Tryd.prog 29 [(.c (.int .i64 at_)), (.c (.int .i64 (↑(nt + 17))))] [] 357 (.c (.int .i64 (↑(W.pick at_ ↑(nt + 17))))) [] [],
      EI .i64 (IntKind.wrap IntKind.i64 ((↑(nt + 16) : Int) + 1)) ((↑(nt + 17) : Int)),
      EB ((↑(W.pick how 7) : Int) == 2) true,
      EB ((↑(W.pick how 7) : Int) == 1) false,
      EB ((↑(W.pick how 7) : Int) == 0) false,
      Contract Tryd.prog 29 [(.c (.int .i64 how)), (.c (.int .i64 7))] [] 165 (.c (.int .i64 (↑(W.pick how 7)))) [] [],
      Contract Tryd.prog 26 [(.aggi .u8 k), (.aggi .u8 nn), (.c (.sl 1 0 oa na 1)), (.c (.sl 2 0 ot nt 1))] [(0, (.many (fun j_ => some ⟨false, false, (.ints (W.gk j_) (G j_))⟩))), (1, (.one ⟨false, false, (.ints .u8 la)⟩)), (2, (.one ⟨false, false, (.ints .u8 lt)⟩))] 117 (.c (.sl 117 0 0 (nt + 16) 1)) [] [(117, (.one ⟨true, false, (.ints .u8 (W.box k nn (List.take na (List.drop oa la)) (List.take nt (List.drop ot lt))))⟩))],
      ((.aggi .u8 (List.take 12 nn)) : V) = (.aggi .u8 nn),
      ((12 : Nat) ≤ List.length nn),
      ((.aggi .u8 (List.take 32 k)) : V) = (.aggi .u8 k),
      ((32 : Nat) ≤ List.length k)])
    mixed Tryd.func5 (by kernel_rfl) (by kernel_rfl) (by kernel_rfl) (by kernel_rfl) (by kernel_rfl) ⟨Contract0.inst errno1 [] [none] [] [] (by kernel_rfl) (by kernel_rfl) (by kernel_rfl) (by kernel_rfl) (by kernel_rfl), Contract0.inst known6 [] [] [] [] (by kernel_rfl) (by kernel_rfl) (by kernel_rfl) (by kernel_rfl) (by kernel_rfl), Contract0.instG (ropen_t k nn la (W.box k nn (List.take na (List.drop oa la)) (List.take nt (List.drop ot lt))) oa na 0 (W.pick at_ (↑(nt + 17) : Int)) G (by omega) (by omega) (by omega) (by omega) (by omega) (by omega) (by simp only [lensD]; omega) (by omega) (by omega) (by exact W.box_bytes) (by omega)) pr_glob [.b 1 1 true [], .b 117 2 true []] [none, none, none, none] [] [] rfl (by kernel_rfl) (by kernel_rfl) (by kernel_rfl) (by kernel_rfl) (by kernel_rfl), EV.aggi (List.take_of_length_le (by omega)), (by omega), EV.aggi (List.take_of_length_le (by omega)), (by omega), Contract0.inst (open_ok_t k nn la (W.box k nn (List.take na (List.drop oa la)) (List.take nt (List.drop ot lt))) oa na 0 (W.pick at_ (↑(nt + 17) : Int)) (by omega) (by omega) (by omega) (by simp only [lensD]; omega) (by omega) (by omega) (by omega) (by exact W.box_bytes) c4) [.b 1 1 true [], .b 117 2 true []] [none, none, none, none] [] [] (by kernel_rfl) (by kernel_rfl) (by kernel_rfl) (by kernel_rfl) (by kernel_rfl), EV.aggi (List.take_of_length_le (by omega)), (by omega), EV.aggi (List.take_of_length_le (by omega)), (by omega), c3, Contract0.inst (pick_ok at_ ((↑(nt + 17) : Int)) (by omega) (by omega)) [] [none, none] [] [] (by kernel_rfl) (by kernel_rfl) (by kernel_rfl) (by kernel_rfl) (by kernel_rfl), .mk (by simp only [addO_eq, mulE_eq, mulE_one, Int.toNat_natCast, IntKind.wrap_i64, mmin, mmax]; omega), .mk (beq_t h2), .mk (beq_f h1), .mk (beq_f h0), Contract0.inst (pick_ok how 7 (by omega) (by omega)) [] [none, none] [] [] (by kernel_rfl) (by kernel_rfl) (by kernel_rfl) (by kernel_rfl) (by kernel_rfl), Contract0.instG (rseal_ok k nn la lt oa na ot nt G (by omega) (by omega) (by omega) (by omega) (by omega) (by omega) (by omega) (by omega) (by omega) (by omega)) pr_glob [.b 1 1 true [], .b 2 2 true []] [none, none, none, none] [(4, 117)] [] rfl (by kernel_rfl) (by kernel_rfl) (by kernel_rfl) (by kernel_rfl) (by kernel_rfl), EV.aggi (List.take_of_length_le (by omega)), (by omega), EV.aggi (List.take_of_length_le (by omega)), (by omega), trivial⟩)

theorem aeadOpens_fftc1 (k nn la lt lr : List Int) (oa na ot nt o_ nr : Nat) (how at_ by_ : Int) (G : Nat → List Int)
    (hk : k.length = 32)
    (hnn : nn.length = 12)
    (hkb : W.bytes k)
    (hnb : W.bytes nn)
    (hG : G 2 = W.rows)
    (hla : oa + na ≤ la.length)
    (hlt : ot + nt ≤ lt.length)
    (hs : na + nt ≤ 1900000)
    (hba : W.bytes la)
    (hbt : W.bytes lt)
    (hlr : o_ + nr ≤ lr.length)
    (hs2 : na + nr ≤ 1900000)
    (hbr : W.bytes lr)
    (hho : -9223372036854775808 ≤ how ∧ how < 9223372036854775808)
    (hat : -9223372036854775808 ≤ at_ ∧ at_ < 9223372036854775808)
    (hby : 0 ≤ by_ ∧ by_ < 256)
    (hp7 : (W.pick how 7 : Int) < 7)
    (hp1 : (W.pick at_ ((nt + 16 : Nat) : Int) : Int) < ((nt + 16 : Nat) : Int))
    (hp2 : (W.pick at_ ((nt + 16 + 1 : Nat) : Int) : Int) < ((nt + 16 + 1 : Nat) : Int))
    (hp3 : (W.pick at_ 32 : Int) < 32)
    (hp4 : (W.pick at_ 12 : Int) < 12)
    (h0 : (¬(↑(W.pick how (7 : Int)) : Int) = (0 : Int)))
    (h1 : (¬(↑(W.pick how (7 : Int)) : Int) = (1 : Int)))
    (h2 : ((↑(W.pick how (7 : Int)) : Int) = (2 : Int)))
    (c3 : ((0 : Int) ≤ (0 : Int) ∧ (0 : Int) ≤ (↑(W.pick at_ (↑(nt + (17 : Nat)) : Int)) : Int) ∧ (↑(W.pick at_ (↑(nt + (17 : Nat)) : Int)) : Int) ≤ (↑(nt + (16 : Nat)) : Int)))
    (c4 : (¬(↑(W.pick at_ (↑(nt + (17 : Nat)) : Int)) : Int) < (16 : Int)))
    (c5 : (¬List.take (16 : Nat) (List.drop ((0 : Nat) + (W.pick at_ (↑(nt + (17 : Nat)) : Int) - (16 : Nat))) (W.box k nn (List.take na (List.drop oa la)) (List.take nt (List.drop ot lt)))) = List.take (16 : Nat) (W.boxTag k nn (List.take na (List.drop oa la)) (List.take (W.pick at_ (↑(nt + (17 : Nat)) : Int) - (16 : Nat)) (List.drop (0 : Nat) (W.box k nn (List.take na (List.drop oa la)) (List.take nt (List.drop ot lt)))))))) :
    Contract0 Tryd.prog 5 [(.aggi .u8 k), (.aggi .u8 nn), (.c (.sl 1 0 oa na 1)), (.c (.sl 2 0 ot nt 1)), (.c (.int .i64 how)), (.c (.int .i64 at_)), (.c (.int .u8 by_)), (.c (.sl 3 0 o_ nr 1))] [(0, (.many (fun j_ => some ⟨false, false, (.ints (W.gk j_) (G j_))⟩))), (1, (.one ⟨false, false, (.ints .u8 la)⟩)), (2, (.one ⟨false, false, (.ints .u8 lt)⟩)), (3, (.one ⟨false, false, (.ints .u8 lr)⟩))] 5 (.c (.bool (true))) [] [] :=
  Contract0.unkill pr_glob (Contract0.of_frun (res := (.c (.bool (true)))) (up := []) (kill := [0]) (n0 := 5) (m := [(0, (.many (fun j_ => some ⟨false, false, (.ints (W.gk j_) (G j_))⟩))), (1, (.one ⟨false, false, (.ints .u8 la)⟩)), (2, (.one ⟨false, false, (.ints .u8 lt)⟩)), (3, (.one ⟨false, false, (.ints .u8 lr)⟩))]) (args := [(.aggi .u8 k), (.aggi .u8 nn), (.c (.sl 1 0 oa na 1)), (.c (.sl 2 0 ot nt 1)), (.c (.int .i64 how)), (.c (.int .i64 at_)), (.c (.int .u8 by_)), (.c (.sl 3 0 o_ nr 1))]) (fn := Tryd.f5) (c := bodyOf Tryd.f5) (fuel := 300) (k := kOf Tryd.prog Tryd.f5) (outs := []) (hs := [(3, ⟨.ask, some (.aggi .u8 k)⟩), (4, ⟨.ask, some (.aggi .u8 nn)⟩), (7, ⟨.call [0, 1, 2] (.c (.sl 117 0 0 (nt + 16) 1)) [] [(117, (.one ⟨true, false, (.ints .u8 (W.box k nn (List.take na (List.drop oa la)) (List.take nt (List.drop ot lt))))⟩))], none⟩), (10, ⟨.call [] (.c (.int .i64 (↑(W.pick how 7)))) [] [], none⟩), (12, ⟨.auto, some (.c (.bool (false)))⟩), (15, ⟨.auto, some (.c (.bool (false)))⟩), (18, ⟨.auto, some (.c (.bool (true)))⟩), (24, ⟨.auto, some (.c (.int .i64 (↑(nt + 17))))⟩), (25, ⟨.call [] (.c (.int .i64 (↑(W.pick at_ ↑(nt + 17))))) [] [], none⟩), (26, ⟨.ask, none⟩), (28, ⟨.ask, some (.aggi .u8 k)⟩), (29, ⟨.ask, some (.aggi .u8 nn)⟩), (32, ⟨.call [1, 117] (.tup [(.c .nils), (.c (.int .i64 8))]) [] [], none⟩), (38, ⟨.ask, some (.aggi .u8 k)⟩), (39, ⟨.ask, some (.aggi .u8 nn)⟩), (42, ⟨.call [0, 1, 117] (.tup [(.c .nils), (.c (.int .i64 2))]) [] [], none⟩), (48, ⟨.call [] (.c (.bool (true))) [] [], none⟩), (59, ⟨.call [] (.c (.int .i64 8)) [] [], none⟩)])
    (cs := [Contract Tryd.prog 32 [(.c (.int .i64 2))] [] 901 (.c (.int .i64 8)) [] [],
      Contract Tryd.prog 24 [] [] 725 (.c (.bool (true))) [] [],
      Contract Tryd.prog 31 [(.aggi .u8 k), (.aggi .u8 nn), (.c (.sl 1 0 oa na 1)), (.c (.sl 117 0 0 (W.pick at_ ↑(nt + 17)) 1))] [(0, (.many (fun j_ => some ⟨false, false, (.ints (W.gk j_) (G j_))⟩))), (1, (.one ⟨false, false, (.ints .u8 la)⟩)), (117, (.one ⟨true, false, (.ints .u8 (W.box k nn (List.take na (List.drop oa la)) (List.take nt (List.drop ot lt))))⟩))] 629 (.tup [(.c .nils), (.c (.int .i64 2))]) [] [],
      ((.aggi .u8 (List.take 12 nn)) : V) = (.aggi .u8 nn),
      ((12 : Nat) ≤ List.length nn),
      ((.aggi .u8 (List.take 32 k)) : V) = (.aggi .u8 k),
      ((32 : Nat) ≤ List.length k),
      Contract Tryd.prog 30 [(.aggi .u8 k), (.aggi .u8 nn), (.c (.sl 1 0 oa na 1)), (.c (.sl 117 0 0 (W.pick at_ ↑(nt + 17)) 1))] [(1, (.one ⟨false, false, (.ints .u8 la)⟩)), (117, (.one ⟨true, false, (.ints .u8 (W.box k nn (List.take na (List.drop oa la)) (List.take nt (List.drop ot lt))))⟩))] 469 (.tup [(.c .nils), (.c (.int .i64 8))]) [] [],
      ((.aggi .u8 (List.take 12 nn)) : V) = (.aggi .u8 nn),
      ((12 : Nat) ≤ List.length nn),
      ((.aggi .u8 (List.take 32 k)) : V) = (.aggi .u8 k),
      ((32 : Nat) ≤ List.length k),
      ((0 : Int) ≤ (0 : Int) ∧ (0 : Int) ≤ (↑(W.pick at_ (↑(nt + (17 : Nat)) : Int)) : Int) ∧ (↑(W.pick at_ (↑(nt + (17 : Nat)) : Int)) : Int) ≤ (↑(nt + (16 : Nat)) : Int)),
      Contract Tryd.prog 29 [(.c (.int .i64 at_)), (.c (.int .i64 (↑(nt + 17))))] [] 357 (.c (.int .i64 (↑(W.pick at_ ↑(nt + 17))))) [] [],
      EI .i64 (IntKind.wrap IntKind.i64 ((↑(nt + 16) : Int) + 1)) ((↑(nt + 17) : Int)),
      EB ((↑(W.pick how 7) : Int) == 2) true,
      EB ((↑(W.pick how 7) : Int) == 1) false,
      EB ((↑(W.pick how 7) : Int) == 0) false,
      Contract Tryd.prog 29 [(.c (.int .i64 how)), (.c (.int .i64 7))] [] 165 (.c (.int .i64 (↑(W.pick how 7)))) [] [],
      Contract Tryd.prog 26 [(.aggi .u8 k), (.aggi .u8 nn), (.c (.sl 1 0 oa na 1)), (.c (.sl 2 0 ot nt 1))] [(0, (.many (fun j_ => some ⟨false, false, (.ints (W.gk j_) (G j_))⟩))), (1, (.one ⟨false, false, (.ints .u8 la)⟩)), (2, (.one ⟨false, false, (.ints .u8 lt)⟩))] 117 (.c (.sl 117 0 0 (nt + 16) 1)) [] [(117, (.one ⟨true, false, (.ints .u8 (W.box k nn (List.take na (List.drop oa la)) (List.take nt (List.drop ot lt))))⟩))],
      ((.aggi .u8 (List.take 12 nn)) : V) = (.aggi .u8 nn),
      ((12 : Nat) ≤ List.length nn),
      ((.aggi .u8 (List.take 32 k)) : V) = (.aggi .u8 k),
      ((32 : Nat) ≤ List.length k)])
    mixed Tryd.func5 (by kernel_rfl) (by kernel_rfl) (by kernel_rfl) (by kernel_rfl) (by kernel_rfl) ⟨Contract0.inst errno2 [] [none] [] [] (by kernel_rfl) (by kernel_rfl) (by kernel_rfl) (by kernel_rfl) (by kernel_rfl), Contract0.inst known6 [] [] [] [] (by kernel_rfl) (by kernel_rfl) (by kernel_rfl) (by kernel_rfl) (by kernel_rfl), Contract0.instG (ropen_w k nn la (W.box k nn (List.take na (List.drop oa la)) (List.take nt (List.drop ot lt))) oa na 0 (W.pick at_ (↑(nt + 17) : Int)) G (by omega) (by omega) (by omega) (by omega) (by omega) (by omega) (by simp only [lensD]; omega) (by omega) (by omega) (by exact W.box_bytes) (by omega) (by omega)) pr_glob [.b 1 1 true [], .b 117 2 true []] [none, none, none, none] [] [] rfl (by kernel_rfl) (by kernel_rfl) (by kernel_rfl) (by kernel_rfl) (by kernel_rfl), EV.aggi (List.take_of_length_le (by omega)), (by omega), EV.aggi (List.take_of_length_le (by omega)), (by omega), Contract0.inst (open_ok_ff k nn la (W.box k nn (List.take na (List.drop oa la)) (List.take nt (List.drop ot lt))) oa na 0 (W.pick at_ (↑(nt + 17) : Int)) (by omega) (by omega) (by omega) (by simp only [lensD]; omega) (by omega) (by omega) (by omega) (by exact W.box_bytes) c4 c5) [.b 1 1 true [], .b 117 2 true []] [none, none, none, none] [] [] (by kernel_rfl) (by kernel_rfl) (by kernel_rfl) (by kernel_rfl) (by kernel_rfl), EV.aggi (List.take_of_length_le (by omega)), (by omega), EV.aggi (List.take_of_length_le (by omega)), (by omega), c3, Contract0.inst (pick_ok at_ ((↑(nt + 17) : Int)) (by omega) (by omega)) [] [none, none] [] [] (by kernel_rfl) (by kernel_rfl) (by kernel_rfl) (by kernel_rfl) (by kernel_rfl), .mk (by simp only [addO_eq, mulE_eq, mulE_one, Int.toNat_natCast, IntKind.wrap_i64, mmin, mmax]; omega), .mk (beq_t h2), .mk (beq_f h1), .mk (beq_f h0), Contract0.inst (pick_ok how 7 (by omega) (by omega)) [] [none, none] [] [] (by kernel_rfl) (by kernel_rfl) (by kernel_rfl) (by kernel_rfl) (by kernel_rfl), Contract0.instG (rseal_ok k nn la lt oa na ot nt G (by omega) (by omega) (by omega) (by omega) (by omega) (by omega) (by omega) (by omega) (by omega) (by omega)) pr_glob [.b 1 1 true [], .b 2 2 true []] [none, none, none, none] [(4, 117)] [] rfl (by kernel_rfl) (by kernel_rfl) (by kernel_rfl) (by kernel_rfl) (by kernel_rfl), EV.aggi (List.take_of_length_le (by omega)), (by omega), EV.aggi (List.take_of_length_le (by omega)), (by omega), trivial⟩)

theorem aeadOpens_fftc2 (k nn la lt lr : List Int) (oa na ot nt o_ nr : Nat) (how at_ by_ : Int) (G : Nat → List Int)
    (hk : k.length = 32)
    (hnn : nn.length = 12)
    (hkb : W.bytes k)
    (hnb : W.bytes nn)
    (hG : G 2 = W.rows)
    (hla : oa + na ≤ la.length)
    (hlt : ot + nt ≤ lt.length)
    (hs : na + nt ≤ 1900000)
    (hba : W.bytes la)
    (hbt : W.bytes lt)
    (hlr : o_ + nr ≤ lr.length)
    (hs2 : na + nr ≤ 1900000)
    (hbr : W.bytes lr)
    (hho : -9223372036854775808 ≤ how ∧ how < 9223372036854775808)
    (hat : -9223372036854775808 ≤ at_ ∧ at_ < 9223372036854775808)
    (hby : 0 ≤ by_ ∧ by_ < 256)
    (hp7 : (W.pick how 7 : Int) < 7)
    (hp1 : (W.pick at_ ((nt + 16 : Nat) : Int) : Int) < ((nt + 16 : Nat) : Int))
    (hp2 : (W.pick at_ ((nt + 16 + 1 : Nat) : Int) : Int) < ((nt + 16 + 1 : Nat) : Int))
    (hp3 : (W.pick at_ 32 : Int) < 32)
    (hp4 : (W.pick at_ 12 : Int) < 12)
    (h0 : (¬(↑(W.pick how (7 : Int)) : Int) = (0 : Int)))
    (h1 : (¬(↑(W.pick how (7 : Int)) : Int) = (1 : Int)))
    (h2 : ((↑(W.pick how (7 : Int)) : Int) = (2 : Int)))
    (c3 : ((0 : Int) ≤ (0 : Int) ∧ (0 : Int) ≤ (↑(W.pick at_ (↑(nt + (17 : Nat)) : Int)) : Int) ∧ (↑(W.pick at_ (↑(nt + (17 : Nat)) : Int)) : Int) ≤ (↑(nt + (16 : Nat)) : Int)))
    (c4 : (¬(↑(W.pick at_ (↑(nt + (17 : Nat)) : Int)) : Int) < (16 : Int)))
    (c5 : (List.take (16 : Nat) (List.drop ((0 : Nat) + (W.pick at_ (↑(nt + (17 : Nat)) : Int) - (16 : Nat))) (W.box k nn (List.take na (List.drop oa la)) (List.take nt (List.drop ot lt)))) = List.take (16 : Nat) (W.boxTag k nn (List.take na (List.drop oa la)) (List.take (W.pick at_ (↑(nt + (17 : Nat)) : Int) - (16 : Nat)) (List.drop (0 : Nat) (W.box k nn (List.take na (List.drop oa la)) (List.take nt (List.drop ot lt)))))))) :
    Contract0 Tryd.prog 5 [(.aggi .u8 k), (.aggi .u8 nn), (.c (.sl 1 0 oa na 1)), (.c (.sl 2 0 ot nt 1)), (.c (.int .i64 how)), (.c (.int .i64 at_)), (.c (.int .u8 by_)), (.c (.sl 3 0 o_ nr 1))] [(0, (.many (fun j_ => some ⟨false, false, (.ints (W.gk j_) (G j_))⟩))), (1, (.one ⟨false, false, (.ints .u8 la)⟩)), (2, (.one ⟨false, false, (.ints .u8 lt)⟩)), (3, (.one ⟨false, false, (.ints .u8 lr)⟩))] 5 (.c (.bool (true))) [] [] :=
  Contract0.unkill pr_glob (Contract0.of_frun (res := (.c (.bool (true)))) (up := []) (kill := [0]) (n0 := 5) (m := [(0, (.many (fun j_ => some ⟨false, false, (.ints (W.gk j_) (G j_))⟩))), (1, (.one ⟨false, false, (.ints .u8 la)⟩)), (2, (.one ⟨false, false, (.ints .u8 lt)⟩)), (3, (.one ⟨false, false, (.ints .u8 lr)⟩))]) (args := [(.aggi .u8 k), (.aggi .u8 nn), (.c (.sl 1 0 oa na 1)), (.c (.sl 2 0 ot nt 1)), (.c (.int .i64 how)), (.c (.int .i64 at_)), (.c (.int .u8 by_)), (.c (.sl 3 0 o_ nr 1))]) (fn := Tryd.f5) (c := bodyOf Tryd.f5) (fuel := 300) (k := kOf Tryd.prog Tryd.f5) (outs := []) (hs := [(3, ⟨.ask, some (.aggi .u8 k)⟩), (4, ⟨.ask, some (.aggi .u8 nn)⟩), (7, ⟨.call [0, 1, 2] (.c (.sl 117 0 0 (nt + 16) 1)) [] [(117, (.one ⟨true, false, (.ints .u8 (W.box k nn (List.take na (List.drop oa la)) (List.take nt (List.drop ot lt))))⟩))], none⟩), (10, ⟨.call [] (.c (.int .i64 (↑(W.pick how 7)))) [] [], none⟩), (12, ⟨.auto, some (.c (.bool (false)))⟩), (15, ⟨.auto, some (.c (.bool (false)))⟩), (18, ⟨.auto, some (.c (.bool (true)))⟩), (24, ⟨.auto, some (.c (.int .i64 (↑(nt + 17))))⟩), (25, ⟨.call [] (.c (.int .i64 (↑(W.pick at_ ↑(nt + 17))))) [] [], none⟩), (26, ⟨.ask, none⟩), (28, ⟨.ask, some (.aggi .u8 k)⟩), (29, ⟨.ask, some (.aggi .u8 nn)⟩), (32, ⟨.call [1, 117] (.tup [(.c (.sl 469 0 0 (W.pick at_ ↑(nt + 17) - 16) 1)), (.c (.int .i64 0))]) [] [(469, (.one ⟨true, false, (.ints .u8 (W.apply k 1 nn (List.take (W.pick at_ (↑(nt + 17) : Int) - 16) (W.box k nn (List.take na (List.drop oa la)) (List.take nt (List.drop ot lt))))))⟩))], none⟩), (38, ⟨.ask, some (.aggi .u8 k)⟩), (39, ⟨.ask, some (.aggi .u8 nn)⟩), (42, ⟨.call [0, 1, 117] (.tup [(.c (.sl 629 0 0 (W.pick at_ ↑(nt + 17) - 16) 1)), (.c (.int .i64 0))]) [] [(629, (.one ⟨true, false, (.ints .u8 (W.apply k 1 nn (List.take (W.pick at_ (↑(nt + 17) : Int) - 16) (W.box k nn (List.take na (List.drop oa la)) (List.take nt (List.drop ot lt))))))⟩))], none⟩), (48, ⟨.call [] (.c (.bool (true))) [] [], none⟩), (51, ⟨.ask, none⟩), (53, ⟨.ask, none⟩), (54, ⟨.ask, some (.c (.bool (true)))⟩), (59, ⟨.call [] (.c (.int .i64 0)) [] [], none⟩)])
    (cs := [Contract Tryd.prog 32 [(.c (.int .i64 0))] [] 901 (.c (.int .i64 0)) [] [],
      EB (ByteArray.toList { data := List.toArray (List.map (fun n => UInt8.ofNat (Int.toNat n)) (List.take (W.pick at_ (↑(nt + 17) : Int) - 16) (List.drop 0 (W.apply k 1 nn (List.take (W.pick at_ (↑(nt + 17) : Int) - 16) (W.box k nn (List.take na (List.drop oa la)) (List.take nt (List.drop ot lt)))))))) } == ByteArray.toList { data := List.toArray (List.map (fun n => UInt8.ofNat (Int.toNat n)) (List.take (W.pick at_ (↑(nt + 17) : Int) - 16) (List.drop 0 (W.apply k 1 nn (List.take (W.pick at_ (↑(nt + 17) : Int) - 16) (W.box k nn (List.take na (List.drop oa la)) (List.take nt (List.drop ot lt)))))))) }) true,
      ((0 : Nat) + (W.pick at_ (↑(nt + (17 : Nat)) : Int) - (16 : Nat)) ≤ List.length (W.apply k (1 : Int) nn (List.take (W.pick at_ (↑(nt + (17 : Nat)) : Int) - (16 : Nat)) (W.box k nn (List.take na (List.drop oa la)) (List.take nt (List.drop ot lt)))))),
      ((0 : Nat) + (W.pick at_ (↑(nt + (17 : Nat)) : Int) - (16 : Nat)) ≤ List.length (W.apply k (1 : Int) nn (List.take (W.pick at_ (↑(nt + (17 : Nat)) : Int) - (16 : Nat)) (W.box k nn (List.take na (List.drop oa la)) (List.take nt (List.drop ot lt)))))),
      Contract Tryd.prog 24 [] [] 725 (.c (.bool (true))) [] [],
      Contract Tryd.prog 31 [(.aggi .u8 k), (.aggi .u8 nn), (.c (.sl 1 0 oa na 1)), (.c (.sl 117 0 0 (W.pick at_ ↑(nt + 17)) 1))] [(0, (.many (fun j_ => some ⟨false, false, (.ints (W.gk j_) (G j_))⟩))), (1, (.one ⟨false, false, (.ints .u8 la)⟩)), (117, (.one ⟨true, false, (.ints .u8 (W.box k nn (List.take na (List.drop oa la)) (List.take nt (List.drop ot lt))))⟩))] 629 (.tup [(.c (.sl 629 0 0 (W.pick at_ ↑(nt + 17) - 16) 1)), (.c (.int .i64 0))]) [] [(629, (.one ⟨true, false, (.ints .u8 (W.apply k 1 nn (List.take (W.pick at_ (↑(nt + 17) : Int) - 16) (W.box k nn (List.take na (List.drop oa la)) (List.take nt (List.drop ot lt))))))⟩))],
      ((.aggi .u8 (List.take 12 nn)) : V) = (.aggi .u8 nn),
      ((12 : Nat) ≤ List.length nn),
      ((.aggi .u8 (List.take 32 k)) : V) = (.aggi .u8 k),
      ((32 : Nat) ≤ List.length k),
      Contract Tryd.prog 30 [(.aggi .u8 k), (.aggi .u8 nn), (.c (.sl 1 0 oa na 1)), (.c (.sl 117 0 0 (W.pick at_ ↑(nt + 17)) 1))] [(1, (.one ⟨false, false, (.ints .u8 la)⟩)), (117, (.one ⟨true, false, (.ints .u8 (W.box k nn (List.take na (List.drop oa la)) (List.take nt (List.drop ot lt))))⟩))] 469 (.tup [(.c (.sl 469 0 0 (W.pick at_ ↑(nt + 17) - 16) 1)), (.c (.int .i64 0))]) [] [(469, (.one ⟨true, false, (.ints .u8 (W.apply k 1 nn (List.take (W.pick at_ (↑(nt + 17) : Int) - 16) (W.box k nn (List.take na (List.drop oa la)) (List.take nt (List.drop ot lt))))))⟩))],
      ((.aggi .u8 (List.take 12 nn)) : V) = (.aggi .u8 nn),
      ((12 : Nat) ≤ List.length nn),
      ((.aggi .u8 (List.take 32 k)) : V) = (.aggi .u8 k),
      ((32 : Nat) ≤ List.length k),
      ((0 : Int) ≤ (0 : Int) ∧ (0 : Int) ≤ (↑(W.pick at_ (↑(nt + (17 : Nat)) : Int)) : Int) ∧ (↑(W.pick at_ (↑(nt + (17 : Nat)) : Int)) : Int) ≤ (↑(nt + (16 : Nat)) : Int)),
      Contract Tryd.prog 29 [(.c (.int .i64 at_)), (.c (.int .i64 (↑(nt + 17))))] [] 357 (.c (.int .i64 (↑(W.pick at_ ↑(nt + 17))))) [] [],
      EI .i64 (IntKind.wrap IntKind.i64 ((↑(nt + 16) : Int) + 1)) ((↑(nt + 17) : Int)),
      EB ((↑(W.pick how 7) : Int) == 2) true,
      EB ((↑(W.pick how 7) : Int) == 1) false,
      EB ((↑(W.pick how 7) : Int) == 0) false,
      Contract Tryd.prog 29 [(.c (.int .i64 how)), (.c (.int .i64 7))] [] 165 (.c (.int .i64 (↑(W.pick how 7)))) [] [],
      Contract Tryd.prog 26 [(.aggi .u8 k), (.aggi .u8 nn), (.c (.sl 1 0 oa na 1)), (.c (.sl 2 0 ot nt 1))] [(0, (.many (fun j_ => some ⟨false, false, (.ints (W.gk j_) (G j_))⟩))), (1, (.one ⟨false, false, (.ints .u8 la)⟩)), (2, (.one ⟨false, false, (.ints .u8 lt)⟩))] 117 (.c (.sl 117 0 0 (nt + 16) 1)) [] [(117, (.one ⟨true, false, (.ints .u8 (W.box k nn (List.take na (List.drop oa la)) (List.take nt (List.drop ot lt))))⟩))],
      ((.aggi .u8 (List.take 12 nn)) : V) = (.aggi .u8 nn),
      ((12 : Nat) ≤ List.length nn),
      ((.aggi .u8 (List.take 32 k)) : V) = (.aggi .u8 k),
      ((32 : Nat) ≤ List.length k)])
    mixed Tryd.func5 (by kernel_rfl) (by kernel_rfl) (by kernel_rfl) (by kernel_rfl) (by kernel_rfl) ⟨Contract0.inst errno0 [] [none] [] [] (by kernel_rfl) (by kernel_rfl) (by kernel_rfl) (by kernel_rfl) (by kernel_rfl), .mk (strEq_t (by simp only [List.take_take, Nat.min_self, List.drop_zero])), (by simp only [lensD]; omega), (by simp only [lensD]; omega), Contract0.inst known6 [] [] [] [] (by kernel_rfl) (by kernel_rfl) (by kernel_rfl) (by kernel_rfl) (by kernel_rfl), Contract0.instG (ropen_o k nn la (W.box k nn (List.take na (List.drop oa la)) (List.take nt (List.drop ot lt))) oa na 0 (W.pick at_ (↑(nt + 17) : Int)) G (by omega) (by omega) (by omega) (by omega) (by omega) (by omega) (by simp only [lensD]; omega) (by omega) (by omega) (by exact W.box_bytes) (by omega) (by omega)) pr_glob [.b 1 1 true [], .b 117 2 true []] [none, none, none, none] [(4, 629)] [] rfl (by kernel_rfl) (by kernel_rfl) (by kernel_rfl) (by kernel_rfl) (by kernel_rfl), EV.aggi (List.take_of_length_le (by omega)), (by omega), EV.aggi (List.take_of_length_le (by omega)), (by omega), Contract0.inst (open_ok_ft k nn la (W.box k nn (List.take na (List.drop oa la)) (List.take nt (List.drop ot lt))) oa na 0 (W.pick at_ (↑(nt + 17) : Int)) (by omega) (by omega) (by omega) (by simp only [lensD]; omega) (by omega) (by omega) (by omega) (by exact W.box_bytes) c4 c5) [.b 1 1 true [], .b 117 2 true []] [none, none, none, none] [(3, 469)] [] (by kernel_rfl) (by kernel_rfl) (by kernel_rfl) (by kernel_rfl) (by kernel_rfl), EV.aggi (List.take_of_length_le (by omega)), (by omega), EV.aggi (List.take_of_length_le (by omega)), (by omega), c3, Contract0.inst (pick_ok at_ ((↑(nt + 17) : Int)) (by omega) (by omega)) [] [none, none] [] [] (by kernel_rfl) (by kernel_rfl) (by kernel_rfl) (by kernel_rfl) (by kernel_rfl), .mk (by simp only [addO_eq, mulE_eq, mulE_one, Int.toNat_natCast, IntKind.wrap_i64, mmin, mmax]; omega), .mk (beq_t h2), .mk (beq_f h1), .mk (beq_f h0), Contract0.inst (pick_ok how 7 (by omega) (by omega)) [] [none, none] [] [] (by kernel_rfl) (by kernel_rfl) (by kernel_rfl) (by kernel_rfl) (by kernel_rfl), Contract0.instG (rseal_ok k nn la lt oa na ot nt G (by omega) (by omega) (by omega) (by omega) (by omega) (by omega) (by omega) (by omega) (by omega) (by omega)) pr_glob [.b 1 1 true [], .b 2 2 true []] [none, none, none, none] [(4, 117)] [] rfl (by kernel_rfl) (by kernel_rfl) (by kernel_rfl) (by kernel_rfl) (by kernel_rfl), EV.aggi (List.take_of_length_le (by omega)), (by omega), EV.aggi (List.take_of_length_le (by omega)), (by omega), trivial⟩)

theorem aeadOpens_ffftc0 (k nn la lt lr : List Int) (oa na ot nt o_ nr : Nat) (how at_ by_ : Int) (G : Nat → List Int)
    (hk : k.length = 32)
    (hnn : nn.length = 12)
    (hkb : W.bytes k)
    (hnb : W.bytes nn)
    (hG : G 2 = W.rows)
    (hla : oa + na ≤ la.length)
    (hlt : ot + nt ≤ lt.length)
    (hs : na + nt ≤ 1900000)
    (hba : W.bytes la)
    (hbt : W.bytes lt)
    (hlr : o_ + nr ≤ lr.length)
    (hs2 : na + nr ≤ 1900000)
    (hbr : W.bytes lr)
    (hho : -9223372036854775808 ≤ how ∧ how < 9223372036854775808)
    (hat : -9223372036854775808 ≤ at_ ∧ at_ < 9223372036854775808)
    (hby : 0 ≤ by_ ∧ by_ < 256)
    (hp7 : (W.pick how 7 : Int) < 7)
    (hp1 : (W.pick at_ ((nt + 16 : Nat) : Int) : Int) < ((nt + 16 : Nat) : Int))
    (hp2 : (W.pick at_ ((nt + 16 + 1 : Nat) : Int) : Int) < ((nt + 16 + 1 : Nat) : Int))
    (hp3 : (W.pick at_ 32 : Int) < 32)
    (hp4 : (W.pick at_ 12 : Int) < 12)
    (h0 : (¬(↑(W.pick how (7 : Int)) : Int) = (0 : Int)))
    (h1 : (¬(↑(W.pick how (7 : Int)) : Int) = (1 : Int)))
    (h2 : (¬(↑(W.pick how (7 : Int)) : Int) = (2 : Int)))
    (h3 : ((↑(W.pick how (7 : Int)) : Int) = (3 : Int)))
    (c4 : (W.bytes (List.take (nt + (16 : Nat)) (W.box k nn (List.take na (List.drop oa la)) (List.take nt (List.drop ot lt))) ++ [by_])))
    (c5 : (¬List.take (16 : Nat) (List.drop ((0 : Nat) + (nt + (17 : Nat) - (16 : Nat))) (List.take (nt + (16 : Nat)) (W.box k nn (List.take na (List.drop oa la)) (List.take nt (List.drop ot lt))) ++ [by_])) = List.take (16 : Nat) (W.boxTag k nn (List.take na (List.drop oa la)) (List.take (nt + (17 : Nat) - (16 : Nat)) (List.drop (0 : Nat) (List.take (nt + (16 : Nat)) (W.box k nn (List.take na (List.drop oa la)) (List.take nt (List.drop ot lt))) ++ [by_])))))) :
    Contract0 Tryd.prog 5 [(.aggi .u8 k), (.aggi .u8 nn), (.c (.sl 1 0 oa na 1)), (.c (.sl 2 0 ot nt 1)), (.c (.int .i64 how)), (.c (.int .i64 at_)), (.c (.int .u8 by_)), (.c (.sl 3 0 o_ nr 1))] [(0, (.many (fun j_ => some ⟨false, false, (.ints (W.gk j_) (G j_))⟩))), (1, (.one ⟨false, false, (.ints .u8 la)⟩)), (2, (.one ⟨false, false, (.ints .u8 lt)⟩)), (3, (.one ⟨false, false, (.ints .u8 lr)⟩))] 5 (.c (.bool (true))) [] [] :=
  Contract0.unkill pr_glob (Contract0.of_frun (res := (.c (.bool (true)))) (up := []) (kill := [0]) (n0 := 5) (m := [(0, (.many (fun j_ => some ⟨false, false, (.ints (W.gk j_) (G j_))⟩))), (1, (.one ⟨false, false, (.ints .u8 la)⟩)), (2, (.one ⟨false, false, (.ints .u8 lt)⟩)), (3, (.one ⟨false, false, (.ints .u8 lr)⟩))]) (args := [(.aggi .u8 k), (.aggi .u8 nn), (.c (.sl 1 0 oa na 1)), (.c (.sl 2 0 ot nt 1)), (.c (.int .i64 how)), (.c (.int .i64 at_)), (.c (.int .u8 by_)), (.c (.sl 3 0 o_ nr 1))]) (fn := Tryd.f5) (c := bodyOf Tryd.f5) (fuel := 300) (k := kOf Tryd.prog Tryd.f5) (outs := []) (hs := [(3, ⟨.ask, some (.aggi .u8 k)⟩), (4, ⟨.ask, some (.aggi .u8 nn)⟩), (7, ⟨.call [0, 1, 2] (.c (.sl 117 0 0 (nt + 16) 1)) [] [(117, (.one ⟨true, false, (.ints .u8 (W.box k nn (List.take na (List.drop oa la)) (List.take nt (List.drop ot lt))))⟩))], none⟩), (10, ⟨.call [] (.c (.int .i64 (↑(W.pick how 7)))) [] [], none⟩), (12, ⟨.auto, some (.c (.bool (false)))⟩), (15, ⟨.auto, some (.c (.bool (false)))⟩), (18, ⟨.auto, some (.c (.bool (false)))⟩), (21, ⟨.auto, some (.c (.bool (true)))⟩), (26, ⟨.ask, none⟩), (28, ⟨.ask, some (.aggi .u8 k)⟩), (29, ⟨.ask, some (.aggi .u8 nn)⟩), (32, ⟨.call [1, 357] (.tup [(.c .nils), (.c (.int .i64 8))]) [] [], none⟩), (38, ⟨.ask, some (.aggi .u8 k)⟩), (39, ⟨.ask, some (.aggi .u8 nn)⟩), (42, ⟨.call [0, 1, 357] (.tup [(.c .nils), (.c (.int .i64 2))]) [] [], none⟩), (48, ⟨.call [] (.c (.bool (true))) [] [], none⟩), (59, ⟨.call [] (.c (.int .i64 8)) [] [], none⟩)])
    (cs := [Contract Tryd.prog 32 [(.c (.int .i64 2))] [] 885 (.c (.int .i64 8)) [] [],
      Contract Tryd.prog 24 [] [] 709 (.c (.bool (true))) [] [],
      Contract Tryd.prog 31 [(.aggi .u8 k), (.aggi .u8 nn), (.c (.sl 1 0 oa na 1)), (.c (.sl 357 0 0 (nt + 17) 1))] [(0, (.many (fun j_ => some ⟨false, false, (.ints (W.gk j_) (G j_))⟩))), (1, (.one ⟨false, false, (.ints .u8 la)⟩)), (357, (.one ⟨true, false, (.ints .u8 (List.take (nt + 16) (W.box k nn (List.take na (List.drop oa la)) (List.take nt (List.drop ot lt))) ++ [by_]))⟩))] 613 (.tup [(.c .nils), (.c (.int .i64 2))]) [] [],
      ((.aggi .u8 (List.take 12 nn)) : V) = (.aggi .u8 nn),
      ((12 : Nat) ≤ List.length nn),
      ((.aggi .u8 (List.take 32 k)) : V) = (.aggi .u8 k),
      ((32 : Nat) ≤ List.length k),
      Contract Tryd.prog 30 [(.aggi .u8 k), (.aggi .u8 nn), (.c (.sl 1 0 oa na 1)), (.c (.sl 357 0 0 (nt + 17) 1))] [(1, (.one ⟨false, false, (.ints .u8 la)⟩)), (357, (.one ⟨true, false, (.ints .u8 (List.take (nt + 16) (W.box k nn (List.take na (List.drop oa la)) (List.take nt (List.drop ot lt))) ++ [by_]))⟩))] 453 (.tup [(.c .nils), (.c (.int .i64 8))]) [] [],
      ((.aggi .u8 (List.take 12 nn)) : V) = (.aggi .u8 nn),
      ((12 : Nat) ≤ List.length nn),
      ((.aggi .u8 (List.take 32 k)) : V) = (.aggi .u8 k),
      ((32 : Nat) ≤ List.length k),
      ((1 : Nat) ≤ (1 : Nat) ∧ (2 : Nat) * (nt + (16 : Nat) + (1 : Nat)) ≤ (4398046511104 : Nat) ∧ (0 : Nat) + (nt + (16 : Nat)) * (1 : Nat) ≤ List.length (W.box k nn (List.take na (List.drop oa la)) (List.take nt (List.drop ot lt)))),
      EB ((↑(W.pick how 7) : Int) == 3) true,
      EB ((↑(W.pick how 7) : Int) == 2) false,
      EB ((↑(W.pick how 7) : Int) == 1) false,
      EB ((↑(W.pick how 7) : Int) == 0) false,
      Contract Tryd.prog 29 [(.c (.int .i64 how)), (.c (.int .i64 7))] [] 165 (.c (.int .i64 (↑(W.pick how 7)))) [] [],
      Contract Tryd.prog 26 [(.aggi .u8 k), (.aggi .u8 nn), (.c (.sl 1 0 oa na 1)), (.c (.sl 2 0 ot nt 1))] [(0, (.many (fun j_ => some ⟨false, false, (.ints (W.gk j_) (G j_))⟩))), (1, (.one ⟨false, false, (.ints .u8 la)⟩)), (2, (.one ⟨false, false, (.ints .u8 lt)⟩))] 117 (.c (.sl 117 0 0 (nt + 16) 1)) [] [(117, (.one ⟨true, false, (.ints .u8 (W.box k nn (List.take na (List.drop oa la)) (List.take nt (List.drop ot lt))))⟩))],
      ((.aggi .u8 (List.take 12 nn)) : V) = (.aggi .u8 nn),
      ((12 : Nat) ≤ List.length nn),
      ((.aggi .u8 (List.take 32 k)) : V) = (.aggi .u8 k),
      ((32 : Nat) ≤ List.length k)])
    mixed Tryd.func5 (by kernel_rfl) (by kernel_rfl) (by kernel_rfl) (by kernel_rfl) (by kernel_rfl) ⟨Contract0.inst errno2 [] [none] [] [] (by kernel_rfl) (by kernel_rfl) (by kernel_rfl) (by kernel_rfl) (by kernel_rfl), Contract0.inst known6 [] [] [] [] (by kernel_rfl) (by kernel_rfl) (by kernel_rfl) (by kernel_rfl) (by kernel_rfl), Contract0.instG (ropen_w k nn la (List.take (nt + 16) (W.box k nn (List.take na (List.drop oa la)) (List.take nt (List.drop ot lt))) ++ [by_]) oa na 0 (nt + 17) G (by omega) (by omega) (by omega) (by omega) (by omega) (by omega) (by simp only [lensD]; omega) (by omega) (by omega) (by omega) (by omega) (by omega)) pr_glob [.b 1 1 true [], .b 357 2 true []] [none, none, none, none] [] [] rfl (by kernel_rfl) (by kernel_rfl) (by kernel_rfl) (by kernel_rfl) (by kernel_rfl), EV.aggi (List.take_of_length_le (by omega)), (by omega), EV.aggi (List.take_of_length_le (by omega)), (by omega), Contract0.inst (open_ok_ff k nn la (List.take (nt + 16) (W.box k nn (List.take na (List.drop oa la)) (List.take nt (List.drop ot lt))) ++ [by_]) oa na 0 (nt + 17) (by omega) (by omega) (by omega) (by simp only [lensD]; omega) (by omega) (by omega) (by omega) c4 (by omega) c5) [.b 1 1 true [], .b 357 2 true []] [none, none, none, none] [] [] (by kernel_rfl) (by kernel_rfl) (by kernel_rfl) (by kernel_rfl) (by kernel_rfl), EV.aggi (List.take_of_length_le (by omega)), (by omega), EV.aggi (List.take_of_length_le (by omega)), (by omega), (by simp only [lensD]; omega), .mk (beq_t h3), .mk (beq_f h2), .mk (beq_f h1), .mk (beq_f h0), Contract0.inst (pick_ok how 7 (by omega) (by omega)) [] [none, none] [] [] (by kernel_rfl) (by kernel_rfl) (by kernel_rfl) (by kernel_rfl) (by kernel_rfl), Contract0.instG (rseal_ok k nn la lt oa na ot nt G (by omega) (by omega) (by omega) (by omega) (by omega) (by omega) (by omega) (by omega) (by omega) (by omega)) pr_glob [.b 1 1 true [], .b 2 2 true []] [none, none, none, none] [(4, 117)] [] rfl (by kernel_rfl) (by kernel_rfl) (by kernel_rfl) (by kernel_rfl) (by kernel_rfl), EV.aggi (List.take_of_length_le (by omega)), (by omega), EV.aggi (List.take_of_length_le (by omega)), (by omega), trivial⟩)

theorem aeadOpens_ffftc1 (k nn la lt lr : List Int) (oa na ot nt o_ nr : Nat) (how at_ by_ : Int) (G : Nat → List Int)
    (hk : k.length = 32)
    (hnn : nn.length = 12)
    (hkb : W.bytes k)
    (hnb : W.bytes nn)
    (hG : G 2 = W.rows)
    (hla : oa + na ≤ la.length)
    (hlt : ot + nt ≤ lt.length)
    (hs : na + nt ≤ 1900000)
    (hba : W.bytes la)
    (hbt : W.bytes lt)
    (hlr : o_ + nr ≤ lr.length)
    (hs2 : na + nr ≤ 1900000)
    (hbr : W.bytes lr)
    (hho : -9223372036854775808 ≤ how ∧ how < 9223372036854775808)
    (hat : -9223372036854775808 ≤ at_ ∧ at_ < 9223372036854775808)
    (hby : 0 ≤ by_ ∧ by_ < 256)
    (hp7 : (W.pick how 7 : Int) < 7)
    (hp1 : (W.pick at_ ((nt + 16 : Nat) : Int) : Int) < ((nt + 16 : Nat) : Int))
    (hp2 : (W.pick at_ ((nt + 16 + 1 : Nat) : Int) : Int) < ((nt + 16 + 1 : Nat) : Int))
    (hp3 : (W.pick at_ 32 : Int) < 32)
    (hp4 : (W.pick at_ 12 : Int) < 12)
    (h0 : (¬(↑(W.pick how (7 : Int)) : Int) = (0 : Int)))
    (h1 : (¬(↑(W.pick how (7 : Int)) : Int) = (1 : Int)))
    (h2 : (¬(↑(W.pick how (7 : Int)) : Int) = (2 : Int)))
    (h3 : ((↑(W.pick how (7 : Int)) : Int) = (3 : Int)))
    (c4 : (W.bytes (List.take (nt + (16 : Nat)) (W.box k nn (List.take na (List.drop oa la)) (List.take nt (List.drop ot lt))) ++ [by_])))
    (c5 : (List.take (16 : Nat) (List.drop ((0 : Nat) + (nt + (17 : Nat) - (16 : Nat))) (List.take (nt + (16 : Nat)) (W.box k nn (List.take na (List.drop oa la)) (List.take nt (List.drop ot lt))) ++ [by_])) = List.take (16 : Nat) (W.boxTag k nn (List.take na (List.drop oa la)) (List.take (nt + (17 : Nat) - (16 : Nat)) (List.drop (0 : Nat) (List.take (nt + (16 : Nat)) (W.box k nn (List.take na (List.drop oa la)) (List.take nt (List.drop ot lt))) ++ [by_])))))) :
    Contract0 Tryd.prog 5 [(.aggi .u8 k), (.aggi .u8 nn), (.c (.sl 1 0 oa na 1)), (.c (.sl 2 0 ot nt 1)), (.c (.int .i64 how)), (.c (.int .i64 at_)), (.c (.int .u8 by_)), (.c (.sl 3 0 o_ nr 1))] [(0, (.many (fun j_ => some ⟨false, false, (.ints (W.gk j_) (G j_))⟩))), (1, (.one ⟨false, false, (.ints .u8 la)⟩)), (2, (.one ⟨false, false, (.ints .u8 lt)⟩)), (3, (.one ⟨false, false, (.ints .u8 lr)⟩))] 5 (.c (.bool (true))) [] [] :=
  Contract0.unkill pr_glob (Contract0.of_frun (res := (.c (.bool (true)))) (up := []) (kill := [0]) (n0 := 5) (m := [(0, (.many (fun j_ => some ⟨false, false, (.ints (W.gk j_) (G j_))⟩))), (1, (.one ⟨false, false, (.ints .u8 la)⟩)), (2, (.one ⟨false, false, (.ints .u8 lt)⟩)), (3, (.one ⟨false, false, (.ints .u8 lr)⟩))]) (args := [(.aggi .u8 k), (.aggi .u8 nn), (.c (.sl 1 0 oa na 1)), (.c (.sl 2 0 ot nt 1)), (.c (.int .i64 how)), (.c (.int .i64 at_)), (.c (.int .u8 by_)), (.c (.sl 3 0 o_ nr 1))]) (fn := Tryd.f5) (c := bodyOf Tryd.f5) (fuel := 300) (k := kOf Tryd.prog Tryd.f5) (outs := []) (hs := [(3, ⟨.ask, some (.aggi .u8 k)⟩), (4, ⟨.ask, some (.aggi .u8 nn)⟩), (7, ⟨.call [0, 1, 2] (.c (.sl 117 0 0 (nt + 16) 1)) [] [(117, (.one ⟨true, false, (.ints .u8 (W.box k nn (List.take na (List.drop oa la)) (List.take nt (List.drop ot lt))))⟩))], none⟩), (10, ⟨.call [] (.c (.int .i64 (↑(W.pick how 7)))) [] [], none⟩), (12, ⟨.auto, some (.c (.bool (false)))⟩), (15, ⟨.auto, some (.c (.bool (false)))⟩), (18, ⟨.auto, some (.c (.bool (false)))⟩), (21, ⟨.auto, some (.c (.bool (true)))⟩), (26, ⟨.ask, none⟩), (28, ⟨.ask, some (.aggi .u8 k)⟩), (29, ⟨.ask, some (.aggi .u8 nn)⟩), (32, ⟨.call [1, 357] (.tup [(.c (.sl 453 0 0 (nt + 17 - 16) 1)), (.c (.int .i64 0))]) [] [(453, (.one ⟨true, false, (.ints .u8 (W.apply k 1 nn (List.take (nt + 17 - 16) (List.take (nt + 16) (W.box k nn (List.take na (List.drop oa la)) (List.take nt (List.drop ot lt))) ++ [by_]))))⟩))], none⟩), (38, ⟨.ask, some (.aggi .u8 k)⟩), (39, ⟨.ask, some (.aggi .u8 nn)⟩), (42, ⟨.call [0, 1, 357] (.tup [(.c (.sl 613 0 0 (nt + 17 - 16) 1)), (.c (.int .i64 0))]) [] [(613, (.one ⟨true, false, (.ints .u8 (W.apply k 1 nn (List.take (nt + 17 - 16) (List.take (nt + 16) (W.box k nn (List.take na (List.drop oa la)) (List.take nt (List.drop ot lt))) ++ [by_]))))⟩))], none⟩), (48, ⟨.call [] (.c (.bool (true))) [] [], none⟩), (51, ⟨.ask, none⟩), (53, ⟨.ask, none⟩), (54, ⟨.ask, some (.c (.bool (true)))⟩), (59, ⟨.call [] (.c (.int .i64 0)) [] [], none⟩)])
    (cs := [Contract Tryd.prog 32 [(.c (.int .i64 0))] [] 885 (.c (.int .i64 0)) [] [],
      EB (ByteArray.toList { data := List.toArray (List.map (fun n => UInt8.ofNat (Int.toNat n)) (List.take (nt + 1) (List.drop 0 (W.apply k 1 nn (List.take (nt + 17 - 16) (List.take (nt + 16) (W.box k nn (List.take na (List.drop oa la)) (List.take nt (List.drop ot lt))) ++ [by_])))))) } == ByteArray.toList { data := List.toArray (List.map (fun n => UInt8.ofNat (Int.toNat n)) (List.take (nt + 1) (List.drop 0 (W.apply k 1 nn (List.take (nt + 17 - 16) (List.take (nt + 16) (W.box k nn (List.take na (List.drop oa la)) (List.take nt (List.drop ot lt))) ++ [by_])))))) }) true,
      ((0 : Nat) + (nt + (1 : Nat)) ≤ List.length (W.apply k (1 : Int) nn (List.take (nt + (17 : Nat) - (16 : Nat)) (List.take (nt + (16 : Nat)) (W.box k nn (List.take na (List.drop oa la)) (List.take nt (List.drop ot lt))) ++ [by_])))),
      ((0 : Nat) + (nt + (1 : Nat)) ≤ List.length (W.apply k (1 : Int) nn (List.take (nt + (17 : Nat) - (16 : Nat)) (List.take (nt + (16 : Nat)) (W.box k nn (List.take na (List.drop oa la)) (List.take nt (List.drop ot lt))) ++ [by_])))),
      Contract Tryd.prog 24 [] [] 709 (.c (.bool (true))) [] [],
      Contract Tryd.prog 31 [(.aggi .u8 k), (.aggi .u8 nn), (.c (.sl 1 0 oa na 1)), (.c (.sl 357 0 0 (nt + 17) 1))] [(0, (.many (fun j_ => some ⟨false, false, (.ints (W.gk j_) (G j_))⟩))), (1, (.one ⟨false, false, (.ints .u8 la)⟩)), (357, (.one ⟨true, false, (.ints .u8 (List.take (nt + 16) (W.box k nn (List.take na (List.drop oa la)) (List.take nt (List.drop ot lt))) ++ [by_]))⟩))] 613 (.tup [(.c (.sl 613 0 0 (nt + 17 - 16) 1)), (.c (.int .i64 0))]) [] [(613, (.one ⟨true, false, (.ints .u8 (W.apply k 1 nn (List.take (nt + 17 - 16) (List.take (nt + 16) (W.box k nn (List.take na (List.drop oa la)) (List.take nt (List.drop ot lt))) ++ [by_]))))⟩))],
      ((.aggi .u8 (List.take 12 nn)) : V) = (.aggi .u8 nn),
      ((12 : Nat) ≤ List.length nn),
      ((.aggi .u8 (List.take 32 k)) : V) = (.aggi .u8 k),
      ((32 : Nat) ≤ List.length k),
      Contract Tryd.prog 30 [(.aggi .u8 k), (.aggi .u8 nn), (.c (.sl 1 0 oa na 1)), (.c (.sl 357 0 0 (nt + 17) 1))] [(1, (.one ⟨false, false, (.ints .u8 la)⟩)), (357, (.one ⟨true, false, (.ints .u8 (List.take (nt + 16) (W.box k nn (List.take na (List.drop oa la)) (List.take nt (List.drop ot lt))) ++ [by_]))⟩))] 453 (.tup [(.c (.sl 453 0 0 (nt + 17 - 16) 1)), (.c (.int .i64 0))]) [] [(453, (.one ⟨true, false, (.ints .u8 (W.apply k 1 nn (List.take (nt + 17 - 16) (List.take (nt + 16) (W.box k nn (List.take na (List.drop oa la)) (List.take nt (List.drop ot lt))) ++ [by_]))))⟩))],
      ((.aggi .u8 (List.take 12 nn)) : V) = (.aggi .u8 nn),
      ((12 : Nat) ≤ List.length nn),
      ((.aggi .u8 (List.take 32 k)) : V) = (.aggi .u8 k),
      ((32 : Nat) ≤ List.length k),
      ((1 : Nat) ≤ (1 : Nat) ∧ (2 : Nat) * (nt + (16 : Nat) + (1 : Nat)) ≤ (4398046511104 : Nat) ∧ (0 : Nat) + (nt + (16 : Nat)) * (1 : Nat) ≤ List.length (W.box k nn (List.take na (List.drop oa la)) (List.take nt (List.drop ot lt)))),
      EB ((↑(W.pick how 7) : Int) == 3) true,
      EB ((↑(W.pick how 7) : Int) == 2) false,
      EB ((↑(W.pick how 7) : Int) == 1) false,
      EB ((↑(W.pick how 7) : Int) == 0) false,
      Contract Tryd.prog 29 [(.c (.int .i64 how)), (.c (.int .i64 7))] [] 165 (.c (.int .i64 (↑(W.pick how 7)))) [] [],
      Contract Tryd.prog 26 [(.aggi .u8 k), (.aggi .u8 nn), (.c (.sl 1 0 oa na 1)), (.c (.sl 2 0 ot nt 1))] [(0, (.many (fun j_ => some ⟨false, false, (.ints (W.gk j_) (G j_))⟩))), (1, (.one ⟨false, false, (.ints .u8 la)⟩)), (2, (.one ⟨false, false, (.ints .u8 lt)⟩))] 117 (.c (.sl 117 0 0 (nt + 16) 1)) [] [(117, (.one ⟨true, false, (.ints .u8 (W.box k nn (List.take na (List.drop oa la)) (List.take nt (List.drop ot lt))))⟩))],
      ((.aggi .u8 (List.take 12 nn)) : V) = (.aggi .u8 nn),
      ((12 : Nat) ≤ List.length nn),
      ((.aggi .u8 (List.take 32 k)) : V) = (.aggi .u8 k),
      ((32 : Nat) ≤ List.length k)])
    mixed Tryd.func5 (by kernel_rfl) (by kernel_rfl) (by kernel_rfl) (by kernel_rfl) (by kernel_rfl) ⟨Contract0.inst errno0 [] [none] [] [] (by kernel_rfl) (by kernel_rfl) (by kernel_rfl) (by kernel_rfl) (by kernel_rfl), .mk (strEq_t (by simp only [List.take_take, Nat.min_self, List.drop_zero])), (by simp only [lensD]; omega), (by simp only [lensD]; omega), Contract0.inst known6 [] [] [] [] (by kernel_rfl) (by kernel_rfl) (by kernel_rfl) (by kernel_rfl) (by kernel_rfl), Contract0.instG (ropen_o k nn la (List.take (nt + 16) (W.box k nn (List.take na (List.drop oa la)) (List.take nt (List.drop ot lt))) ++ [by_]) oa na 0 (nt + 17) G (by omega) (by omega) (by omega) (by omega) (by omega) (by omega) (by simp only [lensD]; omega) (by omega) (by omega) (by omega) (by omega) (by omega)) pr_glob [.b 1 1 true [], .b 357 2 true []] [none, none, none, none] [(4, 613)] [] rfl (by kernel_rfl) (by kernel_rfl) (by kernel_rfl) (by kernel_rfl) (by kernel_rfl), EV.aggi (List.take_of_length_le (by omega)), (by omega), EV.aggi (List.take_of_length_le (by omega)), (by omega), Contract0.inst (open_ok_ft k nn la (List.take (nt + 16) (W.box k nn (List.take na (List.drop oa la)) (List.take nt (List.drop ot lt))) ++ [by_]) oa na 0 (nt + 17) (by omega) (by omega) (by omega) (by simp only [lensD]; omega) (by omega) (by omega) (by omega) c4 (by omega) c5) [.b 1 1 true [], .b 357 2 true []] [none, none, none, none] [(3, 453)] [] (by kernel_rfl) (by kernel_rfl) (by kernel_rfl) (by kernel_rfl) (by kernel_rfl), EV.aggi (List.take_of_length_le (by omega)), (by omega), EV.aggi (List.take_of_length_le (by omega)), (by omega), (by simp only [lensD]; omega), .mk (beq_t h3), .mk (beq_f h2), .mk (beq_f h1), .mk (beq_f h0), Contract0.inst (pick_ok how 7 (by omega) (by omega)) [] [none, none] [] [] (by kernel_rfl) (by kernel_rfl) (by kernel_rfl) (by kernel_rfl) (by kernel_rfl), Contract0.instG (rseal_ok k nn la lt oa na ot nt G (by omega) (by omega) (by omega) (by omega) (by omega) (by omega) (by omega) (by omega) (by omega) (by omega)) pr_glob [.b 1 1 true [], .b 2 2 true []] [none, none, none, none] [(4, 117)] [] rfl (by kernel_rfl) (by kernel_rfl) (by kernel_rfl) (by kernel_rfl) (by kernel_rfl), EV.aggi (List.take_of_length_le (by omega)), (by omega), EV.aggi (List.take_of_length_le (by omega)), (by omega), trivial⟩)

theorem aeadOpens_fffftc0 (k nn la lt lr : List Int) (oa na ot nt o_ nr : Nat) (how at_ by_ : Int) (G : Nat → List Int)
    (hk : k.length = 32)
    (hnn : nn.length = 12)
    (hkb : W.bytes k)
    (hnb : W.bytes nn)
    (hG : G 2 = W.rows)
    (hla : oa + na ≤ la.length)
    (hlt : ot + nt ≤ lt.length)
    (hs : na + nt ≤ 1900000)
    (hba : W.bytes la)
    (hbt : W.bytes lt)
    (hlr : o_ + nr ≤ lr.length)
    (hs2 : na + nr ≤ 1900000)
    (hbr : W.bytes lr)
    (hho : -9223372036854775808 ≤ how ∧ how < 9223372036854775808)
    (hat : -9223372036854775808 ≤ at_ ∧ at_ < 9223372036854775808)
    (hby : 0 ≤ by_ ∧ by_ < 256)
    (hp7 : (W.pick how 7 : Int) < 7)
    (hp1 : (W.pick at_ ((nt + 16 : Nat) : Int) : Int) < ((nt + 16 : Nat) : Int))
    (hp2 : (W.pick at_ ((nt + 16 + 1 : Nat) : Int) : Int) < ((nt + 16 + 1 : Nat) : Int))
    (hp3 : (W.pick at_ 32 : Int) < 32)
    (hp4 : (W.pick at_ 12 : Int) < 12)
    (h0 : (¬(↑(W.pick how (7 : Int)) : Int) = (0 : Int)))
    (h1 : (¬(↑(W.pick how (7 : Int)) : Int) = (1 : Int)))
    (h2 : (¬(↑(W.pick how (7 : Int)) : Int) = (2 : Int)))
    (h3 : (¬(↑(W.pick how (7 : Int)) : Int) = (3 : Int)))
    (h4 : ((↑(W.pick how (7 : Int)) : Int) = (4 : Int)))
    (c5 : (¬List.take (16 : Nat) (List.drop ((0 : Nat) + (nt + (16 : Nat) - (16 : Nat))) (W.box k nn (List.take na (List.drop oa la)) (List.take nt (List.drop ot lt)))) = List.take (16 : Nat) (W.boxTag (splice k (W.pick at_ (32 : Int)) [bXor IntKind.u8 (List.getD k (W.pick at_ (32 : Int)) (0 : Int)) by_]) nn (List.take na (List.drop oa la)) (List.take (nt + (16 : Nat) - (16 : Nat)) (List.drop (0 : Nat) (W.box k nn (List.take na (List.drop oa la)) (List.take nt (List.drop ot lt)))))))) :
    Contract0 Tryd.prog 5 [(.aggi .u8 k), (.aggi .u8 nn), (.c (.sl 1 0 oa na 1)), (.c (.sl 2 0 ot nt 1)), (.c (.int .i64 how)), (.c (.int .i64 at_)), (.c (.int .u8 by_)), (.c (.sl 3 0 o_ nr 1))] [(0, (.many (fun j_ => some ⟨false, false, (.ints (W.gk j_) (G j_))⟩))), (1, (.one ⟨false, false, (.ints .u8 la)⟩)), (2, (.one ⟨false, false, (.ints .u8 lt)⟩)), (3, (.one ⟨false, false, (.ints .u8 lr)⟩))] 5 (.c (.bool (true))) [] [] :=
  Contract0.unkill pr_glob (Contract0.of_frun (res := (.c (.bool (true)))) (up := []) (kill := [0]) (n0 := 5) (m := [(0, (.many (fun j_ => some ⟨false, false, (.ints (W.gk j_) (G j_))⟩))), (1, (.one ⟨false, false, (.ints .u8 la)⟩)), (2, (.one ⟨false, false, (.ints .u8 lt)⟩)), (3, (.one ⟨false, false, (.ints .u8 lr)⟩))]) (args := [(.aggi .u8 k), (.aggi .u8 nn), (.c (.sl 1 0 oa na 1)), (.c (.sl 2 0 ot nt 1)), (.c (.int .i64 how)), (.c (.int .i64 at_)), (.c (.int .u8 by_)), (.c (.sl 3 0 o_ nr 1))]) (fn := Tryd.f5) (c := bodyOf Tryd.f5) (fuel := 300) (k := kOf Tryd.prog Tryd.f5) (outs := []) (hs := [(3, ⟨.ask, some (.aggi .u8 k)⟩), (4, ⟨.ask, some (.aggi .u8 nn)⟩), (7, ⟨.call [0, 1, 2] (.c (.sl 117 0 0 (nt + 16) 1)) [] [(117, (.one ⟨true, false, (.ints .u8 (W.box k nn (List.take na (List.drop oa la)) (List.take nt (List.drop ot lt))))⟩))], none⟩), (10, ⟨.call [] (.c (.int .i64 (↑(W.pick how 7)))) [] [], none⟩), (12, ⟨.auto, some (.c (.bool (false)))⟩), (15, ⟨.auto, some (.c (.bool (false)))⟩), (18, ⟨.auto, some (.c (.bool (false)))⟩), (21, ⟨.auto, some (.c (.bool (false)))⟩), (24, ⟨.auto, some (.c (.bool (true)))⟩), (27, ⟨.call [] (.c (.int .i64 (↑(W.pick at_ 32)))) [] [], none⟩), (28, ⟨.ask, none⟩), (29, ⟨.ask, none⟩), (32, ⟨.ask, none⟩), (33, ⟨.ask, none⟩), (34, ⟨.ask, some (.aggi .u8 (splice k (W.pick at_ 32) [bXor IntKind.u8 (List.getD k (W.pick at_ 32) 0) by_]))⟩), (35, ⟨.ask, some (.aggi .u8 nn)⟩), (38, ⟨.call [1, 117] (.tup [(.c .nils), (.c (.int .i64 8))]) [] [], none⟩), (44, ⟨.ask, some (.aggi .u8 (splice k (W.pick at_ 32) [bXor IntKind.u8 (List.getD k (W.pick at_ 32) 0) by_]))⟩), (45, ⟨.ask, some (.aggi .u8 nn)⟩), (48, ⟨.call [0, 1, 117] (.tup [(.c .nils), (.c (.int .i64 2))]) [] [], none⟩), (54, ⟨.call [] (.c (.bool (true))) [] [], none⟩), (65, ⟨.call [] (.c (.int .i64 8)) [] [], none⟩)])
    (cs := [Contract Tryd.prog 32 [(.c (.int .i64 2))] [] 965 (.c (.int .i64 8)) [] [],
      Contract Tryd.prog 24 [] [] 789 (.c (.bool (true))) [] [],
      Contract Tryd.prog 31 [(.aggi .u8 (splice k (W.pick at_ 32) [bXor IntKind.u8 (List.getD k (W.pick at_ 32) 0) by_])), (.aggi .u8 nn), (.c (.sl 1 0 oa na 1)), (.c (.sl 117 0 0 (nt + 16) 1))] [(0, (.many (fun j_ => some ⟨false, false, (.ints (W.gk j_) (G j_))⟩))), (1, (.one ⟨false, false, (.ints .u8 la)⟩)), (117, (.one ⟨true, false, (.ints .u8 (W.box k nn (List.take na (List.drop oa la)) (List.take nt (List.drop ot lt))))⟩))] 693 (.tup [(.c .nils), (.c (.int .i64 2))]) [] [],
      ((.aggi .u8 (List.take 12 nn)) : V) = (.aggi .u8 nn),
      ((12 : Nat) ≤ List.length nn),
      ((.aggi .u8 (List.take 32 (splice k (W.pick at_ 32) [bXor IntKind.u8 (List.getD k (W.pick at_ 32) 0) by_]))) : V) = (.aggi .u8 (splice k (W.pick at_ 32) [bXor IntKind.u8 (List.getD k (W.pick at_ 32) 0) by_])),
      ((32 : Nat) ≤ List.length (splice k (W.pick at_ (32 : Int)) [bXor IntKind.u8 (List.getD k (W.pick at_ (32 : Int)) (0 : Int)) by_])),
      Contract Tryd.prog 30 [(.aggi .u8 (splice k (W.pick at_ 32) [bXor IntKind.u8 (List.getD k (W.pick at_ 32) 0) by_])), (.aggi .u8 nn), (.c (.sl 1 0 oa na 1)), (.c (.sl 117 0 0 (nt + 16) 1))] [(1, (.one ⟨false, false, (.ints .u8 la)⟩)), (117, (.one ⟨true, false, (.ints .u8 (W.box k nn (List.take na (List.drop oa la)) (List.take nt (List.drop ot lt))))⟩))] 533 (.tup [(.c .nils), (.c (.int .i64 8))]) [] [],
      ((.aggi .u8 (List.take 12 nn)) : V) = (.aggi .u8 nn),
      ((12 : Nat) ≤ List.length nn),
      ((.aggi .u8 (List.take 32 (splice k (W.pick at_ 32) [bXor IntKind.u8 (List.getD k (W.pick at_ 32) 0) by_]))) : V) = (.aggi .u8 (splice k (W.pick at_ 32) [bXor IntKind.u8 (List.getD k (W.pick at_ 32) 0) by_])),
      ((32 : Nat) ≤ List.length (splice k (W.pick at_ (32 : Int)) [bXor IntKind.u8 (List.getD k (W.pick at_ (32 : Int)) (0 : Int)) by_])),
      (W.pick at_ (32 : Int) + (1 : Nat) ≤ List.length k ∧ (1 : Nat) = (1 : Nat)),
      ((0 : Int) ≤ (↑(W.pick at_ (32 : Int)) : Int) ∧ (↑(W.pick at_ (32 : Int)) : Int) < (32 : Int)),
      (W.pick at_ (32 : Int) + (1 : Nat) ≤ List.length k),
      ((0 : Int) ≤ (↑(W.pick at_ (32 : Int)) : Int) ∧ (↑(W.pick at_ (32 : Int)) : Int) < (32 : Int)),
      Contract Tryd.prog 29 [(.c (.int .i64 at_)), (.c (.int .i64 32))] [] 357 (.c (.int .i64 (↑(W.pick at_ 32)))) [] [],
      EB ((↑(W.pick how 7) : Int) == 4) true,
      EB ((↑(W.pick how 7) : Int) == 3) false,
      EB ((↑(W.pick how 7) : Int) == 2) false,
      EB ((↑(W.pick how 7) : Int) == 1) false,
      EB ((↑(W.pick how 7) : Int) == 0) false,
      Contract Tryd.prog 29 [(.c (.int .i64 how)), (.c (.int .i64 7))] [] 165 (.c (.int .i64 (↑(W.pick how 7)))) [] [],
      Contract Tryd.prog 26 [(.aggi .u8 k), (.aggi .u8 nn), (.c (.sl 1 0 oa na 1)), (.c (.sl 2 0 ot nt 1))] [(0, (.many (fun j_ => some ⟨false, false, (.ints (W.gk j_) (G j_))⟩))), (1, (.one ⟨false, false, (.ints .u8 la)⟩)), (2, (.one ⟨false, false, (.ints .u8 lt)⟩))] 117 (.c (.sl 117 0 0 (nt + 16) 1)) [] [(117, (.one ⟨true, false, (.ints .u8 (W.box k nn (List.take na (List.drop oa la)) (List.take nt (List.drop ot lt))))⟩))],
      ((.aggi .u8 (List.take 12 nn)) : V) = (.aggi .u8 nn),
      ((12 : Nat) ≤ List.length nn),
      ((.aggi .u8 (List.take 32 k)) : V) = (.aggi .u8 k),
      ((32 : Nat) ≤ List.length k)])
    mixed Tryd.func5 (by kernel_rfl) (by kernel_rfl) (by kernel_rfl) (by kernel_rfl) (by kernel_rfl) ⟨Contract0.inst errno2 [] [none] [] [] (by kernel_rfl) (by kernel_rfl) (by kernel_rfl) (by kernel_rfl) (by kernel_rfl), Contract0.inst known6 [] [] [] [] (by kernel_rfl) (by kernel_rfl) (by kernel_rfl) (by kernel_rfl) (by kernel_rfl), Contract0.instG (ropen_w (splice k (W.pick at_ 32) [bXor IntKind.u8 (List.getD k (W.pick at_ 32) 0) by_]) nn la (W.box k nn (List.take na (List.drop oa la)) (List.take nt (List.drop ot lt))) oa na 0 (nt + 16) G (by rw [splice_len1]; assumption) (by omega) (by exact W.bytes_splice hkb W.bXor_byte) (by omega) (by omega) (by omega) (by simp only [lensD]; omega) (by omega) (by omega) (by exact W.box_bytes) (by omega) (by omega)) pr_glob [.b 1 1 true [], .b 117 2 true []] [none, none, none, none] [] [] rfl (by kernel_rfl) (by kernel_rfl) (by kernel_rfl) (by kernel_rfl) (by kernel_rfl), EV.aggi (List.take_of_length_le (by omega)), (by omega), EV.aggi (List.take_of_length_le (by simp only [lensD]; omega)), (by simp only [lensD]; omega), Contract0.inst (open_ok_ff (splice k (W.pick at_ 32) [bXor IntKind.u8 (List.getD k (W.pick at_ 32) 0) by_]) nn la (W.box k nn (List.take na (List.drop oa la)) (List.take nt (List.drop ot lt))) oa na 0 (nt + 16) (by rw [splice_len1]; assumption) (by omega) (by omega) (by simp only [lensD]; omega) (by omega) (by omega) (by omega) (by exact W.box_bytes) (by omega) c5) [.b 1 1 true [], .b 117 2 true []] [none, none, none, none] [] [] (by kernel_rfl) (by kernel_rfl) (by kernel_rfl) (by kernel_rfl) (by kernel_rfl), EV.aggi (List.take_of_length_le (by omega)), (by omega), EV.aggi (List.take_of_length_le (by simp only [lensD]; omega)), (by simp only [lensD]; omega), (by omega), (by omega), (by omega), (by omega), Contract0.inst (pick_ok at_ 32 (by omega) (by omega)) [] [none, none] [] [] (by kernel_rfl) (by kernel_rfl) (by kernel_rfl) (by kernel_rfl) (by kernel_rfl), .mk (beq_t h4), .mk (beq_f h3), .mk (beq_f h2), .mk (beq_f h1), .mk (beq_f h0), Contract0.inst (pick_ok how 7 (by omega) (by omega)) [] [none, none] [] [] (by kernel_rfl) (by kernel_rfl) (by kernel_rfl) (by kernel_rfl) (by kernel_rfl), Contract0.instG (rseal_ok k nn la lt oa na ot nt G (by omega) (by omega) (by omega) (by omega) (by omega) (by omega) (by omega) (by omega) (by omega) (by omega)) pr_glob [.b 1 1 true [], .b 2 2 true []] [none, none, none, none] [(4, 117)] [] rfl (by kernel_rfl) (by kernel_rfl) (by kernel_rfl) (by kernel_rfl) (by kernel_rfl), EV.aggi (List.take_of_length_le (by omega)), (by omega), EV.aggi (List.take_of_length_le (by omega)), (by omega), trivial⟩)

theorem aeadOpens_fffftc1 (k nn la lt lr : List Int) (oa na ot nt o_ nr : Nat) (how at_ by_ : Int) (G : Nat → List Int)
    (hk : k.length = 32)
    (hnn : nn.length = 12)
    (hkb : W.bytes k)
    (hnb : W.bytes nn)
    (hG : G 2 = W.rows)
    (hla : oa + na ≤ la.length)
    (hlt : ot + nt ≤ lt.length)
    (hs : na + nt ≤ 1900000)
    (hba : W.bytes la)
    (hbt : W.bytes lt)
    (hlr : o_ + nr ≤ lr.length)
    (hs2 : na + nr ≤ 1900000)
    (hbr : W.bytes lr)
    (hho : -9223372036854775808 ≤ how ∧ how < 9223372036854775808)
    (hat : -9223372036854775808 ≤ at_ ∧ at_ < 9223372036854775808)
    (hby : 0 ≤ by_ ∧ by_ < 256)
    (hp7 : (W.pick how 7 : Int) < 7)
    (hp1 : (W.pick at_ ((nt + 16 : Nat) : Int) : Int) < ((nt + 16 : Nat) : Int))
    (hp2 : (W.pick at_ ((nt + 16 + 1 : Nat) : Int) : Int) < ((nt + 16 + 1 : Nat) : Int))
    (hp3 : (W.pick at_ 32 : Int) < 32)
    (hp4 : (W.pick at_ 12 : Int) < 12)
    (h0 : (¬(↑(W.pick how (7 : Int)) : Int) = (0 : Int)))
    (h1 : (¬(↑(W.pick how (7 : Int)) : Int) = (1 : Int)))
    (h2 : (¬(↑(W.pick how (7 : Int)) : Int) = (2 : Int)))
    (h3 : (¬(↑(W.pick how (7 : Int)) : Int) = (3 : Int)))
    (h4 : ((↑(W.pick how (7 : Int)) : Int) = (4 : Int)))
    (c5 : (List.take (16 : Nat) (List.drop ((0 : Nat) + (nt + (16 : Nat) - (16 : Nat))) (W.box k nn (List.take na (List.drop oa la)) (List.take nt (List.drop ot lt)))) = List.take (16 : Nat) (W.boxTag (splice k (W.pick at_ (32 : Int)) [bXor IntKind.u8 (List.getD k (W.pick at_ (32 : Int)) (0 : Int)) by_]) nn (List.take na (List.drop oa la)) (List.take (nt + (16 : Nat) - (16 : Nat)) (List.drop (0 : Nat) (W.box k nn (List.take na (List.drop oa la)) (List.take nt (List.drop ot lt)))))))) :
    Contract0 Tryd.prog 5 [(.aggi .u8 k), (.aggi .u8 nn), (.c (.sl 1 0 oa na 1)), (.c (.sl 2 0 ot nt 1)), (.c (.int .i64 how)), (.c (.int .i64 at_)), (.c (.int .u8 by_)), (.c (.sl 3 0 o_ nr 1))] [(0, (.many (fun j_ => some ⟨false, false, (.ints (W.gk j_) (G j_))⟩))), (1, (.one ⟨false, false, (.ints .u8 la)⟩)), (2, (.one ⟨false, false, (.ints .u8 lt)⟩)), (3, (.one ⟨false, false, (.ints .u8 lr)⟩))] 5 (.c (.bool (true))) [] [] :=
  Contract0.unkill pr_glob (Contract0.of_frun (res := (.c (.bool (true)))) (up := []) (kill := [0]) (n0 := 5) (m := [(0, (.many (fun j_ => some ⟨false, false, (.ints (W.gk j_) (G j_))⟩))), (1, (.one ⟨false, false, (.ints .u8 la)⟩)), (2, (.one ⟨false, false, (.ints .u8 lt)⟩)), (3, (.one ⟨false, false, (.ints .u8 lr)⟩))]) (args := [(.aggi .u8 k), (.aggi .u8 nn), (.c (.sl 1 0 oa na 1)), (.c (.sl 2 0 ot nt 1)), (.c (.int .i64 how)), (.c (.int .i64 at_)), (.c (.int .u8 by_)), (.c (.sl 3 0 o_ nr 1))]) (fn := Tryd.f5) (c := bodyOf Tryd.f5) (fuel := 300) (k := kOf Tryd.prog Tryd.f5) (outs := []) (hs := [(3, ⟨.ask, some (.aggi .u8 k)⟩), (4, ⟨.ask, some (.aggi .u8 nn)⟩), (7, ⟨.call [0, 1, 2] (.c (.sl 117 0 0 (nt + 16) 1)) [] [(117, (.one ⟨true, false, (.ints .u8 (W.box k nn (List.take na (List.drop oa la)) (List.take nt (List.drop ot lt))))⟩))], none⟩), (10, ⟨.call [] (.c (.int .i64 (↑(W.pick how 7)))) [] [], none⟩), (12, ⟨.auto, some (.c (.bool (false)))⟩), (15, ⟨.auto, some (.c (.bool (false)))⟩), (18, ⟨.auto, some (.c (.bool (false)))⟩), (21, ⟨.auto, some (.c (.bool (false)))⟩), (24, ⟨.auto, some (.c (.bool (true)))⟩), (27, ⟨.call [] (.c (.int .i64 (↑(W.pick at_ 32)))) [] [], none⟩), (28, ⟨.ask, none⟩), (29, ⟨.ask, none⟩), (32, ⟨.ask, none⟩), (33, ⟨.ask, none⟩), (34, ⟨.ask, some (.aggi .u8 (splice k (W.pick at_ 32) [bXor IntKind.u8 (List.getD k (W.pick at_ 32) 0) by_]))⟩), (35, ⟨.ask, some (.aggi .u8 nn)⟩), (38, ⟨.call [1, 117] (.tup [(.c (.sl 533 0 0 nt 1)), (.c (.int .i64 0))]) [] [(533, (.one ⟨true, false, (.ints .u8 (W.apply (splice k (W.pick at_ 32) [bXor IntKind.u8 (List.getD k (W.pick at_ 32) 0) by_]) 1 nn (List.take (nt + 16 - 16) (W.box k nn (List.take na (List.drop oa la)) (List.take nt (List.drop ot lt))))))⟩))], none⟩), (44, ⟨.ask, some (.aggi .u8 (splice k (W.pick at_ 32) [bXor IntKind.u8 (List.getD k (W.pick at_ 32) 0) by_]))⟩), (45, ⟨.ask, some (.aggi .u8 nn)⟩), (48, ⟨.call [0, 1, 117] (.tup [(.c (.sl 693 0 0 nt 1)), (.c (.int .i64 0))]) [] [(693, (.one ⟨true, false, (.ints .u8 (W.apply (splice k (W.pick at_ 32) [bXor IntKind.u8 (List.getD k (W.pick at_ 32) 0) by_]) 1 nn (List.take (nt + 16 - 16) (W.box k nn (List.take na (List.drop oa la)) (List.take nt (List.drop ot lt))))))⟩))], none⟩), (54, ⟨.call [] (.c (.bool (true))) [] [], none⟩), (57, ⟨.ask, none⟩), (59, ⟨.ask, none⟩), (60, ⟨.ask, some (.c (.bool (true)))⟩), (65, ⟨.call [] (.c (.int .i64 0)) [] [], none⟩)])
    (cs := [Contract Tryd.prog 32 [(.c (.int .i64 0))] [] 965 (.c (.int .i64 0)) [] [],
      EB (ByteArray.toList { data := List.toArray (List.map (fun n => UInt8.ofNat (Int.toNat n)) (List.take nt (List.drop 0 (W.apply (splice k (W.pick at_ 32) [bXor IntKind.u8 (List.getD k (W.pick at_ 32) 0) by_]) 1 nn (List.take (nt + 16 - 16) (W.box k nn (List.take na (List.drop oa la)) (List.take nt (List.drop ot lt)))))))) } == ByteArray.toList { data := List.toArray (List.map (fun n => UInt8.ofNat (Int.toNat n)) (List.take nt (List.drop 0 (W.apply (splice k (W.pick at_ 32) [bXor IntKind.u8 (List.getD k (W.pick at_ 32) 0) by_]) 1 nn (List.take (nt + 16 - 16) (W.box k nn (List.take na (List.drop oa la)) (List.take nt (List.drop ot lt)))))))) }) true,
      ((0 : Nat) + nt ≤ List.length (W.apply (splice k (W.pick at_ (32 : Int)) [bXor IntKind.u8 (List.getD k (W.pick at_ (32 : Int)) (0 : Int)) by_]) (1 : Int) nn (List.take (nt + (16 : Nat) - (16 : Nat)) (W.box k nn (List.take na (List.drop oa la)) (List.take nt (List.drop ot lt)))))),
      ((0 : Nat) + nt ≤ List.length (W.apply (splice k (W.pick at_ (32 : Int)) [bXor IntKind.u8 (List.getD k (W.pick at_ (32 : Int)) (0 : Int)) by_]) (1 : Int) nn (List.take (nt + (16 : Nat) - (16 : Nat)) (W.box k nn (List.take na (List.drop oa la)) (List.take nt (List.drop ot lt)))))),
      Contract Tryd.prog 24 [] [] 789 (.c (.bool (true))) [] [],
      Contract Tryd.prog 31 [(.aggi .u8 (splice k (W.pick at_ 32) [bXor IntKind.u8 (List.getD k (W.pick at_ 32) 0) by_])), (.aggi .u8 nn), (.c (.sl 1 0 oa na 1)), (.c (.sl 117 0 0 (nt + 16) 1))] [(0, (.many (fun j_ => some ⟨false, false, (.ints (W.gk j_) (G j_))⟩))), (1, (.one ⟨false, false, (.ints .u8 la)⟩)), (117, (.one ⟨true, false, (.ints .u8 (W.box k nn (List.take na (List.drop oa la)) (List.take nt (List.drop ot lt))))⟩))] 693 (.tup [(.c (.sl 693 0 0 nt 1)), (.c (.int .i64 0))]) [] [(693, (.one ⟨true, false, (.ints .u8 (W.apply (splice k (W.pick at_ 32) [bXor IntKind.u8 (List.getD k (W.pick at_ 32) 0) by_]) 1 nn (List.take (nt + 16 - 16) (W.box k nn (List.take na (List.drop oa la)) (List.take nt (List.drop ot lt))))))⟩))],
      ((.aggi .u8 (List.take 12 nn)) : V) = (.aggi .u8 nn),
      ((12 : Nat) ≤ List.length nn),
      ((.aggi .u8 (List.take 32 (splice k (W.pick at_ 32) [bXor IntKind.u8 (List.getD k (W.pick at_ 32) 0) by_]))) : V) = (.aggi .u8 (splice k (W.pick at_ 32) [bXor IntKind.u8 (List.getD k (W.pick at_ 32) 0) by_])),
      ((32 : Nat) ≤ List.length (splice k (W.pick at_ (32 : Int)) [bXor IntKind.u8 (List.getD k (W.pick at_ (32 : Int)) (0 : Int)) by_])),
      Contract Tryd.prog 30 [(.aggi .u8 (splice k (W.pick at_ 32) [bXor IntKind.u8 (List.getD k (W.pick at_ 32) 0) by_])), (.aggi .u8 nn), (.c (.sl 1 0 oa na 1)), (.c (.sl 117 0 0 (nt + 16) 1))] [(1, (.one ⟨false, false, (.ints .u8 la)⟩)), (117, (.one ⟨true, false, (.ints .u8 (W.box k nn (List.take na (List.drop oa la)) (List.take nt (List.drop ot lt))))⟩))] 533 (.tup [(.c (.sl 533 0 0 nt 1)), (.c (.int .i64 0))]) [] [(533, (.one ⟨true, false, (.ints .u8 (W.apply (splice k (W.pick at_ 32) [bXor IntKind.u8 (List.getD k (W.pick at_ 32) 0) by_]) 1 nn (List.take (nt + 16 - 16) (W.box k nn (List.take na (List.drop oa la)) (List.take nt (List.drop ot lt))))))⟩))],
      ((.aggi .u8 (List.take 12 nn)) : V) = (.aggi .u8 nn),
      ((12 : Nat) ≤ List.length nn),
      ((.aggi .u8 (List.take 32 (splice k (W.pick at_ 32) [bXor IntKind.u8 (List.getD k (W.pick at_ 32) 0) by_]))) : V) = (.aggi .u8 (splice k (W.pick at_ 32) [bXor IntKind.u8 (List.getD k (W.pick at_ 32) 0) by_])),
      ((32 : Nat) ≤ List.length (splice k (W.pick at_ (32 : Int)) [bXor IntKind.u8 (List.getD k (W.pick at_ (32 : Int)) (0 : Int)) by_])),
      (W.pick at_ (32 : Int) + (1 : Nat) ≤ List.length k ∧ (1 : Nat) = (1 : Nat)),
      ((0 : Int) ≤ (↑(W.pick at_ (32 : Int)) : Int) ∧ (↑(W.pick at_ (32 : Int)) : Int) < (32 : Int)),
      (W.pick at_ (32 : Int) + (1 : Nat) ≤ List.length k),
      ((0 : Int) ≤ (↑(W.pick at_ (32 : Int)) : Int) ∧ (↑(W.pick at_ (32 : Int)) : Int) < (32 : Int)),
      Contract Tryd.prog 29 [(.c (.int .i64 at_)), (.c (.int .i64 32))] [] 357 (.c (.int .i64 (↑(W.pick at_ 32)))) [] [],
      EB ((↑(W.pick how 7) : Int) == 4) true,
      EB ((↑(W.pick how 7) : Int) == 3) false,
      EB ((↑(W.pick how 7) : Int) == 2) false,
      EB ((↑(W.pick how 7) : Int) == 1) false,
      EB ((↑(W.pick how 7) : Int) == 0) false,
      Contract Tryd.prog 29 [(.c (.int .i64 how)), (.c (.int .i64 7))] [] 165 (.c (.int .i64 (↑(W.pick how 7)))) [] [],
      Contract Tryd.prog 26 [(.aggi .u8 k), (.aggi .u8 nn), (.c (.sl 1 0 oa na 1)), (.c (.sl 2 0 ot nt 1))] [(0, (.many (fun j_ => some ⟨false, false, (.ints (W.gk j_) (G j_))⟩))), (1, (.one ⟨false, false, (.ints .u8 la)⟩)), (2, (.one ⟨false, false, (.ints .u8 lt)⟩))] 117 (.c (.sl 117 0 0 (nt + 16) 1)) [] [(117, (.one ⟨true, false, (.ints .u8 (W.box k nn (List.take na (List.drop oa la)) (List.take nt (List.drop ot lt))))⟩))],
      ((.aggi .u8 (List.take 12 nn)) : V) = (.aggi .u8 nn),
      ((12 : Nat) ≤ List.length nn),
      ((.aggi .u8 (List.take 32 k)) : V) = (.aggi .u8 k),
      ((32 : Nat) ≤ List.length k)])
    mixed Tryd.func5 (by kernel_rfl) (by kernel_rfl) (by kernel_rfl) (by kernel_rfl) (by kernel_rfl) ⟨Contract0.inst errno0 [] [none] [] [] (by kernel_rfl) (by kernel_rfl) (by kernel_rfl) (by kernel_rfl) (by kernel_rfl), .mk (strEq_t (by simp only [List.take_take, Nat.min_self, List.drop_zero])), (by simp only [lensD]; omega), (by simp only [lensD]; omega), Contract0.inst known6 [] [] [] [] (by kernel_rfl) (by kernel_rfl) (by kernel_rfl) (by kernel_rfl) (by kernel_rfl), Contract0.instG (ropen_o (splice k (W.pick at_ 32) [bXor IntKind.u8 (List.getD k (W.pick at_ 32) 0) by_]) nn la (W.box k nn (List.take na (List.drop oa la)) (List.take nt (List.drop ot lt))) oa na 0 (nt + 16) G (by rw [splice_len1]; assumption) (by omega) (by exact W.bytes_splice hkb W.bXor_byte) (by omega) (by omega) (by omega) (by simp only [lensD]; omega) (by omega) (by omega) (by exact W.box_bytes) (by omega) (by omega)) pr_glob [.b 1 1 true [], .b 117 2 true []] [none, none, none, none] [(4, 693)] [] rfl (by kernel_rfl) (by kernel_rfl) (by kernel_rfl) (by kernel_rfl) (by kernel_rfl), EV.aggi (List.take_of_length_le (by omega)), (by omega), EV.aggi (List.take_of_length_le (by simp only [lensD]; omega)), (by simp only [lensD]; omega), Contract0.inst (open_ok_ft (splice k (W.pick at_ 32) [bXor IntKind.u8 (List.getD k (W.pick at_ 32) 0) by_]) nn la (W.box k nn (List.take na (List.drop oa la)) (List.take nt (List.drop ot lt))) oa na 0 (nt + 16) (by rw [splice_len1]; assumption) (by omega) (by omega) (by simp only [lensD]; omega) (by omega) (by omega) (by omega) (by exact W.box_bytes) (by omega) c5) [.b 1 1 true [], .b 117 2 true []] [none, none, none, none] [(3, 533)] [] (by kernel_rfl) (by kernel_rfl) (by kernel_rfl) (by kernel_rfl) (by kernel_rfl), EV.aggi (List.take_of_length_le (by omega)), (by omega), EV.aggi (List.take_of_length_le (by simp only [lensD]; omega)), (by simp only [lensD]; omega), (by omega), (by omega), (by omega), (by omega), Contract0.inst (pick_ok at_ 32 (by omega) (by omega)) [] [none, none] [] [] (by kernel_rfl) (by kernel_rfl) (by kernel_rfl) (by kernel_rfl) (by kernel_rfl), .mk (beq_t h4), .mk (beq_f h3), .mk (beq_f h2), .mk (beq_f h1), .mk (beq_f h0), Contract0.inst (pick_ok how 7 (by omega) (by omega)) [] [none, none] [] [] (by kernel_rfl) (by kernel_rfl) (by kernel_rfl) (by kernel_rfl) (by kernel_rfl), Contract0.instG (rseal_ok k nn la lt oa na ot nt G (by omega) (by omega) (by omega) (by omega) (by omega) (by omega) (by omega) (by omega) (by omega) (by omega)) pr_glob [.b 1 1 true [], .b 2 2 true []] [none, none, none, none] [(4, 117)] [] rfl (by kernel_rfl) (by kernel_rfl) (by kernel_rfl) (by kernel_rfl) (by kernel_rfl), EV.aggi (List.take_of_length_le (by omega)), (by omega), EV.aggi (List.take_of_length_le (by omega)), (by omega), trivial⟩)

theorem aeadOpens_ffffftc0 (k nn la lt lr : List Int) (oa na ot nt o_ nr : Nat) (how at_ by_ : Int) (G : Nat → List Int)
    (hk : k.length = 32)
    (hnn : nn.length = 12)
    (hkb : W.bytes k)
    (hnb : W.bytes nn)
    (hG : G 2 = W.rows)
    (hla : oa + na ≤ la.length)
    (hlt : ot + nt ≤ lt.length)
    (hs : na + nt ≤ 1900000)
    (hba : W.bytes la)
    (hbt : W.bytes lt)
    (hlr : o_ + nr ≤ lr.length)
    (hs2 : na + nr ≤ 1900000)
    (hbr : W.bytes lr)
    (hho : -9223372036854775808 ≤ how ∧ how < 9223372036854775808)
    (hat : -9223372036854775808 ≤ at_ ∧ at_ < 9223372036854775808)
    (hby : 0 ≤ by_ ∧ by_ < 256)
    (hp7 : (W.pick how 7 : Int) < 7)
    (hp1 : (W.pick at_ ((nt + 16 : Nat) : Int) : Int) < ((nt + 16 : Nat) : Int))
    (hp2 : (W.pick at_ ((nt + 16 + 1 : Nat) : Int) : Int) < ((nt + 16 + 1 : Nat) : Int))
    (hp3 : (W.pick at_ 32 : Int) < 32)
    (hp4 : (W.pick at_ 12 : Int) < 12)
    (h0 : (¬(↑(W.pick how (7 : Int)) : Int) = (0 : Int)))
    (h1 : (¬(↑(W.pick how (7 : Int)) : Int) = (1 : Int)))
    (h2 : (¬(↑(W.pick how (7 : Int)) : Int) = (2 : Int)))
    (h3 : (¬(↑(W.pick how (7 : Int)) : Int) = (3 : Int)))
    (h4 : (¬(↑(W.pick how (7 : Int)) : Int) = (4 : Int)))
    (h5 : ((↑(W.pick how (7 : Int)) : Int) = (5 : Int)))
    (c6 : (¬List.take (16 : Nat) (List.drop ((0 : Nat) + (nt + (16 : Nat) - (16 : Nat))) (W.box k nn (List.take na (List.drop oa la)) (List.take nt (List.drop ot lt)))) = List.take (16 : Nat) (W.boxTag k (splice nn (W.pick at_ (12 : Int)) [bXor IntKind.u8 (List.getD nn (W.pick at_ (12 : Int)) (0 : Int)) by_]) (List.take na (List.drop oa la)) (List.take (nt + (16 : Nat) - (16 : Nat)) (List.drop (0 : Nat) (W.box k nn (List.take na (List.drop oa la)) (List.take nt (List.drop ot lt)))))))) :
    Contract0 Tryd.prog 5 [(.aggi .u8 k), (.aggi .u8 nn), (.c (.sl 1 0 oa na 1)), (.c (.sl 2 0 ot nt 1)), (.c (.int .i64 how)), (.c (.int .i64 at_)), (.c (.int .u8 by_)), (.c (.sl 3 0 o_ nr 1))] [(0, (.many (fun j_ => some ⟨false, false, (.ints (W.gk j_) (G j_))⟩))), (1, (.one ⟨false, false, (.ints .u8 la)⟩)), (2, (.one ⟨false, false, (.ints .u8 lt)⟩)), (3, (.one ⟨false, false, (.ints .u8 lr)⟩))] 5 (.c (.bool (true))) [] [] :=
  Contract0.unkill pr_glob (Contract0.of_frun (res := (.c (.bool (true)))) (up := []) (kill := [0]) (n0 := 5) (m := [(0, (.many (fun j_ => some ⟨false, false, (.ints (W.gk j_) (G j_))⟩))), (1, (.one ⟨false, false, (.ints .u8 la)⟩)), (2, (.one ⟨false, false, (.ints .u8 lt)⟩)), (3, (.one ⟨false, false, (.ints .u8 lr)⟩))]) (args := [(.aggi .u8 k), (.aggi .u8 nn), (.c (.sl 1 0 oa na 1)), (.c (.sl 2 0 ot nt 1)), (.c (.int .i64 how)), (.c (.int .i64 at_)), (.c (.int .u8 by_)), (.c (.sl 3 0 o_ nr 1))]) (fn := Tryd.f5) (c := bodyOf Tryd.f5) (fuel := 300) (k := kOf Tryd.prog Tryd.f5) (outs := []) (hs := [(3, ⟨.ask, some (.aggi .u8 k)⟩), (4, ⟨.ask, some (.aggi .u8 nn)⟩), (7, ⟨.call [0, 1, 2] (.c (.sl 117 0 0 (nt + 16) 1)) [] [(117, (.one ⟨true, false, (.ints .u8 (W.box k nn (List.take na (List.drop oa la)) (List.take nt (List.drop ot lt))))⟩))], none⟩), (10, ⟨.call [] (.c (.int .i64 (↑(W.pick how 7)))) [] [], none⟩), (12, ⟨.auto, some (.c (.bool (false)))⟩), (15, ⟨.auto, some (.c (.bool (false)))⟩), (18, ⟨.auto, some (.c (.bool (false)))⟩), (21, ⟨.auto, some (.c (.bool (false)))⟩), (24, ⟨.auto, some (.c (.bool (false)))⟩), (27, ⟨.auto, some (.c (.bool (true)))⟩), (30, ⟨.call [] (.c (.int .i64 (↑(W.pick at_ 12)))) [] [], none⟩), (31, ⟨.ask, none⟩), (32, ⟨.ask, none⟩), (35, ⟨.ask, none⟩), (36, ⟨.ask, none⟩), (37, ⟨.ask, some (.aggi .u8 k)⟩), (38, ⟨.ask, some (.aggi .u8 (splice nn (W.pick at_ 12) [bXor IntKind.u8 (List.getD nn (W.pick at_ 12) 0) by_]))⟩), (41, ⟨.call [1, 117] (.tup [(.c .nils), (.c (.int .i64 8))]) [] [], none⟩), (47, ⟨.ask, some (.aggi .u8 k)⟩), (48, ⟨.ask, some (.aggi .u8 (splice nn (W.pick at_ 12) [bXor IntKind.u8 (List.getD nn (W.pick at_ 12) 0) by_]))⟩), (51, ⟨.call [0, 1, 117] (.tup [(.c .nils), (.c (.int .i64 2))]) [] [], none⟩), (57, ⟨.call [] (.c (.bool (true))) [] [], none⟩), (68, ⟨.call [] (.c (.int .i64 8)) [] [], none⟩)])
    (cs := [Contract Tryd.prog 32 [(.c (.int .i64 2))] [] 997 (.c (.int .i64 8)) [] [],
      Contract Tryd.prog 24 [] [] 821 (.c (.bool (true))) [] [],
      Contract Tryd.prog 31 [(.aggi .u8 k), (.aggi .u8 (splice nn (W.pick at_ 12) [bXor IntKind.u8 (List.getD nn (W.pick at_ 12) 0) by_])), (.c (.sl 1 0 oa na 1)), (.c (.sl 117 0 0 (nt + 16) 1))] [(0, (.many (fun j_ => some ⟨false, false, (.ints (W.gk j_) (G j_))⟩))), (1, (.one ⟨false, false, (.ints .u8 la)⟩)), (117, (.one ⟨true, false, (.ints .u8 (W.box k nn (List.take na (List.drop oa la)) (List.take nt (List.drop ot lt))))⟩))] 725 (.tup [(.c .nils), (.c (.int .i64 2))]) [] [],
      ((.aggi .u8 (List.take 12 (splice nn (W.pick at_ 12) [bXor IntKind.u8 (List.getD nn (W.pick at_ 12) 0) by_]))) : V) = (.aggi .u8 (splice nn (W.pick at_ 12) [bXor IntKind.u8 (List.getD nn (W.pick at_ 12) 0) by_])),
      ((12 : Nat) ≤ List.length (splice nn (W.pick at_ (12 : Int)) [bXor IntKind.u8 (List.getD nn (W.pick at_ (12 : Int)) (0 : Int)) by_])),
      ((.aggi .u8 (List.take 32 k)) : V) = (.aggi .u8 k),
      ((32 : Nat) ≤ List.length k),
      Contract Tryd.prog 30 [(.aggi .u8 k), (.aggi .u8 (splice nn (W.pick at_ 12) [bXor IntKind.u8 (List.getD nn (W.pick at_ 12) 0) by_])), (.c (.sl 1 0 oa na 1)), (.c (.sl 117 0 0 (nt + 16) 1))] [(1, (.one ⟨false, false, (.ints .u8 la)⟩)), (117, (.one ⟨true, false, (.ints .u8 (W.box k nn (List.take na (List.drop oa la)) (List.take nt (List.drop ot lt))))⟩))] 565 (.tup [(.c .nils), (.c (.int .i64 8))]) [] [],
      ((.aggi .u8 (List.take 12 (splice nn (W.pick at_ 12) [bXor IntKind.u8 (List.getD nn (W.pick at_ 12) 0) by_]))) : V) = (.aggi .u8 (splice nn (W.pick at_ 12) [bXor IntKind.u8 (List.getD nn (W.pick at_ 12) 0) by_])),
      ((12 : Nat) ≤ List.length (splice nn (W.pick at_ (12 : Int)) [bXor IntKind.u8 (List.getD nn (W.pick at_ (12 : Int)) (0 : Int)) by_])),
      ((.aggi .u8 (List.take 32 k)) : V) = (.aggi .u8 k),
      ((32 : Nat) ≤ List.length k),
      (W.pick at_ (12 : Int) + (1 : Nat) ≤ List.length nn ∧ (1 : Nat) = (1 : Nat)),
      ((0 : Int) ≤ (↑(W.pick at_ (12 : Int)) : Int) ∧ (↑(W.pick at_ (12 : Int)) : Int) < (12 : Int)),
      (W.pick at_ (12 : Int) + (1 : Nat) ≤ List.length nn),
      ((0 : Int) ≤ (↑(W.pick at_ (12 : Int)) : Int) ∧ (↑(W.pick at_ (12 : Int)) : Int) < (12 : Int)),
      Contract Tryd.prog 29 [(.c (.int .i64 at_)), (.c (.int .i64 12))] [] 389 (.c (.int .i64 (↑(W.pick at_ 12)))) [] [],
      EB ((↑(W.pick how 7) : Int) == 5) true,
      EB ((↑(W.pick how 7) : Int) == 4) false,
      EB ((↑(W.pick how 7) : Int) == 3) false,
      EB ((↑(W.pick how 7) : Int) == 2) false,
      EB ((↑(W.pick how 7) : Int) == 1) false,
      EB ((↑(W.pick how 7) : Int) == 0) false,
      Contract Tryd.prog 29 [(.c (.int .i64 how)), (.c (.int .i64 7))] [] 165 (.c (.int .i64 (↑(W.pick how 7)))) [] [],
      Contract Tryd.prog 26 [(.aggi .u8 k), (.aggi .u8 nn), (.c (.sl 1 0 oa na 1)), (.c (.sl 2 0 ot nt 1))] [(0, (.many (fun j_ => some ⟨false, false, (.ints (W.gk j_) (G j_))⟩))), (1, (.one ⟨false, false, (.ints .u8 la)⟩)), (2, (.one ⟨false, false, (.ints .u8 lt)⟩))] 117 (.c (.sl 117 0 0 (nt + 16) 1)) [] [(117, (.one ⟨true, false, (.ints .u8 (W.box k nn (List.take na (List.drop oa la)) (List.take nt (List.drop ot lt))))⟩))],
      ((.aggi .u8 (List.take 12 nn)) : V) = (.aggi .u8 nn),
      ((12 : Nat) ≤ List.length nn),
      ((.aggi .u8 (List.take 32 k)) : V) = (.aggi .u8 k),
      ((32 : Nat) ≤ List.length k)])
    mixed Tryd.func5 (by kernel_rfl) (by kernel_rfl) (by kernel_rfl) (by kernel_rfl) (by kernel_rfl) ⟨Contract0.inst errno2 [] [none] [] [] (by kernel_rfl) (by kernel_rfl) (by kernel_rfl) (by kernel_rfl) (by kernel_rfl), Contract0.inst known6 [] [] [] [] (by kernel_rfl) (by kernel_rfl) (by kernel_rfl) (by kernel_rfl) (by kernel_rfl), Contract0.instG (ropen_w k (splice nn (W.pick at_ 12) [bXor IntKind.u8 (List.getD nn (W.pick at_ 12) 0) by_]) la (W.box k nn (List.take na (List.drop oa la)) (List.take nt (List.drop ot lt))) oa na 0 (nt + 16) G (by omega) (by rw [splice_len1]; assumption) (by omega) (by exact W.bytes_splice hnb W.bXor_byte) (by omega) (by omega) (by simp only [lensD]; omega) (by omega) (by omega) (by exact W.box_bytes) (by omega) (by omega)) pr_glob [.b 1 1 true [], .b 117 2 true []] [none, none, none, none] [] [] rfl (by kernel_rfl) (by kernel_rfl) (by kernel_rfl) (by kernel_rfl) (by kernel_rfl), EV.aggi (List.take_of_length_le (by simp only [lensD]; omega)), (by simp only [lensD]; omega), EV.aggi (List.take_of_length_le (by omega)), (by omega), Contract0.inst (open_ok_ff k (splice nn (W.pick at_ 12) [bXor IntKind.u8 (List.getD nn (W.pick at_ 12) 0) by_]) la (W.box k nn (List.take na (List.drop oa la)) (List.take nt (List.drop ot lt))) oa na 0 (nt + 16) (by omega) (by rw [splice_len1]; assumption) (by omega) (by simp only [lensD]; omega) (by omega) (by omega) (by omega) (by exact W.box_bytes) (by omega) c6) [.b 1 1 true [], .b 117 2 true []] [none, none, none, none] [] [] (by kernel_rfl) (by kernel_rfl) (by kernel_rfl) (by kernel_rfl) (by kernel_rfl), EV.aggi (List.take_of_length_le (by simp only [lensD]; omega)), (by simp only [lensD]; omega), EV.aggi (List.take_of_length_le (by omega)), (by omega), (by omega), (by omega), (by omega), (by omega), Contract0.inst (pick_ok at_ 12 (by omega) (by omega)) [] [none, none] [] [] (by kernel_rfl) (by kernel_rfl) (by kernel_rfl) (by kernel_rfl) (by kernel_rfl), .mk (beq_t h5), .mk (beq_f h4), .mk (beq_f h3), .mk (beq_f h2), .mk (beq_f h1), .mk (beq_f h0), Contract0.inst (pick_ok how 7 (by omega) (by omega)) [] [none, none] [] [] (by kernel_rfl) (by kernel_rfl) (by kernel_rfl) (by kernel_rfl) (by kernel_rfl), Contract0.instG (rseal_ok k nn la lt oa na ot nt G (by omega) (by omega) (by omega) (by omega) (by omega) (by omega) (by omega) (by omega) (by omega) (by omega)) pr_glob [.b 1 1 true [], .b 2 2 true []] [none, none, none, none] [(4, 117)] [] rfl (by kernel_rfl) (by kernel_rfl) (by kernel_rfl) (by kernel_rfl) (by kernel_rfl), EV.aggi (List.take_of_length_le (by omega)), (by omega), EV.aggi (List.take_of_length_le (by omega)), (by omega), trivial⟩)

theorem aeadOpens_ffffftc1 (k nn la lt lr : List Int) (oa na ot nt o_ nr : Nat) (how at_ by_ : Int) (G : Nat → List Int)
    (hk : k.length = 32)
    (hnn : nn.length = 12)
    (hkb : W.bytes k)
    (hnb : W.bytes nn)
    (hG : G 2 = W.rows)
    (hla : oa + na ≤ la.length)
    (hlt : ot + nt ≤ lt.length)
    (hs : na + nt ≤ 1900000)
    (hba : W.bytes la)
    (hbt : W.bytes lt)
    (hlr : o_ + nr ≤ lr.length)
    (hs2 : na + nr ≤ 1900000)
    (hbr : W.bytes lr)
    (hho : -9223372036854775808 ≤ how ∧ how < 9223372036854775808)
    (hat : -9223372036854775808 ≤ at_ ∧ at_ < 9223372036854775808)
    (hby : 0 ≤ by_ ∧ by_ < 256)
    (hp7 : (W.pick how 7 : Int) < 7)
    (hp1 : (W.pick at_ ((nt + 16 : Nat) : Int) : Int) < ((nt + 16 : Nat) : Int))
    (hp2 : (W.pick at_ ((nt + 16 + 1 : Nat) : Int) : Int) < ((nt + 16 + 1 : Nat) : Int))
    (hp3 : (W.pick at_ 32 : Int) < 32)
    (hp4 : (W.pick at_ 12 : Int) < 12)
    (h0 : (¬(↑(W.pick how (7 : Int)) : Int) = (0 : Int)))
    (h1 : (¬(↑(W.pick how (7 : Int)) : Int) = (1 : Int)))
    (h2 : (¬(↑(W.pick how (7 : Int)) : Int) = (2 : Int)))
    (h3 : (¬(↑(W.pick how (7 : Int)) : Int) = (3 : Int)))
    (h4 : (¬(↑(W.pick how (7 : Int)) : Int) = (4 : Int)))
    (h5 : ((↑(W.pick how (7 : Int)) : Int) = (5 : Int)))
    (c6 : (List.take (16 : Nat) (List.drop ((0 : Nat) + (nt + (16 : Nat) - (16 : Nat))) (W.box k nn (List.take na (List.drop oa la)) (List.take nt (List.drop ot lt)))) = List.take (16 : Nat) (W.boxTag k (splice nn (W.pick at_ (12 : Int)) [bXor IntKind.u8 (List.getD nn (W.pick at_ (12 : Int)) (0 : Int)) by_]) (List.take na (List.drop oa la)) (List.take (nt + (16 : Nat) - (16 : Nat)) (List.drop (0 : Nat) (W.box k nn (List.take na (List.drop oa la)) (List.take nt (List.drop ot lt)))))))) :
    Contract0 Tryd.prog 5 [(.aggi .u8 k), (.aggi .u8 nn), (.c (.sl 1 0 oa na 1)), (.c (.sl 2 0 ot nt 1)), (.c (.int .i64 how)), (.c (.int .i64 at_)), (.c (.int .u8 by_)), (.c (.sl 3 0 o_ nr 1))] [(0, (.many (fun j_ => some ⟨false, false, (.ints (W.gk j_) (G j_))⟩))), (1, (.one ⟨false, false, (.ints .u8 la)⟩)), (2, (.one ⟨false, false, (.ints .u8 lt)⟩)), (3, (.one ⟨false, false, (.ints .u8 lr)⟩))] 5 (.c (.bool (true))) [] [] :=
  Contract0.unkill pr_glob (Contract0.of_frun (res := (.c (.bool (true)))) (up := []) (kill := [0]) (n0 := 5) (m := [(0, (.many (fun j_ => some ⟨false, false, (.ints (W.gk j_) (G j_))⟩))), (1, (.one ⟨false, false, (.ints .u8 la)⟩)), (2, (.one ⟨false, false, (.ints .u8 lt)⟩)), (3, (.one ⟨false, false, (.ints .u8 lr)⟩))]) (args := [(.aggi .u8 k), (.aggi .u8 nn), (.c (.sl 1 0 oa na 1)), (.c (.sl 2 0 ot nt 1)), (.c (.int .i64 how)), (.c (.int .i64 at_)), (.c (.int .u8 by_)), (.c (.sl 3 0 o_ nr 1))]) (fn := Tryd.f5) (c := bodyOf Tryd.f5) (fuel := 300) (k := kOf Tryd.prog Tryd.f5) (outs := []) (hs := [(3, ⟨.ask, some (.aggi .u8 k)⟩), (4, ⟨.ask, some (.aggi .u8 nn)⟩), (7, ⟨.call [0, 1, 2] (.c (.sl 117 0 0 (nt + 16) 1)) [] [(117, (.one ⟨true, false, (.ints .u8 (W.box k nn (List.take na (List.drop oa la)) (List.take nt (List.drop ot lt))))⟩))], none⟩), (10, ⟨.call [] (.c (.int .i64 (↑(W.pick how 7)))) [] [], none⟩), (12, ⟨.auto, some (.c (.bool (false)))⟩), (15, ⟨.auto, some (.c (.bool (false)))⟩), (18, ⟨.auto, some (.c (.bool (false)))⟩), (21, ⟨.auto, some (.c (.bool (false)))⟩), (24, ⟨.auto, some (.c (.bool (false)))⟩), (27, ⟨.auto, some (.c (.bool (true)))⟩), (30, ⟨.call [] (.c (.int .i64 (↑(W.pick at_ 12)))) [] [], none⟩), (31, ⟨.ask, none⟩), (32, ⟨.ask, none⟩), (35, ⟨.ask, none⟩), (36, ⟨.ask, none⟩), (37, ⟨.ask, some (.aggi .u8 k)⟩), (38, ⟨.ask, some (.aggi .u8 (splice nn (W.pick at_ 12) [bXor IntKind.u8 (List.getD nn (W.pick at_ 12) 0) by_]))⟩), (41, ⟨.call [1, 117] (.tup [(.c (.sl 565 0 0 nt 1)), (.c (.int .i64 0))]) [] [(565, (.one ⟨true, false, (.ints .u8 (W.apply k 1 (splice nn (W.pick at_ 12) [bXor IntKind.u8 (List.getD nn (W.pick at_ 12) 0) by_]) (List.take (nt + 16 - 16) (W.box k nn (List.take na (List.drop oa la)) (List.take nt (List.drop ot lt))))))⟩))], none⟩), (47, ⟨.ask, some (.aggi .u8 k)⟩), (48, ⟨.ask, some (.aggi .u8 (splice nn (W.pick at_ 12) [bXor IntKind.u8 (List.getD nn (W.pick at_ 12) 0) by_]))⟩), (51, ⟨.call [0, 1, 117] (.tup [(.c (.sl 725 0 0 nt 1)), (.c (.int .i64 0))]) [] [(725, (.one ⟨true, false, (.ints .u8 (W.apply k 1 (splice nn (W.pick at_ 12) [bXor IntKind.u8 (List.getD nn (W.pick at_ 12) 0) by_]) (List.take (nt + 16 - 16) (W.box k nn (List.take na (List.drop oa la)) (List.take nt (List.drop ot lt))))))⟩))], none⟩), (57, ⟨.call [] (.c (.bool (true))) [] [], none⟩), (60, ⟨.ask, none⟩), (62, ⟨.ask, none⟩), (63, ⟨.ask, some (.c (.bool (true)))⟩), (68, ⟨.call [] (.c (.int .i64 0)) [] [], none⟩)])
    (cs := [Contract Tryd.prog 32 [(.c (.int .i64 0))] [] 997 (.c (.int .i64 0)) [] [],
      EB (ByteArray.toList { data := List.toArray (List.map (fun n => UInt8.ofNat (Int.toNat n)) (List.take nt (List.drop 0 (W.apply k 1 (splice nn (W.pick at_ 12) [bXor IntKind.u8 (List.getD nn (W.pick at_ 12) 0) by_]) (List.take (nt + 16 - 16) (W.box k nn (List.take na (List.drop oa la)) (List.take nt (List.drop ot lt)))))))) } == ByteArray.toList { data := List.toArray (List.map (fun n => UInt8.ofNat (Int.toNat n)) (List.take nt (List.drop 0 (W.apply k 1 (splice nn (W.pick at_ 12) [bXor IntKind.u8 (List.getD nn (W.pick at_ 12) 0) by_]) (List.take (nt + 16 - 16) (W.box k nn (List.take na (List.drop oa la)) (List.take nt (List.drop ot lt)))))))) }) true,
      ((0 : Nat) + nt ≤ List.length (W.apply k (1 : Int) (splice nn (W.pick at_ (12 : Int)) [bXor IntKind.u8 (List.getD nn (W.pick at_ (12 : Int)) (0 : Int)) by_]) (List.take (nt + (16 : Nat) - (16 : Nat)) (W.box k nn (List.take na (List.drop oa la)) (List.take nt (List.drop ot lt)))))),
      ((0 : Nat) + nt ≤ List.length (W.apply k (1 : Int) (splice nn (W.pick at_ (12 : Int)) [bXor IntKind.u8 (List.getD nn (W.pick at_ (12 : Int)) (0 : Int)) by_]) (List.take (nt + (16 : Nat) - (16 : Nat)) (W.box k nn (List.take na (List.drop oa la)) (List.take nt (List.drop ot lt)))))),
      Contract Tryd.prog 24 [] [] 821 (.c (.bool (true))) [] [],
      Contract Tryd.prog 31 [(.aggi .u8 k), (.aggi .u8 (splice nn (W.pick at_ 12) [bXor IntKind.u8 (List.getD nn (W.pick at_ 12) 0) by_])), (.c (.sl 1 0 oa na 1)), (.c (.sl 117 0 0 (nt + 16) 1))] [(0, (.many (fun j_ => some ⟨false, false, (.ints (W.gk j_) (G j_))⟩))), (1, (.one ⟨false, false, (.ints .u8 la)⟩)), (117, (.one ⟨true, false, (.ints .u8 (W.box k nn (List.take na (List.drop oa la)) (List.take nt (List.drop ot lt))))⟩))] 725 (.tup [(.c (.sl 725 0 0 nt 1)), (.c (.int .i64 0))]) [] [(725, (.one ⟨true, false, (.ints .u8 (W.apply k 1 (splice nn (W.pick at_ 12) [bXor IntKind.u8 (List.getD nn (W.pick at_ 12) 0) by_]) (List.take (nt + 16 - 16) (W.box k nn (List.take na (List.drop oa la)) (List.take nt (List.drop ot lt))))))⟩))],
      ((.aggi .u8 (List.take 12 (splice nn (W.pick at_ 12) [bXor IntKind.u8 (List.getD nn (W.pick at_ 12) 0) by_]))) : V) = (.aggi .u8 (splice nn (W.pick at_ 12) [bXor IntKind.u8 (List.getD nn (W.pick at_ 12) 0) by_])),
      ((12 : Nat) ≤ List.length (splice nn (W.pick at_ (12 : Int)) [bXor IntKind.u8 (List.getD nn (W.pick at_ (12 : Int)) (0 : Int)) by_])),
      ((.aggi .u8 (List.take 32 k)) : V) = (.aggi .u8 k),
      ((32 : Nat) ≤ List.length k),
      Contract Tryd.prog 30 [(.aggi .u8 k), (.aggi .u8 (splice nn (W.pick at_ 12) [bXor IntKind.u8 (List.getD nn (W.pick at_ 12) 0) by_])), (.c (.sl 1 0 oa na 1)), (.c (.sl 117 0 0 (nt + 16) 1))] [(1, (.one ⟨false, false, (.ints .u8 la)⟩)), (117, (.one ⟨true, false, (.ints .u8 (W.box k nn (List.take na (List.drop oa la)) (List.take nt (List.drop ot lt))))⟩))] 565 (.tup [(.c (.sl 565 0 0 nt 1)), (.c (.int .i64 0))]) [] [(565, (.one ⟨true, false, (.ints .u8 (W.apply k 1 (splice nn (W.pick at_ 12) [bXor IntKind.u8 (List.getD nn (W.pick at_ 12) 0) by_]) (List.take (nt + 16 - 16) (W.box k nn (List.take na (List.drop oa la)) (List.take nt (List.drop ot lt))))))⟩))],
      ((.aggi .u8 (List.take 12 (splice nn (W.pick at_ 12) [bXor IntKind.u8 (List.getD nn (W.pick at_ 12) 0) by_]))) : V) = (.aggi .u8 (splice nn (W.pick at_ 12) [bXor IntKind.u8 (List.getD nn (W.pick at_ 12) 0) by_])),
      ((12 : Nat) ≤ List.length (splice nn (W.pick at_ (12 : Int)) [bXor IntKind.u8 (List.getD nn (W.pick at_ (12 : Int)) (0 : Int)) by_])),
      ((.aggi .u8 (List.take 32 k)) : V) = (.aggi .u8 k),
      ((32 : Nat) ≤ List.length k),
      (W.pick at_ (12 : Int) + (1 : Nat) ≤ List.length nn ∧ (1 : Nat) = (1 : Nat)),
      ((0 : Int) ≤ (↑(W.pick at_ (12 : Int)) : Int) ∧ (↑(W.pick at_ (12 : Int)) : Int) < (12 : Int)),
      (W.pick at_ (12 : Int) + (1 : Nat) ≤ List.length nn),
      ((0 : Int) ≤ (↑(W.pick at_ (12 : Int)) : Int) ∧ (↑(W.pick at_ (12 : Int)) : Int) < (12 : Int)),
      Contract Tryd.prog 29 [(.c (.int .i64 at_)), (.c (.int .i64 12))] [] 389 (.c (.int .i64 (↑(W.pick at_ 12)))) [] [],
      EB ((↑(W.pick how 7) : Int) == 5) true,
      EB ((↑(W.pick how 7) : Int) == 4) false,
      EB ((↑(W.pick how 7) : Int) == 3) false,
      EB ((↑(W.pick how 7) : Int) == 2) false,
      EB ((↑(W.pick how 7) : Int) == 1) false,
      EB ((↑(W.pick how 7) : Int) == 0) false,
      Contract Tryd.prog 29 [(.c (.int .i64 how)), (.c (.int .i64 7))] [] 165 (.c (.int .i64 (↑(W.pick how 7)))) [] [],
      Contract Tryd.prog 26 [(.aggi .u8 k), (.aggi .u8 nn), (.c (.sl 1 0 oa na 1)), (.c (.sl 2 0 ot nt 1))] [(0, (.many (fun j_ => some ⟨false, false, (.ints (W.gk j_) (G j_))⟩))), (1, (.one ⟨false, false, (.ints .u8 la)⟩)), (2, (.one ⟨false, false, (.ints .u8 lt)⟩))] 117 (.c (.sl 117 0 0 (nt + 16) 1)) [] [(117, (.one ⟨true, false, (.ints .u8 (W.box k nn (List.take na (List.drop oa la)) (List.take nt (List.drop ot lt))))⟩))],
      ((.aggi .u8 (List.take 12 nn)) : V) = (.aggi .u8 nn),
      ((12 : Nat) ≤ List.length nn),
      ((.aggi .u8 (List.take 32 k)) : V) = (.aggi .u8 k),
      ((32 : Nat) ≤ List.length k)])
    mixed Tryd.func5 (by kernel_rfl) (by kernel_rfl) (by kernel_rfl) (by kernel_rfl) (by kernel_rfl) ⟨Contract0.inst errno0 [] [none] [] [] (by kernel_rfl) (by kernel_rfl) (by kernel_rfl) (by kernel_rfl) (by kernel_rfl), .mk (strEq_t (by simp only [List.take_take, Nat.min_self, List.drop_zero])), (by simp only [lensD]; omega), (by simp only [lensD]; omega), Contract0.inst known6 [] [] [] [] (by kernel_rfl) (by kernel_rfl) (by kernel_rfl) (by kernel_rfl) (by kernel_rfl), Contract0.instG (ropen_o k (splice nn (W.pick at_ 12) [bXor IntKind.u8 (List.getD nn (W.pick at_ 12) 0) by_]) la (W.box k nn (List.take na (List.drop oa la)) (List.take nt (List.drop ot lt))) oa na 0 (nt + 16) G (by omega) (by rw [splice_len1]; assumption) (by omega) (by exact W.bytes_splice hnb W.bXor_byte) (by omega) (by omega) (by simp only [lensD]; omega) (by omega) (by omega) (by exact W.box_bytes) (by omega) (by omega)) pr_glob [.b 1 1 true [], .b 117 2 true []] [none, none, none, none] [(4, 725)] [] rfl (by kernel_rfl) (by kernel_rfl) (by kernel_rfl) (by kernel_rfl) (by kernel_rfl), EV.aggi (List.take_of_length_le (by simp only [lensD]; omega)), (by simp only [lensD]; omega), EV.aggi (List.take_of_length_le (by omega)), (by omega), Contract0.inst (open_ok_ft k (splice nn (W.pick at_ 12) [bXor IntKind.u8 (List.getD nn (W.pick at_ 12) 0) by_]) la (W.box k nn (List.take na (List.drop oa la)) (List.take nt (List.drop ot lt))) oa na 0 (nt + 16) (by omega) (by rw [splice_len1]; assumption) (by omega) (by simp only [lensD]; omega) (by omega) (by omega) (by omega) (by exact W.box_bytes) (by omega) c6) [.b 1 1 true [], .b 117 2 true []] [none, none, none, none] [(3, 565)] [] (by kernel_rfl) (by kernel_rfl) (by kernel_rfl) (by kernel_rfl) (by kernel_rfl), EV.aggi (List.take_of_length_le (by simp only [lensD]; omega)), (by simp only [lensD]; omega), EV.aggi (List.take_of_length_le (by omega)), (by omega), (by omega), (by omega), (by omega), (by omega), Contract0.inst (pick_ok at_ 12 (by omega) (by omega)) [] [none, none] [] [] (by kernel_rfl) (by kernel_rfl) (by kernel_rfl) (by kernel_rfl) (by kernel_rfl), .mk (beq_t h5), .mk (beq_f h4), .mk (beq_f h3), .mk (beq_f h2), .mk (beq_f h1), .mk (beq_f h0), Contract0.inst (pick_ok how 7 (by omega) (by omega)) [] [none, none] [] [] (by kernel_rfl) (by kernel_rfl) (by kernel_rfl) (by kernel_rfl) (by kernel_rfl), Contract0.instG (rseal_ok k nn la lt oa na ot nt G (by omega) (by omega) (by omega) (by omega) (by omega) (by omega) (by omega) (by omega) (by omega) (by omega)) pr_glob [.b 1 1 true [], .b 2 2 true []] [none, none, none, none] [(4, 117)] [] rfl (by kernel_rfl) (by kernel_rfl) (by kernel_rfl) (by kernel_rfl) (by kernel_rfl), EV.aggi (List.take_of_length_le (by omega)), (by omega), EV.aggi (List.take_of_length_le (by omega)), (by omega), trivial⟩)

theorem aeadOpens_ffffffc0 (k nn la lt lr : List Int) (oa na ot nt o_ nr : Nat) (how at_ by_ : Int) (G : Nat → List Int)
    (hk : k.length = 32)
    (hnn : nn.length = 12)
    (hkb : W.bytes k)
    (hnb : W.bytes nn)
    (hG : G 2 = W.rows)
    (hla : oa + na ≤ la.length)
    (hlt : ot + nt ≤ lt.length)
    (hs : na + nt ≤ 1900000)
    (hba : W.bytes la)
    (hbt : W.bytes lt)
    (hlr : o_ + nr ≤ lr.length)
    (hs2 : na + nr ≤ 1900000)
    (hbr : W.bytes lr)
    (hho : -9223372036854775808 ≤ how ∧ how < 9223372036854775808)
    (hat : -9223372036854775808 ≤ at_ ∧ at_ < 9223372036854775808)
    (hby : 0 ≤ by_ ∧ by_ < 256)
    (hp7 : (W.pick how 7 : Int) < 7)
    (hp1 : (W.pick at_ ((nt + 16 : Nat) : Int) : Int) < ((nt + 16 : Nat) : Int))
    (hp2 : (W.pick at_ ((nt + 16 + 1 : Nat) : Int) : Int) < ((nt + 16 + 1 : Nat) : Int))
    (hp3 : (W.pick at_ 32 : Int) < 32)
    (hp4 : (W.pick at_ 12 : Int) < 12)
    (h0 : (¬(↑(W.pick how (7 : Int)) : Int) = (0 : Int)))
    (h1 : (¬(↑(W.pick how (7 : Int)) : Int) = (1 : Int)))
    (h2 : (¬(↑(W.pick how (7 : Int)) : Int) = (2 : Int)))
    (h3 : (¬(↑(W.pick how (7 : Int)) : Int) = (3 : Int)))
    (h4 : (¬(↑(W.pick how (7 : Int)) : Int) = (4 : Int)))
    (h5 : (¬(↑(W.pick how (7 : Int)) : Int) = (5 : Int)))
    (c6 : (¬List.take (16 : Nat) (List.drop ((0 : Nat) + (nt + (16 : Nat) - (16 : Nat))) (W.box k nn (List.take na (List.drop oa la)) (List.take nt (List.drop ot lt)))) = List.take (16 : Nat) (W.boxTag k nn (List.take na (List.drop oa la)) (List.take (nt + (16 : Nat) - (16 : Nat)) (List.drop (0 : Nat) (W.box k nn (List.take na (List.drop oa la)) (List.take nt (List.drop ot lt)))))))) :
    Contract0 Tryd.prog 5 [(.aggi .u8 k), (.aggi .u8 nn), (.c (.sl 1 0 oa na 1)), (.c (.sl 2 0 ot nt 1)), (.c (.int .i64 how)), (.c (.int .i64 at_)), (.c (.int .u8 by_)), (.c (.sl 3 0 o_ nr 1))] [(0, (.many (fun j_ => some ⟨false, false, (.ints (W.gk j_) (G j_))⟩))), (1, (.one ⟨false, false, (.ints .u8 la)⟩)), (2, (.one ⟨false, false, (.ints .u8 lt)⟩)), (3, (.one ⟨false, false, (.ints .u8 lr)⟩))] 5 (.c (.bool (true))) [] [] :=
  Contract0.unkill pr_glob (Contract0.of_frun (res := (.c (.bool (true)))) (up := []) (kill := [0]) (n0 := 5) (m := [(0, (.many (fun j_ => some ⟨false, false, (.ints (W.gk j_) (G j_))⟩))), (1, (.one ⟨false, false, (.ints .u8 la)⟩)), (2, (.one ⟨false, false, (.ints .u8 lt)⟩)), (3, (.one ⟨false, false, (.ints .u8 lr)⟩))]) (args := [(.aggi .u8 k), (.aggi .u8 nn), (.c (.sl 1 0 oa na 1)), (.c (.sl 2 0 ot nt 1)), (.c (.int .i64 how)), (.c (.int .i64 at_)), (.c (.int .u8 by_)), (.c (.sl 3 0 o_ nr 1))]) (fn := Tryd.f5) (c := bodyOf Tryd.f5) (fuel := 300) (k := kOf Tryd.prog Tryd.f5) (outs := []) (hs := [(3, ⟨.ask, some (.aggi .u8 k)⟩), (4, ⟨.ask, some (.aggi .u8 nn)⟩), (7, ⟨.call [0, 1, 2] (.c (.sl 117 0 0 (nt + 16) 1)) [] [(117, (.one ⟨true, false, (.ints .u8 (W.box k nn (List.take na (List.drop oa la)) (List.take nt (List.drop ot lt))))⟩))], none⟩), (10, ⟨.call [] (.c (.int .i64 (↑(W.pick how 7)))) [] [], none⟩), (12, ⟨.auto, some (.c (.bool (false)))⟩), (15, ⟨.auto, some (.c (.bool (false)))⟩), (18, ⟨.auto, some (.c (.bool (false)))⟩), (21, ⟨.auto, some (.c (.bool (false)))⟩), (24, ⟨.auto, some (.c (.bool (false)))⟩), (27, ⟨.auto, some (.c (.bool (false)))⟩), (29, ⟨.ask, some (.aggi .u8 k)⟩), (30, ⟨.ask, some (.aggi .u8 nn)⟩), (33, ⟨.call [1, 117] (.tup [(.c .nils), (.c (.int .i64 8))]) [] [], none⟩), (39, ⟨.ask, some (.aggi .u8 k)⟩), (40, ⟨.ask, some (.aggi .u8 nn)⟩), (43, ⟨.call [0, 1, 117] (.tup [(.c .nils), (.c (.int .i64 2))]) [] [], none⟩), (49, ⟨.call [] (.c (.bool (true))) [] [], none⟩), (60, ⟨.call [] (.c (.int .i64 8)) [] [], none⟩)])
    (cs := [Contract Tryd.prog 32 [(.c (.int .i64 2))] [] 869 (.c (.int .i64 8)) [] [],
      Contract Tryd.prog 24 [] [] 693 (.c (.bool (true))) [] [],
      Contract Tryd.prog 31 [(.aggi .u8 k), (.aggi .u8 nn), (.c (.sl 1 0 oa na 1)), (.c (.sl 117 0 0 (nt + 16) 1))] [(0, (.many (fun j_ => some ⟨false, false, (.ints (W.gk j_) (G j_))⟩))), (1, (.one ⟨false, false, (.ints .u8 la)⟩)), (117, (.one ⟨true, false, (.ints .u8 (W.box k nn (List.take na (List.drop oa la)) (List.take nt (List.drop ot lt))))⟩))] 597 (.tup [(.c .nils), (.c (.int .i64 2))]) [] [],
      ((.aggi .u8 (List.take 12 nn)) : V) = (.aggi .u8 nn),
      ((12 : Nat) ≤ List.length nn),
      ((.aggi .u8 (List.take 32 k)) : V) = (.aggi .u8 k),
      ((32 : Nat) ≤ List.length k),
      Contract Tryd.prog 30 [(.aggi .u8 k), (.aggi .u8 nn), (.c (.sl 1 0 oa na 1)), (.c (.sl 117 0 0 (nt + 16) 1))] [(1, (.one ⟨false, false, (.ints .u8 la)⟩)), (117, (.one ⟨true, false, (.ints .u8 (W.box k nn (List.take na (List.drop oa la)) (List.take nt (List.drop ot lt))))⟩))] 437 (.tup [(.c .nils), (.c (.int .i64 8))]) [] [],
      ((.aggi .u8 (List.take 12 nn)) : V) = (.aggi .u8 nn),
      ((12 : Nat) ≤ List.length nn),
      ((.aggi .u8 (List.take 32 k)) : V) = (.aggi .u8 k),
      ((32 : Nat) ≤ List.length k),
      EB ((↑(W.pick how 7) : Int) == 5) false,
      EB ((↑(W.pick how 7) : Int) == 4) false,
      EB ((↑(W.pick how 7) : Int) == 3) false,
      EB ((↑(W.pick how 7) : Int) == 2) false,
      EB ((↑(W.pick how 7) : Int) == 1) false,
      EB ((↑(W.pick how 7) : Int) == 0) false,
      Contract Tryd.prog 29 [(.c (.int .i64 how)), (.c (.int .i64 7))] [] 165 (.c (.int .i64 (↑(W.pick how 7)))) [] [],
      Contract Tryd.prog 26 [(.aggi .u8 k), (.aggi .u8 nn), (.c (.sl 1 0 oa na 1)), (.c (.sl 2 0 ot nt 1))] [(0, (.many (fun j_ => some ⟨false, false, (.ints (W.gk j_) (G j_))⟩))), (1, (.one ⟨false, false, (.ints .u8 la)⟩)), (2, (.one ⟨false, false, (.ints .u8 lt)⟩))] 117 (.c (.sl 117 0 0 (nt + 16) 1)) [] [(117, (.one ⟨true, false, (.ints .u8 (W.box k nn (List.take na (List.drop oa la)) (List.take nt (List.drop ot lt))))⟩))],
      ((.aggi .u8 (List.take 12 nn)) : V) = (.aggi .u8 nn),
      ((12 : Nat) ≤ List.length nn),
      ((.aggi .u8 (List.take 32 k)) : V) = (.aggi .u8 k),
      ((32 : Nat) ≤ List.length k)])
    mixed Tryd.func5 (by kernel_rfl) (by kernel_rfl) (by kernel_rfl) (by kernel_rfl) (by kernel_rfl) ⟨Contract0.inst errno2 [] [none] [] [] (by kernel_rfl) (by kernel_rfl) (by kernel_rfl) (by kernel_rfl) (by kernel_rfl), Contract0.inst known6 [] [] [] [] (by kernel_rfl) (by kernel_rfl) (by kernel_rfl) (by kernel_rfl) (by kernel_rfl), Contract0.instG (ropen_w k nn la (W.box k nn (List.take na (List.drop oa la)) (List.take nt (List.drop ot lt))) oa na 0 (nt + 16) G (by omega) (by omega) (by omega) (by omega) (by omega) (by omega) (by simp only [lensD]; omega) (by omega) (by omega) (by exact W.box_bytes) (by omega) (by omega)) pr_glob [.b 1 1 true [], .b 117 2 true []] [none, none, none, none] [] [] rfl (by kernel_rfl) (by kernel_rfl) (by kernel_rfl) (by kernel_rfl) (by kernel_rfl), EV.aggi (List.take_of_length_le (by omega)), (by omega), EV.aggi (List.take_of_length_le (by omega)), (by omega), Contract0.inst (open_ok_ff k nn la (W.box k nn (List.take na (List.drop oa la)) (List.take nt (List.drop ot lt))) oa na 0 (nt + 16) (by omega) (by omega) (by omega) (by simp only [lensD]; omega) (by omega) (by omega) (by omega) (by exact W.box_bytes) (by omega) c6) [.b 1 1 true [], .b 117 2 true []] [none, none, none, none] [] [] (by kernel_rfl) (by kernel_rfl) (by kernel_rfl) (by kernel_rfl) (by kernel_rfl), EV.aggi (List.take_of_length_le (by omega)), (by omega), EV.aggi (List.take_of_length_le (by omega)), (by omega), .mk (beq_f h5), .mk (beq_f h4), .mk (beq_f h3), .mk (beq_f h2), .mk (beq_f h1), .mk (beq_f h0), Contract0.inst (pick_ok how 7 (by omega) (by omega)) [] [none, none] [] [] (by kernel_rfl) (by kernel_rfl) (by kernel_rfl) (by kernel_rfl) (by kernel_rfl), Contract0.instG (rseal_ok k nn la lt oa na ot nt G (by omega) (by omega) (by omega) (by omega) (by omega) (by omega) (by omega) (by omega) (by omega) (by omega)) pr_glob [.b 1 1 true [], .b 2 2 true []] [none, none, none, none] [(4, 117)] [] rfl (by kernel_rfl) (by kernel_rfl) (by kernel_rfl) (by kernel_rfl) (by kernel_rfl), EV.aggi (List.take_of_length_le (by omega)), (by omega), EV.aggi (List.take_of_length_le (by omega)), (by omega), trivial⟩)

theorem aeadOpens_ffffffc1 (k nn la lt lr : List Int) (oa na ot nt o_ nr : Nat) (how at_ by_ : Int) (G : Nat → List Int)
    (hk : k.length = 32)
    (hnn : nn.length = 12)
    (hkb : W.bytes k)
    (hnb : W.bytes nn)
    (hG : G 2 = W.rows)
    (hla : oa + na ≤ la.length)
    (hlt : ot + nt ≤ lt.length)
    (hs : na + nt ≤ 1900000)
    (hba : W.bytes la)
    (hbt : W.bytes lt)
    (hlr : o_ + nr ≤ lr.length)
    (hs2 : na + nr ≤ 1900000)
    (hbr : W.bytes lr)
    (hho : -9223372036854775808 ≤ how ∧ how < 9223372036854775808)
    (hat : -9223372036854775808 ≤ at_ ∧ at_ < 9223372036854775808)
    (hby : 0 ≤ by_ ∧ by_ < 256)
    (hp7 : (W.pick how 7 : Int) < 7)
    (hp1 : (W.pick at_ ((nt + 16 : Nat) : Int) : Int) < ((nt + 16 : Nat) : Int))
    (hp2 : (W.pick at_ ((nt + 16 + 1 : Nat) : Int) : Int) < ((nt + 16 + 1 : Nat) : Int))
    (hp3 : (W.pick at_ 32 : Int) < 32)
    (hp4 : (W.pick at_ 12 : Int) < 12)
    (h0 : (¬(↑(W.pick how (7 : Int)) : Int) = (0 : Int)))
    (h1 : (¬(↑(W.pick how (7 : Int)) : Int) = (1 : Int)))
    (h2 : (¬(↑(W.pick how (7 : Int)) : Int) = (2 : Int)))
    (h3 : (¬(↑(W.pick how (7 : Int)) : Int) = (3 : Int)))
    (h4 : (¬(↑(W.pick how (7 : Int)) : Int) = (4 : Int)))
    (h5 : (¬(↑(W.pick how (7 : Int)) : Int) = (5 : Int)))
    (c6 : (List.take (16 : Nat) (List.drop ((0 : Nat) + (nt + (16 : Nat) - (16 : Nat))) (W.box k nn (List.take na (List.drop oa la)) (List.take nt (List.drop ot lt)))) = List.take (16 : Nat) (W.boxTag k nn (List.take na (List.drop oa la)) (List.take (nt + (16 : Nat) - (16 : Nat)) (List.drop (0 : Nat) (W.box k nn (List.take na (List.drop oa la)) (List.take nt (List.drop ot lt)))))))) :
    Contract0 Tryd.prog 5 [(.aggi .u8 k), (.aggi .u8 nn), (.c (.sl 1 0 oa na 1)), (.c (.sl 2 0 ot nt 1)), (.c (.int .i64 how)), (.c (.int .i64 at_)), (.c (.int .u8 by_)), (.c (.sl 3 0 o_ nr 1))] [(0, (.many (fun j_ => some ⟨false, false, (.ints (W.gk j_) (G j_))⟩))), (1, (.one ⟨false, false, (.ints .u8 la)⟩)), (2, (.one ⟨false, false, (.ints .u8 lt)⟩)), (3, (.one ⟨false, false, (.ints .u8 lr)⟩))] 5 (.c (.bool (true))) [] [] :=
  Contract0.unkill pr_glob (Contract0.of_frun (res := (.c (.bool (true)))) (up := []) (kill := [0]) (n0 := 5) (m := [(0, (.many (fun j_ => some ⟨false, false, (.ints (W.gk j_) (G j_))⟩))), (1, (.one ⟨false, false, (.ints .u8 la)⟩)), (2, (.one ⟨false, false, (.ints .u8 lt)⟩)), (3, (.one ⟨false, false, (.ints .u8 lr)⟩))]) (args := [(.aggi .u8 k), (.aggi .u8 nn), (.c (.sl 1 0 oa na 1)), (.c (.sl 2 0 ot nt 1)), (.c (.int .i64 how)), (.c (.int .i64 at_)), (.c (.int .u8 by_)), (.c (.sl 3 0 o_ nr 1))]) (fn := Tryd.f5) (c := bodyOf Tryd.f5) (fuel := 300) (k := kOf Tryd.prog Tryd.f5) (outs := []) (hs := [(3, ⟨.ask, some (.aggi .u8 k)⟩), (4, ⟨.ask, some (.aggi .u8 nn)⟩), (7, ⟨.call [0, 1, 2] (.c (.sl 117 0 0 (nt + 16) 1)) [] [(117, (.one ⟨true, false, (.ints .u8 (W.box k nn (List.take na (List.drop oa la)) (List.take nt (List.drop ot lt))))⟩))], none⟩), (10, ⟨.call [] (.c (.int .i64 (↑(W.pick how 7)))) [] [], none⟩), (12, ⟨.auto, some (.c (.bool (false)))⟩), (15, ⟨.auto, some (.c (.bool (false)))⟩), (18, ⟨.auto, some (.c (.bool (false)))⟩), (21, ⟨.auto, some (.c (.bool (false)))⟩), (24, ⟨.auto, some (.c (.bool (false)))⟩), (27, ⟨.auto, some (.c (.bool (false)))⟩), (29, ⟨.ask, some (.aggi .u8 k)⟩), (30, ⟨.ask, some (.aggi .u8 nn)⟩), (33, ⟨.call [1, 117] (.tup [(.c (.sl 437 0 0 nt 1)), (.c (.int .i64 0))]) [] [(437, (.one ⟨true, false, (.ints .u8 (W.apply k 1 nn (List.take (nt + 16 - 16) (W.box k nn (List.take na (List.drop oa la)) (List.take nt (List.drop ot lt))))))⟩))], none⟩), (39, ⟨.ask, some (.aggi .u8 k)⟩), (40, ⟨.ask, some (.aggi .u8 nn)⟩), (43, ⟨.call [0, 1, 117] (.tup [(.c (.sl 597 0 0 nt 1)), (.c (.int .i64 0))]) [] [(597, (.one ⟨true, false, (.ints .u8 (W.apply k 1 nn (List.take (nt + 16 - 16) (W.box k nn (List.take na (List.drop oa la)) (List.take nt (List.drop ot lt))))))⟩))], none⟩), (49, ⟨.call [] (.c (.bool (true))) [] [], none⟩), (52, ⟨.ask, none⟩), (54, ⟨.ask, none⟩), (55, ⟨.ask, some (.c (.bool (true)))⟩), (60, ⟨.call [] (.c (.int .i64 0)) [] [], none⟩)])
    (cs := [Contract Tryd.prog 32 [(.c (.int .i64 0))] [] 869 (.c (.int .i64 0)) [] [],
      EB (ByteArray.toList { data := List.toArray (List.map (fun n => UInt8.ofNat (Int.toNat n)) (List.take nt (List.drop 0 (W.apply k 1 nn (List.take (nt + 16 - 16) (W.box k nn (List.take na (List.drop oa la)) (List.take nt (List.drop ot lt)))))))) } == ByteArray.toList { data := List.toArray (List.map (fun n => UInt8.ofNat (Int.toNat n)) (List.take nt (List.drop 0 (W.apply k 1 nn (List.take (nt + 16 - 16) (W.box k nn (List.take na (List.drop oa la)) (List.take nt (List.drop ot lt)))))))) }) true,
      ((0 : Nat) + nt ≤ List.length (W.apply k (1 : Int) nn (List.take (nt + (16 : Nat) - (16 : Nat)) (W.box k nn (List.take na (List.drop oa la)) (List.take nt (List.drop ot lt)))))),
      ((0 : Nat) + nt ≤ List.length (W.apply k (1 : Int) nn (List.take (nt + (16 : Nat) - (16 : Nat)) (W.box k nn (List.take na (List.drop oa la)) (List.take nt (List.drop ot lt)))))),
      Contract Tryd.prog 24 [] [] 693 (.c (.bool (true))) [] [],
      Contract Tryd.prog 31 [(.aggi .u8 k), (.aggi .u8 nn), (.c (.sl 1 0 oa na 1)), (.c (.sl 117 0 0 (nt + 16) 1))] [(0, (.many (fun j_ => some ⟨false, false, (.ints (W.gk j_) (G j_))⟩))), (1, (.one ⟨false, false, (.ints .u8 la)⟩)), (117, (.one ⟨true, false, (.ints .u8 (W.box k nn (List.take na (List.drop oa la)) (List.take nt (List.drop ot lt))))⟩))] 597 (.tup [(.c (.sl 597 0 0 nt 1)), (.c (.int .i64 0))]) [] [(597, (.one ⟨true, false, (.ints .u8 (W.apply k 1 nn (List.take (nt + 16 - 16) (W.box k nn (List.take na (List.drop oa la)) (List.take nt (List.drop ot lt))))))⟩))],
      ((.aggi .u8 (List.take 12 nn)) : V) = (.aggi .u8 nn),
      ((12 : Nat) ≤ List.length nn),
      ((.aggi .u8 (List.take 32 k)) : V) = (.aggi .u8 k),
      ((32 : Nat) ≤ List.length k),
      Contract Tryd.prog 30 [(.aggi .u8 k), (.aggi .u8 nn), (.c (.sl 1 0 oa na 1)), (.c (.sl 117 0 0 (nt + 16) 1))] [(1, (.one ⟨false, false, (.ints .u8 la)⟩)), (117, (.one ⟨true, false, (.ints .u8 (W.box k nn (List.take na (List.drop oa la)) (List.take nt (List.drop ot lt))))⟩))] 437 (.tup [(.c (.sl 437 0 0 nt 1)), (.c (.int .i64 0))]) [] [(437, (.one ⟨true, false, (.ints .u8 (W.apply k 1 nn (List.take (nt + 16 - 16) (W.box k nn (List.take na (List.drop oa la)) (List.take nt (List.drop ot lt))))))⟩))],
      ((.aggi .u8 (List.take 12 nn)) : V) = (.aggi .u8 nn),
      ((12 : Nat) ≤ List.length nn),
      ((.aggi .u8 (List.take 32 k)) : V) = (.aggi .u8 k),
      ((32 : Nat) ≤ List.length k),
      EB ((↑(W.pick how 7) : Int) == 5) false,
      EB ((↑(W.pick how 7) : Int) == 4) false,
      EB ((↑(W.pick how 7) : Int) == 3) false,
      EB ((↑(W.pick how 7) : Int) == 2) false,
      EB ((↑(W.pick how 7) : Int) == 1) false,
      EB ((↑(W.pick how 7) : Int) == 0) false,
      Contract Tryd.prog 29 [(.c (.int .i64 how)), (.c (.int .i64 7))] [] 165 (.c (.int .i64 (↑(W.pick how 7)))) [] [],
      Contract Tryd.prog 26 [(.aggi .u8 k), (.aggi .u8 nn), (.c (.sl 1 0 oa na 1)), (.c (.sl 2 0 ot nt 1))] [(0, (.many (fun j_ => some ⟨false, false, (.ints (W.gk j_) (G j_))⟩))), (1, (.one ⟨false, false, (.ints .u8 la)⟩)), (2, (.one ⟨false, false, (.ints .u8 lt)⟩))] 117 (.c (.sl 117 0 0 (nt + 16) 1)) [] [(117, (.one ⟨true, false, (.ints .u8 (W.box k nn (List.take na (List.drop oa la)) (List.take nt (List.drop ot lt))))⟩))],
      ((.aggi .u8 (List.take 12 nn)) : V) = (.aggi .u8 nn),
      ((12 : Nat) ≤ List.length nn),
      ((.aggi .u8 (List.take 32 k)) : V) = (.aggi .u8 k),
      ((32 : Nat) ≤ List.length k)])
    mixed Tryd.func5 (by kernel_rfl) (by kernel_rfl) (by kernel_rfl) (by kernel_rfl) (by kernel_rfl) ⟨Contract0.inst errno0 [] [none] [] [] (by kernel_rfl) (by kernel_rfl) (by kernel_rfl) (by kernel_rfl) (by kernel_rfl), .mk (strEq_t (by simp only [List.take_take, Nat.min_self, List.drop_zero])), (by simp only [lensD]; omega), (by simp only [lensD]; omega), Contract0.inst known6 [] [] [] [] (by kernel_rfl) (by kernel_rfl) (by kernel_rfl) (by kernel_rfl) (by kernel_rfl), Contract0.instG (ropen_o k nn la (W.box k nn (List.take na (List.drop oa la)) (List.take nt (List.drop ot lt))) oa na 0 (nt + 16) G (by omega) (by omega) (by omega) (by omega) (by omega) (by omega) (by simp only [lensD]; omega) (by omega) (by omega) (by exact W.box_bytes) (by omega) (by omega)) pr_glob [.b 1 1 true [], .b 117 2 true []] [none, none, none, none] [(4, 597)] [] rfl (by kernel_rfl) (by kernel_rfl) (by kernel_rfl) (by kernel_rfl) (by kernel_rfl), EV.aggi (List.take_of_length_le (by omega)), (by omega), EV.aggi (List.take_of_length_le (by omega)), (by omega), Contract0.inst (open_ok_ft k nn la (W.box k nn (List.take na (List.drop oa la)) (List.take nt (List.drop ot lt))) oa na 0 (nt + 16) (by omega) (by omega) (by omega) (by simp only [lensD]; omega) (by omega) (by omega) (by omega) (by exact W.box_bytes) (by omega) c6) [.b 1 1 true [], .b 117 2 true []] [none, none, none, none] [(3, 437)] [] (by kernel_rfl) (by kernel_rfl) (by kernel_rfl) (by kernel_rfl) (by kernel_rfl), EV.aggi (List.take_of_length_le (by omega)), (by omega), EV.aggi (List.take_of_length_le (by omega)), (by omega), .mk (beq_f h5), .mk (beq_f h4), .mk (beq_f h3), .mk (beq_f h2), .mk (beq_f h1), .mk (beq_f h0), Contract0.inst (pick_ok how 7 (by omega) (by omega)) [] [none, none] [] [] (by kernel_rfl) (by kernel_rfl) (by kernel_rfl) (by kernel_rfl) (by kernel_rfl), Contract0.instG (rseal_ok k nn la lt oa na ot nt G (by omega) (by omega) (by omega) (by omega) (by omega) (by omega) (by omega) (by omega) (by omega) (by omega)) pr_glob [.b 1 1 true [], .b 2 2 true []] [none, none, none, none] [(4, 117)] [] rfl (by kernel_rfl) (by kernel_rfl) (by kernel_rfl) (by kernel_rfl) (by kernel_rfl), EV.aggi (List.take_of_length_le (by omega)), (by omega), EV.aggi (List.take_of_length_le (by omega)), (by omega), trivial⟩)


end Go.Proofs.YtmfnldkiaodkpaaDoor.Vm

namespace Go.Proofs.YtmfnldkiaodkpaaDoor.Vm
open Go Go.Proofs Go.Proofs.YtmfnldkiaodkpaaDoor
theorem aeadOpens_law (k : List Int) (hk : k.length = 32) (hkb : W.bytes k) (nn : List Int) (hnn : nn.length = 12) (hnb : W.bytes nn) (la : List Int) (na : Nat) (hla : 0 + na ≤ la.length) (hba : W.bytes la) (hsa : la.length ≤ 1048576) (lt : List Int) (nt : Nat) (hlt : 0 + nt ≤ lt.length) (hbt : W.bytes lt) (hst : lt.length ≤ 1048576)
    (how : Int) (hho : -9223372036854775808 ≤ how ∧ how < 9223372036854775808) (at_ : Int) (hat : -9223372036854775808 ≤ at_ ∧ at_ < 9223372036854775808) (by_ : Int) (hby : 0 ≤ by_ ∧ by_ < 256) (lr : List Int) (nr : Nat) (hlr : 0 + nr ≤ lr.length) (hbr : W.bytes lr) (hsr : lr.length ≤ 1048576) (hsum : la.length + lt.length + lr.length ≤ 1048576) :
    Contract0 Tryd.prog 5 [(.aggi .u8 k), (.aggi .u8 nn), (.c (.sl 1 0 0 na 1)), (.c (.sl 2 0 0 nt 1)), (.c (.int .i64 how)), (.c (.int .i64 at_)), (.c (.int .u8 by_)), (.c (.sl 3 0 0 nr 1))] ((0, .many (fun j_ => some ⟨false, false, .ints (W.gk j_) (GA j_)⟩)) :: memS [.one ⟨false, false, .ints .u8 la⟩, .one ⟨false, false, .ints .u8 lt⟩, .one ⟨false, false, .ints .u8 lr⟩] 1) 5 (.c (.bool true)) [] [] := by
  have p7 : (W.pick how 7 : Int) < 7 := W.pick_lt (by decide)
  have p1 : (W.pick at_ ((nt + 16 : Nat) : Int) : Int) < ((nt + 16 : Nat) : Int) := W.pick_lt (by omega)
  have p2 : (W.pick at_ ((nt + 16 + 1 : Nat) : Int) : Int) < ((nt + 16 + 1 : Nat) : Int) := W.pick_lt (by omega)
  have p3 : (W.pick at_ 32 : Int) < 32 := W.pick_lt (by decide)
  have p4 : (W.pick at_ 12 : Int) < 12 := W.pick_lt (by decide)
  have hs1 : na + nt ≤ 1900000 := by omega
  have hs2 : na + nr ≤ 1900000 := by omega
  by_cases h0 : (W.pick how 7 : Int) = 0
  · by_cases c : (nr : Int) < 16
    · exact aeadOpens_tc0 k nn la lt lr 0 na 0 nt 0 nr how at_ by_ GA hk hnn hkb hnb rfl hla hlt hs1 hba hbt hlr hs2 hbr hho hat hby p7 p1 p2 p3 p4 h0 c
    · exact (Classical.em _).elim (fun c2 => aeadOpens_tc2 k nn la lt lr 0 na 0 nt 0 nr how at_ by_ GA hk hnn hkb hnb rfl hla hlt hs1 hba hbt hlr hs2 hbr hho hat hby p7 p1 p2 p3 p4 h0 c c2) (fun c2 => aeadOpens_tc1 k nn la lt lr 0 na 0 nt 0 nr how at_ by_ GA hk hnn hkb hnb rfl hla hlt hs1 hba hbt hlr hs2 hbr hho hat hby p7 p1 p2 p3 p4 h0 c c2)
  by_cases h1 : (W.pick how 7 : Int) = 1
  · exact (Classical.em _).elim (fun c2 => aeadOpens_ftc1 k nn la lt lr 0 na 0 nt 0 nr how at_ by_ GA hk hnn hkb hnb rfl hla hlt hs1 hba hbt hlr hs2 hbr hho hat hby p7 p1 p2 p3 p4 h0 h1 c2) (fun c2 => aeadOpens_ftc0 k nn la lt lr 0 na 0 nt 0 nr how at_ by_ GA hk hnn hkb hnb rfl hla hlt hs1 hba hbt hlr hs2 hbr hho hat hby p7 p1 p2 p3 p4 h0 h1 c2)
  by_cases h2 : (W.pick how 7 : Int) = 2
  · have c3 : (0 : Int) ≤ (0 : Int) ∧ (0 : Int) ≤ (W.pick at_ ((nt + 17 : Nat) : Int) : Int) ∧ (W.pick at_ ((nt + 17 : Nat) : Int) : Int) ≤ ((nt + 16 : Nat) : Int) := by
      have : (W.pick at_ ((nt + 17 : Nat) : Int) : Int) < ((nt + 17 : Nat) : Int) := p2
      omega
    by_cases c : (W.pick at_ ((nt + 17 : Nat) : Int) : Int) < 16
    · exact aeadOpens_fftc0 k nn la lt lr 0 na 0 nt 0 nr how at_ by_ GA hk hnn hkb hnb rfl hla hlt hs1 hba hbt hlr hs2 hbr hho hat hby p7 p1 p2 p3 p4 h0 h1 h2 c3 c
    · exact (Classical.em _).elim (fun c2 => aeadOpens_fftc2 k nn la lt lr 0 na 0 nt 0 nr how at_ by_ GA hk hnn hkb hnb rfl hla hlt hs1 hba hbt hlr hs2 hbr hho hat hby p7 p1 p2 p3 p4 h0 h1 h2 c3 c c2) (fun c2 => aeadOpens_fftc1 k nn la lt lr 0 na 0 nt 0 nr how at_ by_ GA hk hnn hkb hnb rfl hla hlt hs1 hba hbt hlr hs2 hbr hho hat hby p7 p1 p2 p3 p4 h0 h1 h2 c3 c c2)
  by_cases h3 : (W.pick how 7 : Int) = 3
  · have c4 : W.bytes (List.take (nt + 16) (W.box k nn (List.take na (List.drop 0 la)) (List.take nt (List.drop 0 lt))) ++ [by_]) := W.bytes_app (W.bytes_take W.box_bytes) (W.bytes_one hby)
    exact (Classical.em _).elim (fun c2 => aeadOpens_ffftc1 k nn la lt lr 0 na 0 nt 0 nr how at_ by_ GA hk hnn hkb hnb rfl hla hlt hs1 hba hbt hlr hs2 hbr hho hat hby p7 p1 p2 p3 p4 h0 h1 h2 h3 c4 c2) (fun c2 => aeadOpens_ffftc0 k nn la lt lr 0 na 0 nt 0 nr how at_ by_ GA hk hnn hkb hnb rfl hla hlt hs1 hba hbt hlr hs2 hbr hho hat hby p7 p1 p2 p3 p4 h0 h1 h2 h3 c4 c2)
  by_cases h4 : (W.pick how 7 : Int) = 4
  · exact (Classical.em _).elim (fun c2 => aeadOpens_fffftc1 k nn la lt lr 0 na 0 nt 0 nr how at_ by_ GA hk hnn hkb hnb rfl hla hlt hs1 hba hbt hlr hs2 hbr hho hat hby p7 p1 p2 p3 p4 h0 h1 h2 h3 h4 c2) (fun c2 => aeadOpens_fffftc0 k nn la lt lr 0 na 0 nt 0 nr how at_ by_ GA hk hnn hkb hnb rfl hla hlt hs1 hba hbt hlr hs2 hbr hho hat hby p7 p1 p2 p3 p4 h0 h1 h2 h3 h4 c2)
  by_cases h5 : (W.pick how 7 : Int) = 5
  · exact (Classical.em _).elim (fun c2 => aeadOpens_ffffftc1 k nn la lt lr 0 na 0 nt 0 nr how at_ by_ GA hk hnn hkb hnb rfl hla hlt hs1 hba hbt hlr hs2 hbr hho hat hby p7 p1 p2 p3 p4 h0 h1 h2 h3 h4 h5 c2) (fun c2 => aeadOpens_ffffftc0 k nn la lt lr 0 na 0 nt 0 nr how at_ by_ GA hk hnn hkb hnb rfl hla hlt hs1 hba hbt hlr hs2 hbr hho hat hby p7 p1 p2 p3 p4 h0 h1 h2 h3 h4 h5 c2)
  · exact (Classical.em _).elim (fun c2 => aeadOpens_ffffffc1 k nn la lt lr 0 na 0 nt 0 nr how at_ by_ GA hk hnn hkb hnb rfl hla hlt hs1 hba hbt hlr hs2 hbr hho hat hby p7 p1 p2 p3 p4 h0 h1 h2 h3 h4 h5 c2) (fun c2 => aeadOpens_ffffffc0 k nn la lt lr 0 na 0 nt 0 nr how at_ by_ GA hk hnn hkb hnb rfl hla hlt hs1 hba hbt hlr hs2 hbr hho hat hby p7 p1 p2 p3 p4 h0 h1 h2 h3 h4 h5 c2)
end Go.Proofs.YtmfnldkiaodkpaaDoor.Vm
