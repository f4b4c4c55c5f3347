/- What functions of the program come to: parts of the walk (Gh). -/
import Derived.Test.YtohleiikedpmkaaGg
import Derived.Test.YtohleiikedpmkaaVmc
set_option linter.unusedSimpArgs false
set_option linter.unusedVariables false
namespace Go.Proofs.Ytohleiikedpmkaa.Vm
open Go Go.Proofs Go.Proofs.Ytohleiikedpmkaa
theorem renderDiffs_law (rows : Int) (hr : -9223372036854775808 ≤ rows ∧ rows < 9223372036854775808) (cols : Int) (hc : -9223372036854775808 ≤ cols ∧ cols < 9223372036854775808)
    (l : List Int) (n : Nat) (hl : 0 + n ≤ l.length) (hlb : ∀ j, -9223372036854775808 ≤ List.getD l j 0 ∧ List.getD l j 0 < 9223372036854775808) (hs : l.length ≤ 1048576)
    (l2 : List Int) (m : Nat) (hl2 : 0 + m ≤ l2.length) (hlb2 : ∀ j, -9223372036854775808 ≤ List.getD l2 j 0 ∧ List.getD l2 j 0 < 9223372036854775808) (hs2 : l2.length ≤ 1048576)
    (other : Int) (ho : -9223372036854775808 ≤ other ∧ other < 9223372036854775808) (sames : Int) (hsa : -9223372036854775808 ≤ sames ∧ sames < 9223372036854775808) :
    Contract0 Try.prog 5 [(.c (.int .i64 rows)), (.c (.int .i64 cols)), (.c (.sl 1 0 0 n 1)), (.c (.sl 2 0 0 m 1)), (.c (.int .i64 other)), (.c (.int .i64 sames))] (memL [(.i64, l), (.i64, l2)] 1) 3 (.c (.bool true)) [] [] := by
  have p6 : ∀ x : Int, W.pick x 6 < 6 := fun x => Int.ofNat_lt.1 (W.pick_lt (by decide))
  have p9 : ∀ x : Int, W.pick x 9 < 9 := fun x => Int.ofNat_lt.1 (W.pick_lt (by decide))
  by_cases h0 : Int.tmod other 3 = 0
  · by_cases h1 : Int.tmod sames 4 = 0
    · exact rdf_tt rows cols l 0 n l2 0 m other sames hr hc hl (by omega) hl2 (by omega) (p6 _) (p9 _) hlb hlb2 ho hsa (p6 _) (W.clp_in rows (by decide)) (W.clp_in cols (by decide)) h0 h1
    · exact rdf_tf rows cols l 0 n l2 0 m other sames hr hc hl (by omega) hl2 (by omega) (p6 _) (p9 _) hlb hlb2 ho hsa (p6 _) (W.clp_in rows (by decide)) (W.clp_in cols (by decide)) h0 h1
  · by_cases h1 : Int.tmod sames 4 = 0
    · exact rdf_ft rows cols l 0 n l2 0 m other sames hr hc hl (by omega) hl2 (by omega) (p6 _) (p9 _) hlb hlb2 ho hsa (p6 _) (W.clp_in rows (by decide)) (W.clp_in cols (by decide)) h0 h1
    · exact rdf_ff rows cols l 0 n l2 0 m other sames hr hc hl (by omega) hl2 (by omega) (p6 _) (p9 _) hlb hlb2 ho hsa (p6 _) (W.clp_in rows (by decide)) (W.clp_in cols (by decide)) h0 h1
end Go.Proofs.Ytohleiikedpmkaa.Vm
