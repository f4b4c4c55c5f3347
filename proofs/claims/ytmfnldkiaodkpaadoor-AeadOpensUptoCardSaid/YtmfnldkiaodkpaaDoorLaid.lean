/- What functions of the program come to: parts of the walk (Laid). -/
import Derived.Test.YtmfnldkiaodkpaaDoorEf
import Derived.Test.YtmfnldkiaodkpaaDoorRows
import Derived.Lay
import Derived.Deep.DeepHandedRow
set_option linter.unusedSimpArgs false
set_option linter.unusedVariables false
namespace Go.Proofs.YtmfnldkiaodkpaaDoor.laids
open Go.ChangeShapes Go.WideShapes Go.ChangeAt Go.RowKit Go.Proofs.YtmfnldkiaodkpaaDoor Go.Proofs.YtmfnldkiaodkpaaDoor.Vm
abbrev one : List (String × DataW Unit) := [("porthole/portholeref4.rows", Rows.laid_porthole_portholeref4_rows)]
theorem one_globs {W : World} (h : laidMet Tryd.prog one W) : GlobIs Go.Proofs.YtmfnldkiaodkpaaDoor.W.gk GA W := by
  obtain ⟨ps, h0, _, _⟩ := h
  obtain ⟨g0, t0, cs0, fuel0, p0, q0, hg0, ht0, hv0, hd0, h1, _⟩ := h0
  obtain rfl := Option.some.inj ((show Tryd.prog.globalNamed "porthole/portholeref4.rows" = some 2 by kernel_rfl).symm.trans hg0)
  obtain rfl := Option.some.inj ((show (Tryd.prog.globals[2]?).map (·.type) = some 119 by kernel_rfl).symm.trans ht0)
  have e0 : cs0.toList = ([[0, 4, 8, 12], [1, 5, 9, 13], [2, 6, 10, 14], [3, 7, 11, 15], [0, 5, 10, 15], [1, 6, 11, 12], [2, 7, 8, 13], [3, 4, 9, 14]] : List (List Int)).flatten.map (Value.int .i64) := trod_rows Tryd.underlying119 Tryd.underlying110 Tryd.underlying3 (by kernel_rfl) (by kernel_rfl) (by kernel_rfl) (zss := [[0, 4, 8, 12], [1, 5, 9, 13], [2, 6, 10, 14], [3, 7, 11, 15], [0, 5, 10, 15], [1, 6, 11, 12], [2, 7, 8, 13], [3, 4, 9, 14]]) hd0
  obtain ⟨u0, f0, b0⟩ := block_of_var (show Tryd.prog.globalNamed "porthole/portholeref4.rows" = some 2 by kernel_rfl) hv0
  have c0 : cs0 = (Go.Proofs.YtmfnldkiaodkpaaDoor.W.rows.map (Value.int .i64)).toArray := by cases cs0; simp only at e0; rw [e0]; rfl
  rw [c0] at b0
  intro i
  by_cases i0 : i = 2
  · subst i0; exact .inr ⟨_, _, b0⟩
  · refine .inl ?_
    unfold GA
    split
    · contradiction
    · rfl
end Go.Proofs.YtmfnldkiaodkpaaDoor.laids
