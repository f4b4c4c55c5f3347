/- What functions of the program come to: parts of the walk (Bulk). -/
import Derived.Test.YtohleiikedpmkaaRows
set_option linter.unusedSimpArgs false
set_option linter.unusedVariables false
namespace Go.Proofs.Ytohleiikedpmkaa.bulks
theorem bulk_pos {H : Type} : ∀ d : DataW H, 0 < Rows.uptoBulk d
  | .lit (.string _) => by simp [Rows.uptoBulk]
  | .lit (.int _ _) | .lit (.bool _) => by simp [Rows.uptoBulk]
  | .lit l => by cases l <;> simp [Rows.uptoBulk]
  | .nil | .ptr _ | .slice _ _ | .agg _ | .iface _ _ | .map _ | .held _ => by simp [Rows.uptoBulk]
theorem many_le {H : Type} : ∀ l : List (DataW H), l.length ≤ Rows.uptoBulkAll l
  | [] => Nat.zero_le _
  | d :: r => by have := bulk_pos d; have := many_le r; simp only [Rows.uptoBulkAll, List.length_cons]; omega
theorem part_le {H : Type} {d : DataW H} : ∀ {l : List (DataW H)}, d ∈ l → Rows.uptoBulk d ≤ Rows.uptoBulkAll l
  | x :: r, h => by
    simp only [Rows.uptoBulkAll]
    rcases List.mem_cons.1 h with rfl | h
    · omega
    · have := part_le h; omega
theorem slice_le {H : Type} (a b : List (DataW H)) : a.length + b.length + 1 ≤ Rows.uptoBulk (.slice a b) := by
  have := many_le a; have := many_le b; simp only [Rows.uptoBulk]; omega
theorem row_le {H : Type} {E S : List (DataW H)} {z : DataW H} (h : z ∈ E ∨ z ∈ S) : Rows.uptoBulk z ≤ Rows.uptoBulk (.slice E S) := by
  simp only [Rows.uptoBulk]
  rcases h with h | h
  · have := part_le h; omega
  · have := part_le h; omega
theorem bound {H : Type} {l : List (DataW H)} (h : Rows.uptoSmall H l = true) : Rows.uptoBulkAll l ≤ 1048576 := of_decide_eq_true h
end Go.Proofs.Ytohleiikedpmkaa.bulks
