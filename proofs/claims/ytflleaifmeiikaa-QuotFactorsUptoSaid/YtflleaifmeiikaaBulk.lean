/- What the bound on the arguments' bulk gives: how long a slice or a text may be. -/
import Derived.Test.YtflleaifmeiikaaRows
set_option linter.unusedVariables false
namespace Go.Proofs.Ytflleaifmeiikaa.bulks
variable {H : Type}
theorem one_le (d : DataW H) : 1 ≤ Rows.uptoBulk d := by
  cases d with
  | lit l => cases l <;> simp [Rows.uptoBulk]
  | _ => simp [Rows.uptoBulk]
theorem mem_le {d : DataW H} : ∀ {l : List (DataW H)}, d ∈ l → Rows.uptoBulk d ≤ Rows.uptoBulkAll l
  | x :: r, h => by
    rw [Rows.uptoBulkAll]
    rcases List.mem_cons.1 h with rfl | h
    · omega
    · have := mem_le h; omega
theorem count_le : ∀ l : List (DataW H), l.length ≤ Rows.uptoBulkAll l
  | [] => by simp
  | x :: r => by
    have h1 := one_le x
    have h2 := count_le r
    rw [Rows.uptoBulkAll, List.length_cons]
    omega
theorem slice_le (elems spare : List (DataW H)) : elems.length + spare.length + 1 ≤ Rows.uptoBulk (.slice elems spare) := by
  have h1 := count_le elems
  have h2 := count_le spare
  rw [Rows.uptoBulk]
  omega
theorem elem_le {d : DataW H} {elems spare : List (DataW H)} (h : d ∈ elems) : Rows.uptoBulk d ≤ Rows.uptoBulk (.slice elems spare) := by
  have h1 := mem_le h
  rw [Rows.uptoBulk]
  omega
theorem string_le (bytes : List UInt8) : bytes.length + 1 ≤ Rows.uptoBulk (DataW.lit (H := H) (.string bytes)) := by
  simp [Rows.uptoBulk]
theorem part_le {l : List (DataW H)} (h : Rows.uptoSmall H l = true) {d : DataW H} (hd : d ∈ l) : Rows.uptoBulk d ≤ 1048576 := by
  have h1 : Rows.uptoBulkAll l ≤ 1048576 := of_decide_eq_true h
  exact Nat.le_trans (mem_le hd) h1
end Go.Proofs.Ytflleaifmeiikaa.bulks
