/- A slice of slices of words that came in, opened: each row reads as the digits of a number. -/
import Derived.Test.YtflleaifmeiikaaKL
import Derived.Test.YtflleaifmeiikaaMany
import Derived.Deep.Matrix
namespace Go.Proofs.Ytflleaifmeiikaa
open Go.ChangeShapes Go.WideShapes Go.ChangeAt Go.RowKit
set_option linter.unusedVariables false
theorem rows_open {H : Type} {enc : TypeId × Value → H} {P : Program} {w : World} {base : Nat} {held : Bool} {t e q : TypeId} {fuel : Nat} {cs : List Value} {d : DataW H} {p : List MemPlace}
    (ht : P.underlying t = some (.slice e)) (he : P.underlying e = some (.slice q)) (hq : P.underlying q = some (.int .u64)) (ce : P.cellsOf e = 1) (cq : P.cellsOf q = 1)
    (h : DataW.trod enc P w base (fun _ => true) held fuel t cs = some (d, p)) {A : Option Addr} {N C : Nat} (hcs : cs = [.slice A N C]) (hb : Rows.uptoBulk d ≤ 1048576) : ∃ X, RowsAt w A N C X 1048576 := by
  rcases Go.Deep.open_int_rows ht he hq ce cq h with ⟨hc, hx⟩ | ⟨a, len, cap, Ar, L, Cc, Z, hc, _, hl, hm, hx, hr⟩
  · rw [hcs] at hc
    simp only [List.cons.injEq, Value.slice.injEq, and_true] at hc
    obtain ⟨rfl, rfl, rfl⟩ := hc
    exact ⟨fun _ => 0, fun h => absurd h (by omega)⟩
  · rw [hcs] at hc
    simp only [List.cons.injEq, Value.slice.injEq, and_true] at hc
    obtain ⟨rfl, rfl, rfl⟩ := hc
    have each : ∀ r, r < C → ∃ y, Dig .u64 W w (Ar r) (L r) (Cc r) y := by
      intro r hr'
      obtain ⟨h1, h2, h3, h4, h5, h6, h7⟩ := hr r hr'
      rcases hA : Ar r with _ | a'
      · have h0 := h6 hA
        have hL : L r = 0 := by omega
        rw [hL]
        exact ⟨0, Dig.nil _ _ _ _ (by omega)⟩
      · exact words_open h2 h3 h4 (fun i hi => (h7 a' hA).2 i (by omega)) h5
    refine ⟨fun r => if h : r < C then Classical.choose (each r h) else 0, fun hN => ?_⟩
    have h0 := (hr 0 (by omega)).1
    obtain ⟨g, o, spot⟩ := a
    have hspot : spot = none := by simpa [Addr.add] using World.cell?_spot h0
    subst hspot
    refine ⟨g, o, rfl, World.block_lt_of_cell? w ⟨g, o, none⟩ (by simpa [Addr.add] using h0), fun j hj => ⟨Ar j, L j, Cc j, ?_, ?_, ?_⟩⟩
    · have h1 := (hr j (by omega)).1
      rw [Addr.add_lit] at h1
      exact h1
    · simp only [dif_pos (show j < C by omega)]
      exact Classical.choose_spec (each j (by omega))
    · obtain ⟨h1, h2, h3, h4, h5, h6, h7⟩ := hr j (by omega)
      simp only [Prod.mk.injEq] at hx
      rcases hA : Ar j with _ | a'
      · have := h6 hA; omega
      · have hmem : Go.Deep.intRow .u64 (Ar j) (L j) (Z j) ∈ (List.range N).map fun r => Go.Deep.intRow (H := H) .u64 (Ar r) (L r) (Z r) := List.mem_map.2 ⟨j, List.mem_range.2 hj, rfl⟩
        have h8 := Go.Proofs.Ytflleaifmeiikaa.bulks.elem_le (spare := (List.range (C - N)).map fun j => Go.Deep.intRow .u64 (Ar (N + j)) (L (N + j)) (Z (N + j))) hmem
        rw [← hx.1, hA] at h8
        have h9 := Go.Proofs.Ytflleaifmeiikaa.bulks.slice_le (H := H) (lits .u64 ((Z j).take (L j))) (lits .u64 ((Z j).drop (L j)))
        simp only [Go.Deep.intRow] at h8
        simp only [lits, List.length_map, List.length_take, List.length_drop] at h9 h8
        omega
end Go.Proofs.Ytflleaifmeiikaa
