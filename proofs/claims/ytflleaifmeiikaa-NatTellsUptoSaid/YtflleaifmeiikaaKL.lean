/- From a row's arguments, as data, to what the walks are told: numbers, and slices that read as digits.
   What the bound on the arguments' bulk gives: how long a slice or a text may be. -/
import Derived.ProofKit
import Derived.OpenShut
import Derived.ShutString
import Derived.ChangeOld
import Derived.SizedLaws
import Derived.Test.YtflleaifmeiikaaKA
import Derived.Test.YtflleaifmeiikaaRows
namespace Go.Proofs.Ytflleaifmeiikaa
open Go.ChangeShapes Go.WideShapes Go.ChangeAt Go.RowKit
theorem row_own : ownKnob Try.prog.godebug = none := by kernel_rfl
theorem row_laidOut : laidOutB Try.prog = true := by kernel_rfl
theorem u64_open {a : Int} (h : (Lit.int .u64 a).wf = true) : ∃ x : Nat, a = (x : Int) ∧ x < W := by
  have h : 0 ≤ a ∧ a ≤ 18446744073709551615 := by simpa [Lit.wf, IntKind.min, IntKind.max, IntKind.signed, IntKind.bits] using h
  exact ⟨a.toNat, by omega, by unfold W; omega⟩
theorem u16_open {a : Int} (h : (Lit.int .u16 a).wf = true) : ∃ x : Nat, a = (x : Int) ∧ x < 65536 := by
  have h : 0 ≤ a ∧ a ≤ 65535 := by simpa [Lit.wf, IntKind.min, IntKind.max, IntKind.signed, IntKind.bits] using h
  exact ⟨a.toNat, by omega, by omega⟩
theorem i64_open {a : Int} (h : (Lit.int .i64 a).wf = true) : -9223372036854775808 ≤ a ∧ a ≤ 9223372036854775807 := by
  simpa [Lit.wf, IntKind.min, IntKind.max, IntKind.signed, IntKind.bits] using h
theorem i32_open {a : Int} (h : (Lit.int .i32 a).wf = true) : -2147483648 ≤ a ∧ a ≤ 2147483647 := by
  simpa [Lit.wf, IntKind.min, IntKind.max, IntKind.signed, IntKind.bits] using h
theorem u8_open {a : Int} (h : (Lit.int .u8 a).wf = true) : ∃ x : Nat, a = (x : Int) ∧ x < 256 := by
  have h : 0 ≤ a ∧ a ≤ 255 := by simpa [Lit.wf, IntKind.min, IntKind.max, IntKind.signed, IntKind.bits] using h
  exact ⟨a.toNat, by omega, by omega⟩
/-- a slice of words that came in reads as the digits of a number to the base 2 to the 64 -/
theorem words_open {w : World} {a : Addr} {len cap : Nat} {zs : List Int} (hl : len ≤ cap) (hm : cap ≤ maxLen) (hz : zs.length = cap) (hc : ∀ i, i < zs.length → w.cell? (a.add i) = some (.int .u64 (zs.getD i 0))) (hw : ∀ n ∈ zs, (Lit.int .u64 n).wf = true) :
    ∃ x, Dig .u64 W w (some a) len cap x := by
  have hb : ∀ d ∈ (zs.take len).map Int.toNat, d < W := by
    intro d hd
    obtain ⟨n, hn, rfl⟩ := List.mem_map.1 hd
    obtain ⟨x, rfl, hx⟩ := u64_open (hw n (List.mem_of_mem_take hn))
    simpa using hx
  have hlen : ((zs.take len).map Int.toNat).length = len := by simp; omega
  refine ⟨val W ((zs.take len).map Int.toNat), ?_, hl, by simpa [maxLen] using hm, fun hn => ?_⟩
  · have := val_lt W_pos hb; rwa [hlen] at this
  · have h0 := hc 0 (by omega)
    obtain ⟨g, o, spot⟩ := a
    have hspot : spot = none := by simpa [Addr.add] using World.cell?_spot h0
    subst hspot
    refine ⟨g, o, rfl, World.block_lt_of_cell? w ⟨g, o, none⟩ (by simpa [Addr.add] using h0), fun j hj => ?_⟩
    have h1 := hc j (by omega)
    rw [Addr.add_lit] at h1
    rw [h1, dg_val W_pos hb (by omega)]
    have hget : ((zs.take len).map Int.toNat).getD j 0 = (zs.getD j 0).toNat := by
      rw [List.getD_eq_getElem?_getD, List.getElem?_map, List.getElem?_take, if_pos hj, List.getD_eq_getElem?_getD, List.getElem?_eq_getElem (by omega)]
      simp
    rw [hget]
    have hmem : zs.getD j 0 ∈ zs := by
      rw [List.getD_eq_getElem?_getD, List.getElem?_eq_getElem (by omega)]
      exact List.getElem_mem _
    obtain ⟨x, hx, _⟩ := u64_open (hw _ hmem)
    rw [hx]; simp
/-- a slice of bytes that came in reads as the digits of a number to the base 256 -/
theorem bytes_open {w : World} {a : Addr} {len cap : Nat} {zs : List Int} (hl : len ≤ cap) (hm : cap ≤ maxLen) (hz : zs.length = cap) (hc : ∀ i, i < zs.length → w.cell? (a.add i) = some (.int .u8 (zs.getD i 0))) (hw : ∀ n ∈ zs, (Lit.int .u8 n).wf = true) :
    ∃ x, Dig .u8 256 w (some a) len cap x := by
  have hb : ∀ d ∈ (zs.take len).map Int.toNat, d < 256 := by
    intro d hd
    obtain ⟨n, hn, rfl⟩ := List.mem_map.1 hd
    obtain ⟨x, rfl, hx⟩ := u8_open (hw n (List.mem_of_mem_take hn))
    simpa using hx
  have hlen : ((zs.take len).map Int.toNat).length = len := by simp; omega
  refine ⟨val 256 ((zs.take len).map Int.toNat), ?_, hl, by simpa [maxLen] using hm, fun hn => ?_⟩
  · have := val_lt (by decide) hb; rwa [hlen] at this
  · have h0 := hc 0 (by omega)
    obtain ⟨g, o, spot⟩ := a
    have hspot : spot = none := by simpa [Addr.add] using World.cell?_spot h0
    subst hspot
    refine ⟨g, o, rfl, World.block_lt_of_cell? w ⟨g, o, none⟩ (by simpa [Addr.add] using h0), fun j hj => ?_⟩
    have h1 := hc j (by omega)
    rw [Addr.add_lit] at h1
    rw [h1, dg_val (by decide) hb (by omega)]
    have hget : ((zs.take len).map Int.toNat).getD j 0 = (zs.getD j 0).toNat := by
      rw [List.getD_eq_getElem?_getD, List.getElem?_map, List.getElem?_take, if_pos hj, List.getD_eq_getElem?_getD, List.getElem?_eq_getElem (by omega)]
      simp
    rw [hget]
    have hmem : zs.getD j 0 ∈ zs := by
      rw [List.getD_eq_getElem?_getD, List.getElem?_eq_getElem (by omega)]
      exact List.getElem_mem _
    obtain ⟨x, hx, _⟩ := u8_open (hw _ hmem)
    rw [hx]; simp
/-- what a struct's slice weighs -/
theorem sized_agg2 {H : Type} {P : Program} {ts : List TypeId} {ds : List (DataW H)} (h : (DataW.weightsEach P ts ds).all (· ≤ reachBytes) = true) {j : Nat} {t e : TypeId} {f0 f1 : Field} {y0 y1 : DataW H} {elems spare : List (DataW H)} (ht : ts[j]? = some t) (hd : ds[j]? = some (.agg [y0, y1])) (hs : P.underlying t = some (.struct #[f0, f1])) (hy : y1 = .slice elems spare) (hu : P.underlying f1.type = some (.slice e)) :
    (elems.length + spare.length) * P.bytesOf e ≤ reachBytes := by
  subst hy
  have := List.all_eq_true.1 h _ (DataW.weights_mem_each ht hd ((elems.length + spare.length) * P.bytesOf e) (by simp [DataW.weights, DataW.weightsEach, hs, hu]))
  simpa using this
end Go.Proofs.Ytflleaifmeiikaa
set_option linter.unusedVariables false
namespace Go.Proofs.Ytflleaifmeiikaa.bulks
variable {H : Type}
theorem one_le (d : DataW H) : 1 ≤ Rows.uptoBulk d := by
  cases d with
  | lit l => cases l <;> simp [Rows.uptoBulk]
  | _ => simp [Rows.uptoBulk]
theorem mem_le {d : DataW H} : ∀ {l : List (DataW H)}, d ∈ l → Rows.uptoBulk d ≤ Rows.uptoBulkAll l
  | x :: r, h => by
    rw [Rows.uptoBulkAll]
    rcases List.mem_cons.1 h with rfl | h
    · omega
    · have := mem_le h; omega
theorem count_le : ∀ l : List (DataW H), l.length ≤ Rows.uptoBulkAll l
  | [] => by simp
  | x :: r => by
    have h1 := one_le x
    have h2 := count_le r
    rw [Rows.uptoBulkAll, List.length_cons]
    omega
theorem slice_le (elems spare : List (DataW H)) : elems.length + spare.length + 1 ≤ Rows.uptoBulk (.slice elems spare) := by
  have h1 := count_le elems
  have h2 := count_le spare
  rw [Rows.uptoBulk]
  omega
theorem elem_le {d : DataW H} {elems spare : List (DataW H)} (h : d ∈ elems) : Rows.uptoBulk d ≤ Rows.uptoBulk (.slice elems spare) := by
  have h1 := mem_le h
  rw [Rows.uptoBulk]
  omega
theorem agg_le {d : DataW H} {l : List (DataW H)} (h : d ∈ l) : Rows.uptoBulk d ≤ Rows.uptoBulk (.agg l) := by
  have h1 := mem_le h
  rw [Rows.uptoBulk]
  omega
theorem string_le (bytes : List UInt8) : bytes.length + 1 ≤ Rows.uptoBulk (DataW.lit (H := H) (.string bytes)) := by
  simp [Rows.uptoBulk]
theorem part_le {l : List (DataW H)} (h : Rows.uptoSmall H l = true) {d : DataW H} (hd : d ∈ l) : Rows.uptoBulk d ≤ 1048576 := by
  have h1 : Rows.uptoBulkAll l ≤ 1048576 := of_decide_eq_true h
  exact Nat.le_trans (mem_le hd) h1
end Go.Proofs.Ytflleaifmeiikaa.bulks
