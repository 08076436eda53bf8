/- From a row's arguments, as data, to what the walks are told: numbers, and slices that read as digits. -/
import Derived.Test.YtflleaifmeiikaaMem
import Derived.Test.YtflleaifmeiikaaRows
import Derived.ProofKit
import Derived.OpenShut
import Derived.ShutString
import Derived.ChangeOld
import Derived.SizedLaws
namespace Go.Proofs.Ytflleaifmeiikaa
open Go.ChangeShapes Go.WideShapes Go.ChangeAt Go.RowKit
theorem row_own : ownKnob Try.prog.godebug = none := by kernel_rfl
theorem row_laidOut : laidOutB Try.prog = true := by kernel_rfl
theorem u64_open {a : Int} (h : (Lit.int .u64 a).wf = true) : ∃ x : Nat, a = (x : Int) ∧ x < W := by
  have h : 0 ≤ a ∧ a ≤ 18446744073709551615 := by simpa [Lit.wf, IntKind.min, IntKind.max, IntKind.signed, IntKind.bits] using h
  exact ⟨a.toNat, by omega, by unfold W; omega⟩
theorem u16_open {a : Int} (h : (Lit.int .u16 a).wf = true) : ∃ x : Nat, a = (x : Int) ∧ x < 65536 := by
  have h : 0 ≤ a ∧ a ≤ 65535 := by simpa [Lit.wf, IntKind.min, IntKind.max, IntKind.signed, IntKind.bits] using h
  exact ⟨a.toNat, by omega, by omega⟩
theorem i64_open {a : Int} (h : (Lit.int .i64 a).wf = true) : -9223372036854775808 ≤ a ∧ a ≤ 9223372036854775807 := by
  simpa [Lit.wf, IntKind.min, IntKind.max, IntKind.signed, IntKind.bits] using h
theorem i32_open {a : Int} (h : (Lit.int .i32 a).wf = true) : -2147483648 ≤ a ∧ a ≤ 2147483647 := by
  simpa [Lit.wf, IntKind.min, IntKind.max, IntKind.signed, IntKind.bits] using h
/-- a slice of words that came in reads as the digits of a number to the base 2 to the 64 -/
theorem words_open {w : World} {a : Addr} {len cap : Nat} {zs : List Int} (hl : len ≤ cap) (hm : cap ≤ maxLen) (hz : zs.length = cap) (hc : ∀ i, i < zs.length → w.cell? (a.add i) = some (.int .u64 (zs.getD i 0))) (hw : ∀ n ∈ zs, (Lit.int .u64 n).wf = true) :
    ∃ x, Dig .u64 W w (some a) len cap x := by
  have hb : ∀ d ∈ (zs.take len).map Int.toNat, d < W := by
    intro d hd
    obtain ⟨n, hn, rfl⟩ := List.mem_map.1 hd
    obtain ⟨x, rfl, hx⟩ := u64_open (hw n (List.mem_of_mem_take hn))
    simpa using hx
  have hlen : ((zs.take len).map Int.toNat).length = len := by simp; omega
  refine ⟨val W ((zs.take len).map Int.toNat), ?_, hl, by simpa [maxLen] using hm, fun hn => ?_⟩
  · have := val_lt W_pos hb; rwa [hlen] at this
  · have h0 := hc 0 (by omega)
    obtain ⟨g, o, spot⟩ := a
    have hspot : spot = none := by simpa [Addr.add] using World.cell?_spot h0
    subst hspot
    refine ⟨g, o, rfl, World.block_lt_of_cell? w ⟨g, o, none⟩ (by simpa [Addr.add] using h0), fun j hj => ?_⟩
    have h1 := hc j (by omega)
    rw [Addr.add_lit] at h1
    rw [h1, dg_val W_pos hb (by omega)]
    have hget : ((zs.take len).map Int.toNat).getD j 0 = (zs.getD j 0).toNat := by
      rw [List.getD_eq_getElem?_getD, List.getElem?_map, List.getElem?_take, if_pos hj, List.getD_eq_getElem?_getD, List.getElem?_eq_getElem (by omega)]
      simp
    rw [hget]
    have hmem : zs.getD j 0 ∈ zs := by
      rw [List.getD_eq_getElem?_getD, List.getElem?_eq_getElem (by omega)]
      exact List.getElem_mem _
    obtain ⟨x, hx, _⟩ := u64_open (hw _ hmem)
    rw [hx]; simp
end Go.Proofs.Ytflleaifmeiikaa
