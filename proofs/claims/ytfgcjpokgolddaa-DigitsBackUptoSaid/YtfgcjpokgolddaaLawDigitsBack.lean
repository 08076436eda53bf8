/- 'DigitsBack': for every input whose bulk is within the bound the call returns true, and what came in reads as it did. No condition of its own. -/
import Derived.Test.YtfgcjpokgolddaaDigitsBack
import Derived.Test.YtfgcjpokgolddaaKL
import Derived.JoinedCond
namespace Go.Proofs.Ytfgcjpokgolddaa.digitsBack
open Go.ChangeShapes Go.WideShapes Go.ChangeAt Go.RowKit
set_option linter.unusedVariables false
theorem contract (H : Type) (enc : TypeId × Value → H) (W : World) (base : Nat) (args : Array Value) (ds gs : List (DataW H)) (before : List MemPlace)
    (hval0 : ∀ (j : Nat) t v, Try.f6.params[j]? = some t → args[j]? = some v → Value.okWide Try.prog W .any base t v)
    (hW : DataW.Whole enc Try.prog Try.f6.params.toList Rows.digitsBackSpec.vars false W args.toList ds gs before) (hk : Rows.uptoSmall H (ds ++ gs) = true) :
    Calls Try.prog 6 args W fun e W' => ∃ v, e = .returned v ∧ Rows.digitsBackSpec.post enc Try.prog Try.f6 false true false false W args v W' := by
  have hval : ∀ (j : Nat) t v, Try.f6.params[j]? = some t → args[j]? = some v → Value.okWide Try.prog W .any base t v := hval0
  have hW' := hW
  obtain ⟨p, q, hA0, hV, rfl, hfz, hnd⟩ := hW
  have hA : DataW.TrodAll enc Try.prog W 0 (fun _ => true) true Try.f6.params.toList args.toList ds p := hA0
  rw [Try.params6] at hA hval
  obtain ⟨v0, vs0, d0, ds0, p0, q0, hargs, rfl, rfl, h0, r0⟩ := trodAll_cons hA
  obtain ⟨v1, vs1, d1, ds1, p1, q1, rfl, rfl, rfl, h1, r1⟩ := trodAll_cons r0
  obtain ⟨v2, vs2, d2, ds2, p2, q2, rfl, rfl, rfl, h2, r2⟩ := trodAll_cons r1
  obtain ⟨rfl, rfl, rfl⟩ := trodAll_nil r2
  obtain rfl : args = #[v0, v1, v2] := by cases args; simp_all
  obtain ⟨rfl, rfl⟩ := trodVars_none hV
  have bd0 : Rows.uptoBulk d0 ≤ 1048576 := Go.Proofs.Ytfgcjpokgolddaa.bulks.part_le hk (List.mem_append_left _ List.mem_cons_self)
  have bd1 : Rows.uptoBulk d1 ≤ 1048576 := Go.Proofs.Ytfgcjpokgolddaa.bulks.part_le hk (List.mem_append_left _ (List.mem_cons_of_mem _ List.mem_cons_self))
  have bd2 : Rows.uptoBulk d2 ≤ 1048576 := Go.Proofs.Ytfgcjpokgolddaa.bulks.part_le hk (List.mem_append_left _ (List.mem_cons_of_mem _ (List.mem_cons_of_mem _ List.mem_cons_self)))
  obtain ⟨a0, len0, cap0, rfl⟩ := okWide_slice Try.underlying22 (hval 0 22 v0 rfl rfl)
  have k0 := h0
  have lt0 : ∀ x ∈ p0, x.block < W.heap.size := by obtain ⟨m, hm⟩ := k0; exact DataW.trod_lt m _ _ _ hm
  obtain ⟨x0, hx0, blk0⟩ : ∃ x, Dig .u64 Go.Proofs.Ytfgcjpokgolddaa.W W a0 len0 cap0 x ∧ cap0 + 1 ≤ Rows.uptoBulk d0 := by
    obtain ⟨fuel, hf⟩ := h0
    rcases open_ints Try.underlying22 Try.underlying52 (by kernel_rfl) hf with ⟨hcs, hdd⟩ | ⟨x, l, c, zs, hcs, _, hl, hm, hz, hdd, hcell, hwz⟩
    · simp [Value.cells] at hcs
      obtain ⟨rfl, rfl, rfl⟩ := hcs
      exact ⟨0, Dig.nil _ _ _ _ (by omega), by have := Go.Proofs.Ytfgcjpokgolddaa.bulks.one_le d0; omega⟩
    · simp [Value.cells] at hcs
      obtain ⟨rfl, rfl, rfl⟩ := hcs
      have hzl0 : zs.length = cap0 := by simpa using hz
      obtain ⟨y, hy⟩ := words_open hl hm hzl0 hcell hwz
      have hd0 := (Prod.mk.inj hdd).1
      have hb0 := Go.Proofs.Ytfgcjpokgolddaa.bulks.slice_le (H := H) (lits .u64 (zs.take len0)) (lits .u64 (zs.drop len0))
      rw [hd0]
      simp only [lits, List.length_map, List.length_take, List.length_drop] at hb0
      exact ⟨y, hy, by simp only [lits]; omega⟩
  have lc0 := hx0.cap
  obtain ⟨a1, len1, cap1, rfl⟩ := okWide_slice Try.underlying30 (hval 1 30 v1 rfl rfl)
  have k1 := h1
  have lt1 : ∀ x ∈ p1, x.block < W.heap.size := by obtain ⟨m, hm⟩ := k1; exact DataW.trod_lt m _ _ _ hm
  obtain ⟨x1, hx1, blk1⟩ : ∃ x, Dig .u8 256 W a1 len1 cap1 x ∧ cap1 + 1 ≤ Rows.uptoBulk d1 := by
    obtain ⟨fuel, hf⟩ := h1
    rcases open_ints Try.underlying30 Try.underlying5 (by kernel_rfl) hf with ⟨hcs, hdd⟩ | ⟨x, l, c, zs, hcs, _, hl, hm, hz, hdd, hcell, hwz⟩
    · simp [Value.cells] at hcs
      obtain ⟨rfl, rfl, rfl⟩ := hcs
      exact ⟨0, Dig.nil _ _ _ _ (by omega), by have := Go.Proofs.Ytfgcjpokgolddaa.bulks.one_le d1; omega⟩
    · simp [Value.cells] at hcs
      obtain ⟨rfl, rfl, rfl⟩ := hcs
      have hzl1 : zs.length = cap1 := by simpa using hz
      obtain ⟨y, hy⟩ := bytes_open hl hm hzl1 hcell hwz
      have hd1 := (Prod.mk.inj hdd).1
      have hb1 := Go.Proofs.Ytfgcjpokgolddaa.bulks.slice_le (H := H) (lits .u8 (zs.take len1)) (lits .u8 (zs.drop len1))
      rw [hd1]
      simp only [lits, List.length_map, List.length_take, List.length_drop] at hb1
      exact ⟨y, hy, by simp only [lits]; omega⟩
  have lc1 := hx1.cap
  obtain ⟨s2, rfl, rfl, rfl, w2⟩ := Go.ChangeMaps.open_string Try.underlying9 (hval 2 9 v2 rfl rfl) h2
  have blk2 := Go.Proofs.Ytfgcjpokgolddaa.bulks.string_le (H := H) s2.data.toList
  have sz2 : s2.size ≤ 1048576 := by rw [show s2.size = s2.data.toList.length from rfl]; omega
  clear hA0 hval0
  refine (law_DigitsBack a0 len0 cap0 x0 a1 len1 cap1 x1 s2 W hx0 (by omega) hx1 (by omega) (by omega)).mono fun e W' ⟨he, bel⟩ => ?_
  subst he
  exact ⟨_, rfl, _, _, _, [], _, [], hW', trodAll_mk1 (shut_bool Try.underlying4 _), (trodAll_cons_mk (Below.trod row_laidOut (by kernel_rfl) (of_decide_eq_true (by kernel_rfl)) k0 bel lt0) (trodAll_cons_mk (Below.trod row_laidOut (by kernel_rfl) (of_decide_eq_true (by kernel_rfl)) k1 bel lt1) (trodAll_cons_mk (Go.ChangeMaps.shut_string Try.underlying9 w2) trodAll_mk0))), rfl, bel.frame _, fun h => by cases h⟩
set_option maxRecDepth 100000 in
theorem lifted (os : Os) (started : os.Started) (H : Type) (enc : TypeId × Value → H) (F : Stop.Interp) :
    ReturnsInHanded {} Try.checked os 6 .any ((Rows.OpenSpec.upto Rows.digitsBackSpec).pre6 enc Try.prog Try.f6 Rows.digitsBackUptoRow.domain false) (((Rows.OpenSpec.upto Rows.digitsBackSpec).at F).post enc Try.prog Try.f6 false true false false) := by
  refine returnsInHanded_of_cond (C := Try.checked) (s := Rows.OpenSpec.upto Rows.digitsBackSpec) (k := Rows.uptoSmall) rfl row_own started (by kernel_rfl) Try.func6
    (OpenSpec.witness (enc := enc) (C := Try.checked) (s := Rows.OpenSpec.upto Rows.digitsBackSpec) (k := Rows.uptoSmall) rfl false ⟨#[], #[.slice none 0 0, .slice none 0 0, .string ⟨#[]⟩], []⟩ 8 (by kernel_rfl) (by kernel_rfl) (by kernel_rfl)
      (x := ([.nil, .nil, .lit (.string [])], [], [])) (by kernel_rfl) rfl (by kernel_rfl)) ?_
  intro W base args ds gs before hval hW _ hk _
  exact contract H enc W base args ds gs before hval hW hk
theorem over : Rows.digitsBackUptoRow.holds Try.pinned (Rows.OpenSpec.upto Rows.digitsBackSpec) :=
  OpenClaim.holds_of_cond 6 Try.f6 rfl rfl rfl rfl rfl rfl rfl ⟨rfl, rfl, rfl, rfl, rfl⟩ rfl rfl rfl rfl rfl (by kernel_rfl) Try.func6 (by kernel_rfl)
    (of_decide_eq_true (by kernel_rfl)) (by unfold Func.isWrapper; first | (rw [if_pos (by decide +kernel)]; kernel_rfl) | (rw [if_neg (by decide +kernel)]; exact ⟨rfl, rfl⟩))
    (fun os started H enc _ F => lifted os started H enc F)
/-- the statement -/
theorem proved : Rows.DigitsBackUptoSaid := over
#print axioms proved
end Go.Proofs.Ytfgcjpokgolddaa.digitsBack
