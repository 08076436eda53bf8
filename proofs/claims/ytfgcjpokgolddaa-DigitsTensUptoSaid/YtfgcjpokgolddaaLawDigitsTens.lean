/- 'DigitsTens': for every input whose bulk is within the bound the call returns true, and what came in reads as it did. No condition of its own. -/
import Derived.Test.YtfgcjpokgolddaaDigitsTens
import Derived.Test.YtfgcjpokgolddaaKL
import Derived.JoinedCond
namespace Go.Proofs.Ytfgcjpokgolddaa.digitsTens
open Go.ChangeShapes Go.WideShapes Go.ChangeAt Go.RowKit
set_option linter.unusedVariables false
theorem contract (H : Type) (enc : TypeId × Value → H) (W : World) (base : Nat) (args : Array Value) (ds gs : List (DataW H)) (before : List MemPlace)
    (hval0 : ∀ (j : Nat) t v, Try.f8.params[j]? = some t → args[j]? = some v → Value.okWide Try.prog W .any base t v)
    (hW : DataW.Whole enc Try.prog Try.f8.params.toList Rows.digitsTensSpec.vars false W args.toList ds gs before) (hk : Rows.uptoSmall H (ds ++ gs) = true) :
    Calls Try.prog 8 args W fun e W' => ∃ v, e = .returned v ∧ Rows.digitsTensSpec.post enc Try.prog Try.f8 false true false false W args v W' := by
  have hval : ∀ (j : Nat) t v, Try.f8.params[j]? = some t → args[j]? = some v → Value.okWide Try.prog W .any base t v := hval0
  have hW' := hW
  obtain ⟨p, q, hA0, hV, rfl, hfz, hnd⟩ := hW
  have hA : DataW.TrodAll enc Try.prog W 0 (fun _ => true) true Try.f8.params.toList args.toList ds p := hA0
  rw [Try.params8] at hA hval
  obtain ⟨v0, vs0, d0, ds0, p0, q0, hargs, rfl, rfl, h0, r0⟩ := trodAll_cons hA
  obtain ⟨rfl, rfl, rfl⟩ := trodAll_nil r0
  obtain rfl : args = #[v0] := by cases args; simp_all
  obtain ⟨rfl, rfl⟩ := trodVars_none hV
  have bd0 : Rows.uptoBulk d0 ≤ 1048576 := Go.Proofs.Ytfgcjpokgolddaa.bulks.part_le hk (List.mem_append_left _ List.mem_cons_self)
  obtain ⟨a0, len0, cap0, rfl⟩ := okWide_slice Try.underlying22 (hval 0 22 v0 rfl rfl)
  have k0 := h0
  have lt0 : ∀ x ∈ p0, x.block < W.heap.size := by obtain ⟨m, hm⟩ := k0; exact DataW.trod_lt m _ _ _ hm
  obtain ⟨x0, hx0, blk0⟩ : ∃ x, Dig .u64 Go.Proofs.Ytfgcjpokgolddaa.W W a0 len0 cap0 x ∧ cap0 + 1 ≤ Rows.uptoBulk d0 := by
    obtain ⟨fuel, hf⟩ := h0
    rcases open_ints Try.underlying22 Try.underlying52 (by kernel_rfl) hf with ⟨hcs, hdd⟩ | ⟨x, l, c, zs, hcs, _, hl, hm, hz, hdd, hcell, hwz⟩
    · simp [Value.cells] at hcs
      obtain ⟨rfl, rfl, rfl⟩ := hcs
      exact ⟨0, Dig.nil _ _ _ _ (by omega), by have := Go.Proofs.Ytfgcjpokgolddaa.bulks.one_le d0; omega⟩
    · simp [Value.cells] at hcs
      obtain ⟨rfl, rfl, rfl⟩ := hcs
      have hzl0 : zs.length = cap0 := by simpa using hz
      obtain ⟨y, hy⟩ := words_open hl hm hzl0 hcell hwz
      have hd0 := (Prod.mk.inj hdd).1
      have hb0 := Go.Proofs.Ytfgcjpokgolddaa.bulks.slice_le (H := H) (lits .u64 (zs.take len0)) (lits .u64 (zs.drop len0))
      rw [hd0]
      simp only [lits, List.length_map, List.length_take, List.length_drop] at hb0
      exact ⟨y, hy, by simp only [lits]; omega⟩
  have lc0 := hx0.cap
  clear hA0 hval0
  refine (law_DigitsTens a0 len0 cap0 x0 W hx0 (by omega)).mono fun e W' ⟨he, bel⟩ => ?_
  subst he
  exact ⟨_, rfl, _, _, _, [], _, [], hW', trodAll_mk1 (shut_bool Try.underlying4 _), (trodAll_cons_mk (Below.trod row_laidOut (by kernel_rfl) (of_decide_eq_true (by kernel_rfl)) k0 bel lt0) trodAll_mk0), rfl, bel.frame _, fun h => by cases h⟩
set_option maxRecDepth 100000 in
theorem lifted (os : Os) (started : os.Started) (H : Type) (enc : TypeId × Value → H) (F : Stop.Interp) :
    ReturnsInHanded {} Try.checked os 8 .any ((Rows.OpenSpec.upto Rows.digitsTensSpec).pre6 enc Try.prog Try.f8 Rows.digitsTensUptoRow.domain false) (((Rows.OpenSpec.upto Rows.digitsTensSpec).at F).post enc Try.prog Try.f8 false true false false) := by
  refine returnsInHanded_of_cond (C := Try.checked) (s := Rows.OpenSpec.upto Rows.digitsTensSpec) (k := Rows.uptoSmall) rfl row_own started (by kernel_rfl) Try.func8
    (OpenSpec.witness (enc := enc) (C := Try.checked) (s := Rows.OpenSpec.upto Rows.digitsTensSpec) (k := Rows.uptoSmall) rfl false ⟨#[], #[.slice none 0 0], []⟩ 8 (by kernel_rfl) (by kernel_rfl) (by kernel_rfl)
      (x := ([.nil], [], [])) (by kernel_rfl) rfl (by kernel_rfl)) ?_
  intro W base args ds gs before hval hW _ hk _
  exact contract H enc W base args ds gs before hval hW hk
theorem over : Rows.digitsTensUptoRow.holds Try.pinned (Rows.OpenSpec.upto Rows.digitsTensSpec) :=
  OpenClaim.holds_of_cond 8 Try.f8 rfl rfl rfl rfl rfl rfl rfl ⟨rfl, rfl, rfl, rfl, rfl⟩ rfl rfl rfl rfl rfl (by kernel_rfl) Try.func8 (by kernel_rfl)
    (of_decide_eq_true (by kernel_rfl)) (by unfold Func.isWrapper; first | (rw [if_pos (by decide +kernel)]; kernel_rfl) | (rw [if_neg (by decide +kernel)]; exact ⟨rfl, rfl⟩))
    (fun os started H enc _ F => lifted os started H enc F)
/-- the statement -/
theorem proved : Rows.DigitsTensUptoSaid := over
#print axioms proved
end Go.Proofs.Ytfgcjpokgolddaa.digitsTens
