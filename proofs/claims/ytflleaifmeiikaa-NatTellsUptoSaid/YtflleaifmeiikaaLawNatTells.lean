/- 'NatTells': for every input whose bulk is within the bound the call returns true, and what came in reads as it did. No condition of its own. -/
import Derived.Test.YtflleaifmeiikaaNatTells
import Derived.Test.YtflleaifmeiikaaKL
import Derived.JoinedCond
namespace Go.Proofs.Ytflleaifmeiikaa.natTells
open Go.ChangeShapes Go.WideShapes Go.ChangeAt Go.RowKit
set_option linter.unusedVariables false
theorem contract (H : Type) (enc : TypeId × Value → H) (W : World) (base : Nat) (args : Array Value) (ds gs : List (DataW H)) (before : List MemPlace)
    (hval0 : ∀ (j : Nat) t v, Try.f3.params[j]? = some t → args[j]? = some v → Value.okWide Try.prog W .any base t v)
    (hW : DataW.Whole enc Try.prog Try.f3.params.toList Rows.natTellsSpec.vars false W args.toList ds gs before) (hk : Rows.uptoSmall H (ds ++ gs) = true) :
    Calls Try.prog 3 args W fun e W' => ∃ v, e = .returned v ∧ Rows.natTellsSpec.post enc Try.prog Try.f3 false true false false W args v W' := by
  have hval : ∀ (j : Nat) t v, Try.f3.params[j]? = some t → args[j]? = some v → Value.okWide Try.prog W .any base t v := hval0
  have hW' := hW
  obtain ⟨p, q, hA0, hV, rfl, hfz, hnd⟩ := hW
  have hA : DataW.TrodAll enc Try.prog W 0 (fun _ => true) true Try.f3.params.toList args.toList ds p := hA0
  rw [Try.params3] at hA hval
  obtain ⟨v0, vs0, d0, ds0, p0, q0, hargs, rfl, rfl, h0, r0⟩ := trodAll_cons hA
  obtain ⟨v1, vs1, d1, ds1, p1, q1, rfl, rfl, rfl, h1, r1⟩ := trodAll_cons r0
  obtain ⟨rfl, rfl, rfl⟩ := trodAll_nil r1
  obtain rfl : args = #[v0, v1] := by cases args; simp_all
  obtain ⟨rfl, rfl⟩ := trodVars_none hV
  have bd0 : Rows.uptoBulk d0 ≤ 1048576 := Go.Proofs.Ytflleaifmeiikaa.bulks.part_le hk (List.mem_append_left _ List.mem_cons_self)
  have bd1 : Rows.uptoBulk d1 ≤ 1048576 := Go.Proofs.Ytflleaifmeiikaa.bulks.part_le hk (List.mem_append_left _ (List.mem_cons_of_mem _ List.mem_cons_self))
  obtain ⟨a0, len0, cap0, rfl⟩ := okWide_slice Try.underlying22 (hval 0 22 v0 rfl rfl)
  have k0 := h0
  have lt0 : ∀ x ∈ p0, x.block < W.heap.size := by obtain ⟨m, hm⟩ := k0; exact DataW.trod_lt m _ _ _ hm
  obtain ⟨x0, hx0, blk0⟩ : ∃ x, Dig .u64 Go.Proofs.Ytflleaifmeiikaa.W W a0 len0 cap0 x ∧ cap0 + 1 ≤ Rows.uptoBulk d0 := by
    obtain ⟨fuel, hf⟩ := h0
    rcases open_ints Try.underlying22 Try.underlying30 (by kernel_rfl) hf with ⟨hcs, hdd⟩ | ⟨x, l, c, zs, hcs, _, hl, hm, hz, hdd, hcell, hwz⟩
    · simp [Value.cells] at hcs
      obtain ⟨rfl, rfl, rfl⟩ := hcs
      exact ⟨0, Dig.nil _ _ _ _ (by omega), by have := Go.Proofs.Ytflleaifmeiikaa.bulks.one_le d0; omega⟩
    · simp [Value.cells] at hcs
      obtain ⟨rfl, rfl, rfl⟩ := hcs
      have hzl0 : zs.length = cap0 := by simpa using hz
      obtain ⟨y, hy⟩ := words_open hl hm hzl0 hcell hwz
      have hd0 := (Prod.mk.inj hdd).1
      have hb0 := Go.Proofs.Ytflleaifmeiikaa.bulks.slice_le (H := H) (lits .u64 (zs.take len0)) (lits .u64 (zs.drop len0))
      rw [hd0]
      simp only [lits, List.length_map, List.length_take, List.length_drop] at hb0
      exact ⟨y, hy, by simp only [lits]; omega⟩
  have lc0 := hx0.cap
  obtain ⟨a1, rfl, rfl, rfl, w1⟩ := open_int Try.underlying3 (hval 1 3 v1 rfl rfl) h1
  have hx1 := i64_open w1
  clear hA0 hval0
  refine (law_NatTells a0 len0 cap0 x0 a1 W hx0 (by omega) hx1.1 hx1.2).mono fun e W' ⟨he, bel⟩ => ?_
  subst he
  exact ⟨_, rfl, _, _, _, [], _, [], hW', trodAll_mk1 (shut_bool Try.underlying4 _), (trodAll_cons_mk (Below.trod row_laidOut (by kernel_rfl) (of_decide_eq_true (by kernel_rfl)) k0 bel lt0) (trodAll_cons_mk (shut_int Try.underlying3 w1) trodAll_mk0)), rfl, bel.frame _, fun h => by cases h⟩
set_option maxRecDepth 100000 in
theorem lifted (os : Os) (started : os.Started) (H : Type) (enc : TypeId × Value → H) (F : Stop.Interp) :
    ReturnsInHanded {} Try.checked os 3 .any ((Rows.OpenSpec.upto Rows.natTellsSpec).pre6 enc Try.prog Try.f3 Rows.natTellsUptoRow.domain false) (((Rows.OpenSpec.upto Rows.natTellsSpec).at F).post enc Try.prog Try.f3 false true false false) := by
  refine returnsInHanded_of_cond (C := Try.checked) (s := Rows.OpenSpec.upto Rows.natTellsSpec) (k := Rows.uptoSmall) rfl row_own started (by kernel_rfl) Try.func3
    (OpenSpec.witness (enc := enc) (C := Try.checked) (s := Rows.OpenSpec.upto Rows.natTellsSpec) (k := Rows.uptoSmall) rfl false ⟨#[], #[.slice none 0 0, .int .i64 0], []⟩ 8 (by kernel_rfl) (by kernel_rfl) (by kernel_rfl)
      (x := ([.nil, .lit (.int .i64 0)], [], [])) (by kernel_rfl) rfl (by kernel_rfl)) ?_
  intro W base args ds gs before hval hW _ hk _
  exact contract H enc W base args ds gs before hval hW hk
theorem over : Rows.natTellsUptoRow.holds Try.pinned (Rows.OpenSpec.upto Rows.natTellsSpec) :=
  OpenClaim.holds_of_cond 3 Try.f3 rfl rfl rfl rfl rfl rfl rfl ⟨rfl, rfl, rfl, rfl, rfl⟩ rfl rfl rfl rfl rfl (by kernel_rfl) Try.func3 (by kernel_rfl)
    (of_decide_eq_true (by kernel_rfl)) (by unfold Func.isWrapper; first | (rw [if_pos (by decide +kernel)]; kernel_rfl) | (rw [if_neg (by decide +kernel)]; exact ⟨rfl, rfl⟩))
    (fun os started H enc _ F => lifted os started H enc F)
/-- the statement -/
theorem proved : Rows.NatTellsUptoSaid := over
#print axioms proved
end Go.Proofs.Ytflleaifmeiikaa.natTells
