/- 'IntegerRing': for every input whose bulk is within the bound the call returns true, and what came in reads as it did. No condition of its own. -/
import Derived.Test.YtihbpkljjmpkjaaIntegerRing
import Derived.Test.YtihbpkljjmpkjaaKL
import Derived.Lib.SmallJoins
import Derived.JoinedCond
namespace Go.Proofs.Ytihbpkljjmpkjaa.integerRing
open Go.ChangeShapes Go.WideShapes Go.ChangeAt Go.RowKit
set_option linter.unusedVariables false
set_option maxRecDepth 100000 in
theorem contract (H : Type) (enc : TypeId × Value → H) (W : World) (base : Nat) (args : Array Value) (ds gs : List (DataW H)) (before : List MemPlace)
    (hval0 : ∀ (j : Nat) t v, Try.f8.params[j]? = some t → args[j]? = some v → Value.okWide Try.prog W .any base t v)
    (hW : DataW.Whole enc Try.prog Try.f8.params.toList Rows.integerRingSpec.vars false W args.toList ds gs before) (hk : Rows.uptoSmall H (ds ++ gs) = true) :
    Calls Try.prog 8 args W fun e W' => ∃ v, e = .returned v ∧ Rows.integerRingSpec.post enc Try.prog Try.f8 false true false false W args v W' := by
  have hval : ∀ (j : Nat) t v, Try.f8.params[j]? = some t → args[j]? = some v → Value.okWide Try.prog W .any base t v := hval0
  have hW' := hW
  obtain ⟨p, q, hA0, hV, rfl, hfz, hnd⟩ := hW
  have hA : DataW.TrodAll enc Try.prog W 0 (fun _ => true) true Try.f8.params.toList args.toList ds p := hA0
  rw [Try.params8] at hA hval
  obtain ⟨v0, vs0, d0, ds0, p0, q0, hargs, rfl, rfl, h0, r0⟩ := trodAll_cons hA
  obtain ⟨v1, vs1, d1, ds1, p1, q1, rfl, rfl, rfl, h1, r1⟩ := trodAll_cons r0
  obtain ⟨v2, vs2, d2, ds2, p2, q2, rfl, rfl, rfl, h2, r2⟩ := trodAll_cons r1
  obtain ⟨rfl, rfl, rfl⟩ := trodAll_nil r2
  obtain rfl : args = #[v0, v1, v2] := by cases args; simp_all
  obtain ⟨rfl, rfl⟩ := trodVars_none hV
  have bd0 : Rows.uptoBulk d0 ≤ 1048576 := Go.Proofs.Ytihbpkljjmpkjaa.bulks.part_le hk (List.mem_append_left _ List.mem_cons_self)
  have bd1 : Rows.uptoBulk d1 ≤ 1048576 := Go.Proofs.Ytihbpkljjmpkjaa.bulks.part_le hk (List.mem_append_left _ (List.mem_cons_of_mem _ List.mem_cons_self))
  have bd2 : Rows.uptoBulk d2 ≤ 1048576 := Go.Proofs.Ytihbpkljjmpkjaa.bulks.part_le hk (List.mem_append_left _ (List.mem_cons_of_mem _ (List.mem_cons_of_mem _ List.mem_cons_self)))
  have k0 := h0
  have lt0 : ∀ x ∈ p0, x.block < W.heap.size := by obtain ⟨m, hm⟩ := k0; exact DataW.trod_lt m _ _ _ hm
  obtain ⟨e0, e0', y0, y0', m0, rfl, hd0, hp0, t0, t0'⟩ := Go.Joins.open_agg2 Try.underlying24 (by kernel_rfl) (by kernel_rfl) (hval 0 24 v0 rfl rfl) h0
  obtain ⟨b0, hb0, hy0⟩ := DataW.trod_bool Try.underlying4 t0
  obtain rfl : e0 = .bool b0 := by simpa using hb0
  obtain ⟨a0, len0, cap0, u0, rfl, hx0, blk0⟩ : ∃ a l c u, e0' = .slice a l c ∧ Dig .u64 Go.Proofs.Ytihbpkljjmpkjaa.W W a l c u ∧ c + 1 ≤ Rows.uptoBulk y0'.1 := by
    rcases open_ints Try.underlying22 Try.underlying74 (by kernel_rfl) t0' with ⟨hcs, hdd⟩ | ⟨x, l, c, zs, hcs, _, hl, hm, hz, hdd, hcell, hwz⟩
    · exact ⟨none, 0, 0, 0, by simpa using hcs, Dig.nil _ _ _ _ (by omega), Go.Proofs.Ytihbpkljjmpkjaa.bulks.one_le _⟩
    · have hzl : zs.length = c := by simpa using hz
      obtain ⟨y, hy⟩ := words_open hl hm hzl hcell hwz
      have hb := Go.Proofs.Ytihbpkljjmpkjaa.bulks.slice_le (H := H) (lits .u64 (zs.take l)) (lits .u64 (zs.drop l))
      simp only [lits, List.length_map, List.length_take, List.length_drop] at hb
      exact ⟨_, _, _, y, by simpa using hcs, hy, by rw [hdd]; simp only [lits]; omega⟩
  have bg0 := Go.Proofs.Ytihbpkljjmpkjaa.bulks.agg_le (H := H) (d := y0'.1) (l := [y0.1, y0'.1]) (by simp)
  rw [← hd0] at bg0
  have lc0 := hx0.cap
  have k1 := h1
  have lt1 : ∀ x ∈ p1, x.block < W.heap.size := by obtain ⟨m, hm⟩ := k1; exact DataW.trod_lt m _ _ _ hm
  obtain ⟨e1, e1', y1, y1', m1, rfl, hd1, hp1, t1, t1'⟩ := Go.Joins.open_agg2 Try.underlying24 (by kernel_rfl) (by kernel_rfl) (hval 1 24 v1 rfl rfl) h1
  obtain ⟨b1, hb1, hy1⟩ := DataW.trod_bool Try.underlying4 t1
  obtain rfl : e1 = .bool b1 := by simpa using hb1
  obtain ⟨a1, len1, cap1, u1, rfl, hx1, blk1⟩ : ∃ a l c u, e1' = .slice a l c ∧ Dig .u64 Go.Proofs.Ytihbpkljjmpkjaa.W W a l c u ∧ c + 1 ≤ Rows.uptoBulk y1'.1 := by
    rcases open_ints Try.underlying22 Try.underlying74 (by kernel_rfl) t1' with ⟨hcs, hdd⟩ | ⟨x, l, c, zs, hcs, _, hl, hm, hz, hdd, hcell, hwz⟩
    · exact ⟨none, 0, 0, 0, by simpa using hcs, Dig.nil _ _ _ _ (by omega), Go.Proofs.Ytihbpkljjmpkjaa.bulks.one_le _⟩
    · have hzl : zs.length = c := by simpa using hz
      obtain ⟨y, hy⟩ := words_open hl hm hzl hcell hwz
      have hb := Go.Proofs.Ytihbpkljjmpkjaa.bulks.slice_le (H := H) (lits .u64 (zs.take l)) (lits .u64 (zs.drop l))
      simp only [lits, List.length_map, List.length_take, List.length_drop] at hb
      exact ⟨_, _, _, y, by simpa using hcs, hy, by rw [hdd]; simp only [lits]; omega⟩
  have bg1 := Go.Proofs.Ytihbpkljjmpkjaa.bulks.agg_le (H := H) (d := y1'.1) (l := [y1.1, y1'.1]) (by simp)
  rw [← hd1] at bg1
  have lc1 := hx1.cap
  have k2 := h2
  have lt2 : ∀ x ∈ p2, x.block < W.heap.size := by obtain ⟨m, hm⟩ := k2; exact DataW.trod_lt m _ _ _ hm
  obtain ⟨e2, e2', y2, y2', m2, rfl, hd2, hp2, t2, t2'⟩ := Go.Joins.open_agg2 Try.underlying24 (by kernel_rfl) (by kernel_rfl) (hval 2 24 v2 rfl rfl) h2
  obtain ⟨b2, hb2, hy2⟩ := DataW.trod_bool Try.underlying4 t2
  obtain rfl : e2 = .bool b2 := by simpa using hb2
  obtain ⟨a2, len2, cap2, u2, rfl, hx2, blk2⟩ : ∃ a l c u, e2' = .slice a l c ∧ Dig .u64 Go.Proofs.Ytihbpkljjmpkjaa.W W a l c u ∧ c + 1 ≤ Rows.uptoBulk y2'.1 := by
    rcases open_ints Try.underlying22 Try.underlying74 (by kernel_rfl) t2' with ⟨hcs, hdd⟩ | ⟨x, l, c, zs, hcs, _, hl, hm, hz, hdd, hcell, hwz⟩
    · exact ⟨none, 0, 0, 0, by simpa using hcs, Dig.nil _ _ _ _ (by omega), Go.Proofs.Ytihbpkljjmpkjaa.bulks.one_le _⟩
    · have hzl : zs.length = c := by simpa using hz
      obtain ⟨y, hy⟩ := words_open hl hm hzl hcell hwz
      have hb := Go.Proofs.Ytihbpkljjmpkjaa.bulks.slice_le (H := H) (lits .u64 (zs.take l)) (lits .u64 (zs.drop l))
      simp only [lits, List.length_map, List.length_take, List.length_drop] at hb
      exact ⟨_, _, _, y, by simpa using hcs, hy, by rw [hdd]; simp only [lits]; omega⟩
  have bg2 := Go.Proofs.Ytihbpkljjmpkjaa.bulks.agg_le (H := H) (d := y2'.1) (l := [y2.1, y2'.1]) (by simp)
  rw [← hd2] at bg2
  have lc2 := hx2.cap
  clear hA0 hval0
  refine (law_IntegerRing b0 a0 len0 cap0 u0 b1 a1 len1 cap1 u1 b2 a2 len2 cap2 u2 W hx0 hx1 hx2 (by omega) (by omega) (by omega)).mono fun e W' ⟨he, bel⟩ => ?_
  subst he
  exact ⟨_, rfl, _, _, _, [], _, [], hW', trodAll_mk1 (shut_bool Try.underlying4 _), (trodAll_cons_mk (Below.trod row_laidOut (by kernel_rfl) (of_decide_eq_true (by kernel_rfl)) k0 bel lt0) (trodAll_cons_mk (Below.trod row_laidOut (by kernel_rfl) (of_decide_eq_true (by kernel_rfl)) k1 bel lt1) (trodAll_cons_mk (Below.trod row_laidOut (by kernel_rfl) (of_decide_eq_true (by kernel_rfl)) k2 bel lt2) trodAll_mk0))), rfl, bel.frame _, fun h => by cases h⟩
set_option maxRecDepth 100000 in
theorem lifted (os : Os) (started : os.Started) (H : Type) (enc : TypeId × Value → H) (F : Stop.Interp) :
    ReturnsInHanded {} Try.checked os 8 .any ((Rows.OpenSpec.upto Rows.integerRingSpec).pre6 enc Try.prog Try.f8 Rows.integerRingUptoRow.domain false) (((Rows.OpenSpec.upto Rows.integerRingSpec).at F).post enc Try.prog Try.f8 false true false false) := by
  refine returnsInHanded_of_cond (C := Try.checked) (s := Rows.OpenSpec.upto Rows.integerRingSpec) (k := Rows.uptoSmall) rfl row_own started (by kernel_rfl) Try.func8
    (OpenSpec.witness (enc := enc) (C := Try.checked) (s := Rows.OpenSpec.upto Rows.integerRingSpec) (k := Rows.uptoSmall) rfl false ⟨#[], #[.agg #[.bool false, .slice none 0 0], .agg #[.bool false, .slice none 0 0], .agg #[.bool false, .slice none 0 0]], []⟩ 8 (by kernel_rfl) (by kernel_rfl) (by kernel_rfl)
      (x := ([.agg [.lit (.bool false), .nil], .agg [.lit (.bool false), .nil], .agg [.lit (.bool false), .nil]], [], [])) (by kernel_rfl) rfl (by kernel_rfl)) ?_
  intro W base args ds gs before hval hW _ hk _
  exact contract H enc W base args ds gs before hval hW hk
theorem over : Rows.integerRingUptoRow.holds Try.pinned (Rows.OpenSpec.upto Rows.integerRingSpec) :=
  OpenClaim.holds_of_cond 8 Try.f8 rfl rfl rfl rfl rfl rfl rfl ⟨rfl, rfl, rfl, rfl, rfl⟩ rfl rfl rfl rfl rfl (by kernel_rfl) Try.func8 (by kernel_rfl)
    (of_decide_eq_true (by kernel_rfl)) (by unfold Func.isWrapper; first | (rw [if_pos (by decide +kernel)]; kernel_rfl) | (rw [if_neg (by decide +kernel)]; exact ⟨rfl, rfl⟩))
    (fun os started H enc _ F => lifted os started H enc F)
/-- the statement -/
theorem proved : Rows.IntegerRingUptoSaid := over
#print axioms proved
end Go.Proofs.Ytihbpkljjmpkjaa.integerRing
