/- The walks of package digits, second part: Plain, Parse. -/
import Derived.Test.YtfgcjpokgolddaaDig
import Derived.Test.YtfgcjpokgolddaaKI
import Derived.Test.YtfgcjpokgolddaaKD
set_option linter.unusedVariables false
set_option linter.unusedSimpArgs false
namespace Go.Proofs.Ytfgcjpokgolddaa
open Go.RowKit
set_option maxRecDepth 100000
theorem digits_Plain_yes (A : Option Addr) (n c v : Nat) (w : World) (h : Dig .u8 256 w A n c v) (hv : n = 0 ∨ dg 256 0 v ≠ 0) :
    Calls Try.prog 23 #[.slice A n c] w fun e w' => e = .returned (.bool true) ∧ w = w' := by
  have m1 := h.max
  have m2 := h.cap
  rcases Nat.eq_zero_or_pos n with hn0 | hn0
  · subst hn0
    clear hv
    go_enter Try.func23, Try.ntmps23
    go_wp2_with fail
    go_ret
    exact ⟨rfl, rfl⟩
  · replace hv : dg 256 0 v ≠ 0 := by rcases hv with e | e; (exact absurd e (by omega)); exact e
    obtain ⟨g, o, rfl, hg, hc⟩ := h.at_ hn0
    have c0 := hc 0 hn0
    rw [Nat.add_zero] at c0
    have zn : (((n : Nat) : Int) == 0) = false := by simp; omega
    have zi : (0 : Int) < (n : Int) := by omega
    have hd := dg_lt (b := 256) (by decide) 0 v
    have z1 : (((dg 256 0 v : Nat) : Int) == 0) = false := by simp; omega
    have z2 : (((dg 256 0 v : Nat) : Int) != 0) = true := by simp; omega
    generalize dg 256 0 v = d at *
    clear hc hv
    go_enter Try.func23, Try.ntmps23
    go_wp2_with fail
    go_ret
    exact ⟨rfl, rfl⟩
theorem digits_Plain_no (A : Option Addr) (n c v : Nat) (w : World) (h : Dig .u8 256 w A n c v) (h0 : 0 < n) (hv : dg 256 0 v = 0) :
    Calls Try.prog 23 #[.slice A n c] w fun e w' => e = .returned (.bool false) ∧ w = w' := by
  have m1 := h.max
  have m2 := h.cap
  have hn0 := h0
  obtain ⟨g, o, rfl, hg, hc⟩ := h.at_ hn0
  have c0 := hc 0 hn0
  rw [Nat.add_zero] at c0
  have zn : (((n : Nat) : Int) == 0) = false := by simp; omega
  have zi : (0 : Int) < (n : Int) := by omega
  have hd := dg_lt (b := 256) (by decide) 0 v
  have z1 : (((dg 256 0 v : Nat) : Int) == 0) = true := by simp; omega
  have z2 : (((dg 256 0 v : Nat) : Int) != 0) = false := by simp; omega
  generalize dg 256 0 v = d at *
  clear hc hv
  go_enter Try.func23, Try.ntmps23
  go_wp2_with fail
  go_ret
  exact ⟨rfl, rfl⟩
set_option maxHeartbeats 4000000 in
theorem digits_Parse_no (A : Option Addr) (n c v : Nat) (w : World) (h : Dig .u8 256 w A n c v) (hn : n ≤ 140737488351232) (h0 : 0 < n) (hv : dg 256 0 v = 0) :
    Calls Try.prog 19 #[.slice A n c] w (RetNatB w 0 false) := by
  have HV := Lib.hid hv
  clear hv
  go_enter Try.func19, Try.ntmps19
  go_wp2_with fail
  have X1 := Blk1.newAt w (w.heap.size) 25 (.slice none 0 0) (by first | rfl | simp)
  have hbwe1 : Below w.heap.size w (w.alloc (.cells #[.slice none 0 0] 25)) := (by with_reducible repeat (first | exact Below.refl _ _ | refine nxa ?_ _ | refine nxd ?_ _ | refine nxw ?_ | refine nx ?_ (by assumption)))
  generalize (w.alloc (.cells #[.slice none 0 0] 25)) = we1 at X1 hbwe1  ⊢
  refine (digits_Plain_no _ _ _ _ _ (h.to (by with_reducible repeat (first | exact Below.refl _ _ | refine nxa ?_ _ | refine nxd ?_ _ | refine nxw ?_ | refine nx ?_ (by assumption)))) h0 HV.out).mono ?_
  rintro e w1 ⟨rfl, rfl⟩
  have d1 := (show Blk1 we1 _ _ _ from X1.to (by with_reducible repeat (first | exact Below.refl _ _ | refine nxa ?_ _ | refine nxd ?_ _ | refine nxw ?_ | refine nx ?_ (by assumption)))).cell
  have fd1 := (show Blk1 we1 _ _ _ from X1.to (by with_reducible repeat (first | exact Below.refl _ _ | refine nxa ?_ _ | refine nxd ?_ _ | refine nxw ?_ | refine nx ?_ (by assumption)))).free
  go_wp2_with fail
  clear d1 fd1
  replace h := (show Dig _ _ we1 _ _ _ _ from h.to (by with_reducible repeat (first | exact Below.refl _ _ | refine nxa ?_ _ | refine nxd ?_ _ | refine nxw ?_ | refine nx ?_ (by assumption))))
  replace X1 := (show Blk1 we1 _ _ _ from X1.to (by with_reducible repeat (first | exact Below.refl _ _ | refine nxa ?_ _ | refine nxd ?_ _ | refine nxw ?_ | refine nx ?_ (by assumption))))
  have hbws2 := nxs (show Below w.heap.size w we1 from (by with_reducible repeat (first | exact Below.refl _ _ | refine nxa ?_ _ | refine nxd ?_ _ | refine nxw ?_ | refine nx ?_ (by assumption)))) (p := ⟨w.heap.size, 0, none⟩) (by show w.heap.size ≤ w.heap.size; omega) (.slice none 0 0)
  replace h := h.put_ X1.cell (slice_no_int _ _ _) (.slice none 0 0)
  replace X1 := X1.set (.slice none 0 0)
  generalize we1.setCell ⟨w.heap.size, 0, none⟩ (.slice none 0 0) = ws2 at h X1 hbws2 ⊢
  have erX1 := (show Blk1 ws2 _ _ _ from X1.to (by with_reducible repeat (first | exact Below.refl _ _ | refine nxa ?_ _ | refine nxd ?_ _ | refine nxw ?_ | refine nx ?_ (by assumption)))).cell
  exact bodyPost_ret (v := .tuple #[.agg #[.slice none 0 0], .bool false]) (by simp [results, Try.results19, go_sem, erX1]) rfl ⟨_, _, _, rfl, (show NatAt ws2 _ _ _ _ from (nat_nil ws2)), (show Below w.heap.size w ws2 from (by with_reducible repeat (first | exact Below.refl _ _ | refine nxa ?_ _ | refine nxd ?_ _ | refine nxw ?_ | refine nx ?_ (by assumption))))⟩
set_option maxHeartbeats 4000000 in
theorem digits_Parse_yes (A : Option Addr) (n c v : Nat) (w : World) (h : Dig .u8 256 w A n c v) (hn : n ≤ 140737488351232) (hv : n = 0 ∨ dg 256 0 v ≠ 0) :
    Calls Try.prog 19 #[.slice A n c] w (RetNatB w (rv 256 n v) true) := by
  obtain ⟨i0, hi, hz0, hz1, hz2⟩ := info_parts info_u64
  have m1 := h.max
  have m2 := h.cap
  have HV := Lib.hid hv
  clear hv
  obtain ⟨M, hM⟩ : ∃ M, M = (n + 7) / 8 := ⟨_, rfl⟩
  have e1 : ((n : Int) + 7) / 8 = (M : Int) := by omega
  have e2 : ((n : Int) + 7).tdiv 8 = (M : Int) := by rw [Int.tdiv_eq_ediv_of_nonneg (by omega)]; exact e1
  have hM8 : 8 * M ≤ n + 7 := by omega
  have hMn : n ≤ 8 * M := by omega
  have HM := Lib.hid hM
  clear hM
  go_enter Try.func19, Try.ntmps19
  go_wp2_with fail
  have X1 := Blk1.newAt w (w.heap.size) 25 (.slice none 0 0) (by first | rfl | simp)
  have hbwe1 : Below w.heap.size w (w.alloc (.cells #[.slice none 0 0] 25)) := (by with_reducible repeat (first | exact Below.refl _ _ | refine nxa ?_ _ | refine nxd ?_ _ | refine nxw ?_ | refine nx ?_ (by assumption)))
  generalize (w.alloc (.cells #[.slice none 0 0] 25)) = we1 at X1 hbwe1  ⊢
  refine (digits_Plain_yes _ _ _ _ _ (h.to (by with_reducible repeat (first | exact Below.refl _ _ | refine nxa ?_ _ | refine nxd ?_ _ | refine nxw ?_ | refine nx ?_ (by assumption)))) HV.out).mono ?_
  rintro e w1 ⟨rfl, rfl⟩
  go_wp2_with (at_make; refine wpList_make_full _ rfl _ _ 22 rfl w.heap.size 52 i0 (.int .u64 0) 1 Try.underlying22 hi hz0 hz1 .i64 .i64 _ _ M rfl rfl rfl rfl (by rw [hz2]; omega) (by unfold maxLen; omega) (show Below w.heap.size w we1 from (by with_reducible repeat (first | exact Below.refl _ _ | refine nxa ?_ _ | refine nxd ?_ _ | refine nxw ?_ | refine nx ?_ (by assumption)))).size ?_)
  intro w2 hown hgrow
  rw [made_dl .u64 W] at hown
  have hb2 := below_of_none hgrow
  obtain ⟨G, hG⟩ : ∃ G, G = we1.heap.size := ⟨_, rfl⟩
  have hGs0 : w.heap.size < G := by rw [hG]; exact (show Blk1 we1 _ _ _ from X1.to (by with_reducible repeat (first | exact Below.refl _ _ | refine nxa ?_ _ | refine nxd ?_ _ | refine nxw ?_ | refine nx ?_ (by assumption)))).lt
  have hGs : w.heap.size ≤ G := Nat.le_of_lt hGs0
  have X2 := (show Blk1 w2 _ _ _ from X1.to (by with_reducible repeat (first | exact Below.refl _ _ | refine nxa ?_ _ | refine nxd ?_ _ | refine nxw ?_ | refine nx ?_ (by assumption))))
  have hbl : Below w.heap.size w w2 := (by with_reducible repeat (first | exact Below.refl _ _ | refine nxa ?_ _ | refine nxd ?_ _ | refine nxw ?_ | refine nx ?_ (by assumption)))
  rw [← hG] at hown ⊢
  clear hgrow hb2 hG
  go_wp2_with fail
  go_loopw [5, 17] (fun _ t wr => ∃ k Y : Nat, k ≤ n ∧ t = .int .i64 (k : Int) ∧ Y = low 256 k (rv 256 n v) ∧ wr.ownsRow w.heap.size 52 1 (.slice (some ⟨G, 0, none⟩) M M) M (dl .u64 W M Y) ∧ Below w.heap.size w wr ∧ Blk1 wr w.heap.size 25 (.slice none 0 0)) (fun _ t _ => n - (intOf t).toNat)
  case atStart => exact ⟨0, 0, Nat.zero_le _, rfl, (low_nought _ _).symm, hown, hbl, X2⟩
  case round =>
    clear hown hbl X2
    obtain ⟨k, Y, hk, rfl, hY, ho, hbl, X⟩ := hrel
    by_cases hlt : k < n
    · have kI : (k : Int) < (n : Int) := by omega
      obtain ⟨q, hq⟩ : ∃ q, q = k / 8 := ⟨_, rfl⟩
      obtain ⟨r, hr⟩ : ∃ r, r = k % 8 := ⟨_, rfl⟩
      obtain ⟨j, hj⟩ : ∃ j, j = n - 1 - k := ⟨_, rfl⟩
      have a1 : (k : Int) / 8 = (q : Int) := by omega
      have a2 : (k : Int) % 8 = (r : Int) := by omega
      have a4 : (k : Int).tdiv 8 = (q : Int) := by rw [Int.tdiv_eq_ediv_of_nonneg (by omega)]; exact a1
      have a5 : (k : Int).tmod 8 = (r : Int) := by rw [Int.tmod_eq_emod_of_nonneg (by omega)]; exact a2
      have w6 : IntKind.i64.wrap (j : Int) = (j : Int) := IntWalk.i64_in _ (by omega)
      have w8 : IntKind.i64.wrap (q : Int) = (q : Int) := IntWalk.i64_in _ (by omega)
      have w5 : IntKind.i64.wrap (r : Int) = (r : Int) := IntWalk.i64_in _ (by omega)
      have a3 : (n : Int) - 1 - (k : Int) = (j : Int) := by omega
      have w1 : IntKind.i64.wrap ((n : Int) - 1) = (n : Int) - 1 := IntWalk.i64_in _ (by omega)
      have w2 : IntKind.i64.wrap ((n : Int) - 1 - (k : Int)) = (j : Int) := by rw [IntWalk.i64_in _ (by omega)]; exact a3
      have w3 : IntKind.i64.wrap (8 * (r : Int)) = 8 * (r : Int) := IntWalk.i64_in _ (by omega)
      have hr7 : r ≤ 7 := by omega
      have hqM : q < M := by omega
      have qI : (q : Int) < (M : Int) := by omega
      have hjn : j < n := by omega
      have jI : (j : Int) < (n : Int) := by omega
      have hY256 : Y < 256 ^ k := by rw [hY]; exact low_bound (by decide) _ _
      have hd := dg_lt (b := 256) (by decide) j v
      have hdd : dg 256 k (rv 256 n v) = dg 256 j v := by rw [dg_rv (by decide) hlt, hj]
      have s4 : Y + dg 256 j v * 256 ^ k = low 256 (k + 1) (rv 256 n v) := by rw [← hdd, hY]; exact low_next _ _ _
      have hB := byte_in hY256 hd
      rw [← hq, ← hr] at hB
      obtain ⟨b1, b2, b3, b4⟩ := hB
      rw [s4] at b4
      obtain ⟨g, o, rfl, hg, hcell⟩ := (h.to (show Below w.heap.size w wr from hbl)).at_ (by omega)
      have cb := hcell j hjn
      have cw := ho.cellAt q (by omega)
      rw [dl_get _ _ _ _ _ (by omega)] at cw
      have fw := ho.frozenAt q
      have hW := dg_lt W_pos q Y
      have B2 := Lib.hid b2
      have B4 := Lib.hid b4
      clear hcell b2 b4 hq hr hj hY s4 hdd
      generalize dg 256 j v = d at *
      generalize dg W q Y = t at *
      have w7 : IntKind.u64.wrap (d : Int) = (d : Int) := by rw [wrap_nat, Nat.mod_eq_of_lt (show d < W by unfold W; omega)]
      go_wp2_with fail
      refine wp_regionT (S := fun w' => w'.cell? ⟨G, q, none⟩ = some (.int .u64 (t : Nat)) ∧ w'.cell? ⟨g, o + j, none⟩ = some (.int .u8 (d : Nat))) [20] (by kernel_rfl) ⟨cellB (show Below wr.heap.size wr _ from (by with_reducible repeat (first | exact Below.refl _ _ | refine nxa ?_ _ | refine nxd ?_ _ | refine nxw ?_ | refine nx ?_ (by assumption)))) cw, cellB (show Below wr.heap.size wr _ from (by with_reducible repeat (first | exact Below.refl _ _ | refine nxa ?_ _ | refine nxd ?_ _ | refine nxw ?_ | refine nx ?_ (by assumption)))) cb⟩ (fun hHeld => ?_)
      have hbd1 : Below wr.heap.size wr wr.drew := nxw (Below.refl _ _)
      generalize wr.drew = wd1 at hHeld hbd1 ⊢
      refine anyT_take (i := 0) (v := ?_) (by simp only [List.getElem?_toArray, List.getElem?_cons_succ, List.getElem?_cons_zero]; rfl) (by kernel_rfl) (by kernel_rfl) (by kernel_rfl) (by kernel_rfl) (by exact fun _ _ _ h => h) (Or.inl ⟨by rfl, ?_⟩) (by assumption) ?_
      rotate_left
      · intro w hSw; (try dsimp only at hSw); go_simp; try with_reducible rfl
      try simp only [Act.put, List.setIfInBounds_toArray, List.set_cons_zero, List.set_cons_succ]
      refine anyT_take (i := 1) (v := ?_) (by simp only [List.getElem?_toArray, List.getElem?_cons_succ, List.getElem?_cons_zero]; rfl) (by kernel_rfl) (by kernel_rfl) (by kernel_rfl) (by kernel_rfl) (by exact fun _ _ _ h => h) (Or.inl ⟨by rfl, ?_⟩) (by assumption) ?_
      rotate_left
      · intro w hSw; (try dsimp only at hSw); go_simp; try with_reducible rfl
      try simp only [Act.put, List.setIfInBounds_toArray, List.set_cons_zero, List.set_cons_succ]
      refine anyT_take (i := 2) (v := ?_) (by simp only [List.getElem?_toArray, List.getElem?_cons_succ, List.getElem?_cons_zero]; rfl) (by kernel_rfl) (by kernel_rfl) (by kernel_rfl) (by kernel_rfl) (by exact fun _ _ _ h => h) (Or.inl ⟨by rfl, ?_⟩) (by assumption) ?_
      rotate_left
      · intro w hSw; (try dsimp only at hSw); go_simp; try with_reducible rfl
      try simp only [Act.put, List.setIfInBounds_toArray, List.set_cons_zero, List.set_cons_succ]
      refine anyT_take (i := 3) (v := ?_) (by simp only [List.getElem?_toArray, List.getElem?_cons_succ, List.getElem?_cons_zero]; rfl) (by kernel_rfl) (by kernel_rfl) (by kernel_rfl) (by kernel_rfl) (by exact fun _ _ _ h => h) (Or.inl ⟨by rfl, ?_⟩) (by assumption) ?_
      rotate_left
      · intro w hSw; (try dsimp only at hSw); go_simp; try with_reducible rfl
      try simp only [Act.put, List.setIfInBounds_toArray, List.set_cons_zero, List.set_cons_succ]
      refine anyT_take (i := 4) (v := ?_) (by simp only [List.getElem?_toArray, List.getElem?_cons_succ, List.getElem?_cons_zero]; rfl) (by kernel_rfl) (by kernel_rfl) (by kernel_rfl) (by kernel_rfl) (by exact fun _ _ _ h => h) (Or.inl ⟨by rfl, ?_⟩) (by assumption) ?_
      rotate_left
      · intro w hSw; (try dsimp only at hSw); go_simp; try with_reducible rfl
      try simp only [Act.put, List.setIfInBounds_toArray, List.set_cons_zero, List.set_cons_succ]
      refine anyT_take (i := 5) (v := ?_) (by simp only [List.getElem?_toArray, List.getElem?_cons_succ, List.getElem?_cons_zero]; rfl) (by kernel_rfl) (by kernel_rfl) (by kernel_rfl) (by kernel_rfl) (by exact fun _ _ _ h => h) (Or.inl ⟨by rfl, ?_⟩) (by assumption) ?_
      rotate_left
      · intro w hSw; (try dsimp only at hSw); go_simp; try with_reducible rfl
      try simp only [Act.put, List.setIfInBounds_toArray, List.set_cons_zero, List.set_cons_succ]
      refine anyT_take (i := 6) (v := ?_) (by simp only [List.getElem?_toArray, List.getElem?_cons_succ, List.getElem?_cons_zero]; rfl) (by kernel_rfl) (by kernel_rfl) (by kernel_rfl) (by kernel_rfl) (by exact fun _ _ _ h => h) (Or.inl ⟨by rfl, ?_⟩) (by assumption) ?_
      rotate_left
      · intro w hSw; (try dsimp only at hSw); go_simp; try with_reducible rfl
      try simp only [Act.put, List.setIfInBounds_toArray, List.set_cons_zero, List.set_cons_succ]
      refine anyT_take (i := 7) (v := ?_) (by simp only [List.getElem?_toArray, List.getElem?_cons_succ, List.getElem?_cons_zero]; rfl) (by kernel_rfl) (by kernel_rfl) (by kernel_rfl) (by kernel_rfl) (by exact fun _ _ _ h => h) (Or.inl ⟨by rfl, ?_⟩) (by assumption) ?_
      rotate_left
      · intro w hSw; (try dsimp only at hSw); go_simp; try with_reducible rfl
      try simp only [Act.put, List.setIfInBounds_toArray, List.set_cons_zero, List.set_cons_succ]
      refine anyT_take (i := 8) (v := ?_) (by simp only [List.getElem?_toArray, List.getElem?_cons_succ, List.getElem?_cons_zero]; rfl) (by kernel_rfl) (by kernel_rfl) (by kernel_rfl) (by kernel_rfl) (by exact fun _ _ _ h => h) (Or.inl ⟨by rfl, ?_⟩) (by assumption) ?_
      rotate_left
      · intro w hSw; (try dsimp only at hSw); go_simp; try with_reducible rfl
      try simp only [Act.put, List.setIfInBounds_toArray, List.set_cons_zero, List.set_cons_succ]
      refine anyT_take (i := 9) (v := ?_) (by simp only [List.getElem?_toArray, List.getElem?_cons_succ, List.getElem?_cons_zero]; rfl) (by kernel_rfl) (by kernel_rfl) (by kernel_rfl) (by kernel_rfl) (by exact fun _ _ _ h => h) (Or.inl ⟨by rfl, ?_⟩) (by assumption) ?_
      rotate_left
      · intro w hSw; (try dsimp only at hSw); go_simp; try with_reducible rfl
      try simp only [Act.put, List.setIfInBounds_toArray, List.set_cons_zero, List.set_cons_succ]
      refine anyT_take (i := 10) (v := ?_) (by simp only [List.getElem?_toArray, List.getElem?_cons_succ, List.getElem?_cons_zero]; rfl) (by kernel_rfl) (by kernel_rfl) (by kernel_rfl) (by kernel_rfl) (by exact fun _ _ _ h => h) (Or.inl ⟨by rfl, ?_⟩) (by assumption) ?_
      rotate_left
      · intro w hSw; (try dsimp only at hSw); go_simp; try with_reducible rfl
      try simp only [Act.put, List.setIfInBounds_toArray, List.set_cons_zero, List.set_cons_succ]
      refine anyT_take (i := 11) (v := ?_) (by simp only [List.getElem?_toArray, List.getElem?_cons_succ, List.getElem?_cons_zero]; rfl) (by kernel_rfl) (by kernel_rfl) (by kernel_rfl) (by kernel_rfl) (by exact fun _ _ _ h => h) (Or.inl ⟨by rfl, ?_⟩) (by assumption) ?_
      rotate_left
      · intro w hSw; (try dsimp only at hSw); go_simp; try with_reducible rfl
      try simp only [Act.put, List.setIfInBounds_toArray, List.set_cons_zero, List.set_cons_succ]
      refine anyT_take (i := 12) (v := ?_) (by simp only [List.getElem?_toArray, List.getElem?_cons_succ, List.getElem?_cons_zero]; rfl) (by kernel_rfl) (by kernel_rfl) (by kernel_rfl) (by kernel_rfl) (by exact fun _ _ _ h => h) (Or.inl ⟨by rfl, ?_⟩) (by assumption) ?_
      rotate_left
      · intro w hSw; (try dsimp only at hSw); go_simp; try with_reducible rfl
      try simp only [Act.put, List.setIfInBounds_toArray, List.set_cons_zero, List.set_cons_succ]
      refine anyT_take (i := 13) (v := ?_) (by simp only [List.getElem?_toArray, List.getElem?_cons_succ, List.getElem?_cons_zero]; rfl) (by kernel_rfl) (by kernel_rfl) (by kernel_rfl) (by kernel_rfl) (by exact fun _ _ _ h => h) (Or.inl ⟨by rfl, ?_⟩) (by assumption) ?_
      rotate_left
      · intro w hSw; (try dsimp only at hSw); go_simp; try with_reducible rfl
      try simp only [Act.put, List.setIfInBounds_toArray, List.set_cons_zero, List.set_cons_succ]
      refine anyT_take (i := 14) (v := ?_) (by simp only [List.getElem?_toArray, List.getElem?_cons_succ, List.getElem?_cons_zero]; rfl) (by kernel_rfl) (by kernel_rfl) (by kernel_rfl) (by kernel_rfl) (by exact fun _ _ _ h => h) (Or.inl ⟨by rfl, ?_⟩) (by assumption) ?_
      rotate_left
      · intro w hSw; (try dsimp only at hSw); go_simp; try with_reducible rfl
      try simp only [Act.put, List.setIfInBounds_toArray, List.set_cons_zero, List.set_cons_succ]
      refine anyT_take (i := 15) (v := ?_) (by simp only [List.getElem?_toArray, List.getElem?_cons_succ, List.getElem?_cons_zero]; rfl) (by kernel_rfl) (by kernel_rfl) (by kernel_rfl) (by kernel_rfl) (by exact fun _ _ _ h => h) (Or.inl ⟨by rfl, ?_⟩) (by assumption) ?_
      rotate_left
      · intro w hSw; (try dsimp only at hSw); go_simp; try with_reducible rfl
      try simp only [Act.put, List.setIfInBounds_toArray, List.set_cons_zero, List.set_cons_succ]
      refine anyT_take (i := 16) (v := ?_) (by simp only [List.getElem?_toArray, List.getElem?_cons_succ, List.getElem?_cons_zero]; rfl) (by kernel_rfl) (by kernel_rfl) (by kernel_rfl) (by kernel_rfl) (by exact fun _ _ _ h => h) (Or.inl ⟨by rfl, ?_⟩) (by assumption) ?_
      rotate_left
      · intro w hSw; (try dsimp only at hSw); go_simp; try with_reducible rfl
      try simp only [Act.put, List.setIfInBounds_toArray, List.set_cons_zero, List.set_cons_succ]
      refine anyT_take (i := 17) (v := ?_) (by simp only [List.getElem?_toArray, List.getElem?_cons_succ, List.getElem?_cons_zero]; rfl) (by kernel_rfl) (by kernel_rfl) (by kernel_rfl) (by kernel_rfl) (by exact fun _ _ _ h => h) (Or.inl ⟨by rfl, ?_⟩) (by assumption) ?_
      rotate_left
      · intro w hSw; (try dsimp only at hSw); go_simp; try with_reducible rfl
      try simp only [Act.put, List.setIfInBounds_toArray, List.set_cons_zero, List.set_cons_succ]
      refine anyT_take (i := 18) (v := ?_) (by simp only [List.getElem?_toArray, List.getElem?_cons_succ, List.getElem?_cons_zero]; rfl) (by kernel_rfl) (by kernel_rfl) (by kernel_rfl) (by kernel_rfl) (by exact fun _ _ _ h => h) (Or.inl ⟨by rfl, ?_⟩) (by assumption) ?_
      rotate_left
      · intro w hSw; (try dsimp only at hSw); go_simp; try with_reducible rfl
      try simp only [Act.put, List.setIfInBounds_toArray, List.set_cons_zero, List.set_cons_succ]
      refine anyT_take (i := 19) (v := ?_) (by simp only [List.getElem?_toArray, List.getElem?_cons_succ, List.getElem?_cons_zero]; rfl) (by kernel_rfl) (by kernel_rfl) (by kernel_rfl) (by kernel_rfl) (by exact fun _ _ _ h => h) (Or.inl ⟨by rfl, ?_⟩) (by assumption) ?_
      rotate_left
      · intro w hSw; (try dsimp only at hSw); go_simp; try with_reducible rfl
      try simp only [Act.put, List.setIfInBounds_toArray, List.set_cons_zero, List.set_cons_succ]
      refine anyT_ready (rs := [20]) (by kernel_rfl) (by simp) (ReadyT.last (by simp only [List.getElem?_toArray, List.getElem?_cons_succ, List.getElem?_cons_zero]; rfl) (by rfl) (fun K hK => ?_))
      have ho3 := own_below ho hbd1
      have f3 := ho3.frozenAt q
      have c3 := hHeld.1
      go_simp
      refine hK.out _ _ ?_
      clear hK K
      try simp only [Act.put, List.setIfInBounds_toArray, List.set_cons_zero, List.set_cons_succ]
      refine anyT_done (by kernel_rfl) ?_ _
      have q0 : (8 * (r : Int)).toNat = 8 * r := by omega
      have q1 : bits .or .u64 (t : Int) (IntKind.u64.wrap ((d : Int) * 2 ^ (8 * (r : Int)).toNat)) = ((t + d * 2 ^ (8 * r) : Nat) : Int) := by
        rw [q0, show ((2 : Int) ^ (8 * r)) = ((2 ^ (8 * r) : Nat) : Int) by simp, wrap_mul, Nat.mod_eq_of_lt (by omega), or_nat _ _ hW (by omega), B2.out]
      rw [q1]
      have ho4 := (ho3.stored q (.int .u64 ((t + d * 2 ^ (8 * r) : Nat) : Int))).1
      rw [dl_set W_pos hqM b3, B4.out] at ho4
      have Y4 := (show Blk1 wd1 _ _ _ from X.to (by with_reducible repeat (first | exact Below.refl _ _ | refine nxa ?_ _ | refine nxd ?_ _ | refine nxw ?_ | refine nx ?_ (by assumption)))).far (p := ⟨G, q, none⟩) (by show w.heap.size ≠ G; omega) (.int .u64 ((t + d * 2 ^ (8 * r) : Nat) : Int))
      have hbl4 := (nx hbl hbd1).setCell (p := ⟨G, q, none⟩) hGs (.int .u64 ((t + d * 2 ^ (8 * r) : Nat) : Int))
      generalize wd1.setCell ⟨G, q, none⟩ (.int .u64 ((t + d * 2 ^ (8 * r) : Nat) : Int)) = w4 at ho4 Y4 hbl4 ⊢
      clear q0 q1 ho3 f3 c3 ho fw cw cb hbd1 hHeld a4 a5 w8 w5 w6 w7 w1 w2 w3 X hbl B2 B4 b3 b1
      go_wp2_with fail
      go_roundw
      case rel => exact ⟨k + 1, _, by omega, by go_num, rfl, ho4, hbl4, Y4⟩
      case measure => simp [intOf]; omega
    · obtain rfl : k = n := by omega
      have hfit : rv 256 k v < W ^ M := Nat.lt_of_lt_of_le (rv_lt (by decide) k v) (by have := words_fit k; rw [← HM.out] at this; exact this)
      rw [low_all (rv_lt (by decide) k v)] at hY
      subst hY
      obtain ⟨A9, c9, hv9, h9, hf9⟩ := own_form ho hfit
      cases hv9
      clear hlt ho e1 e2
      go_wp2_with fail
      refine (nat_Of _ _ _ _ _ (h9.to (by with_reducible repeat (first | exact Below.refl _ _ | refine nxa ?_ _ | refine nxd ?_ _ | refine nxw ?_ | refine nx ?_ (by assumption)))) (by omega)).mono ?_
      rintro e w2 ⟨A2, n2, c2, rfl, h2, hb2, m2⟩
      have d1 := (show Blk1 w2 _ _ _ from X.to (by with_reducible repeat (first | exact Below.refl _ _ | refine nxa ?_ _ | refine nxd ?_ _ | refine nxw ?_ | refine nx ?_ (by assumption)))).cell
      have fd1 := (show Blk1 w2 _ _ _ from X.to (by with_reducible repeat (first | exact Below.refl _ _ | refine nxa ?_ _ | refine nxd ?_ _ | refine nxw ?_ | refine nx ?_ (by assumption)))).free
      go_wp2_with fail
      clear d1 fd1
      replace h := (show Dig _ _ w2 _ _ _ _ from h.to (by with_reducible repeat (first | exact Below.refl _ _ | refine nxa ?_ _ | refine nxd ?_ _ | refine nxw ?_ | refine nx ?_ (by assumption))))
      replace h9 := (show Dig _ _ w2 _ _ _ _ from h9.to (by with_reducible repeat (first | exact Below.refl _ _ | refine nxa ?_ _ | refine nxd ?_ _ | refine nxw ?_ | refine nx ?_ (by assumption))))
      replace h2 := (show NatAt w2 _ _ _ _ from h2.to (by with_reducible repeat (first | exact Below.refl _ _ | refine nxa ?_ _ | refine nxd ?_ _ | refine nxw ?_ | refine nx ?_ (by assumption))))
      replace X := (show Blk1 w2 _ _ _ from X.to (by with_reducible repeat (first | exact Below.refl _ _ | refine nxa ?_ _ | refine nxd ?_ _ | refine nxw ?_ | refine nx ?_ (by assumption))))
      have hbws2 := nxs (show Below w.heap.size w w2 from (by with_reducible repeat (first | exact Below.refl _ _ | refine nxa ?_ _ | refine nxd ?_ _ | refine nxw ?_ | refine nx ?_ (by assumption)))) (p := ⟨w.heap.size, 0, none⟩) (by show w.heap.size ≤ w.heap.size; omega) (.slice A2 n2 c2)
      replace h := h.put_ X.cell (slice_no_int _ _ _) (.slice A2 n2 c2)
      replace h9 := h9.put_ X.cell (slice_no_int _ _ _) (.slice A2 n2 c2)
      replace h2 := h2.put_ X.cell (.slice A2 n2 c2)
      replace X := X.set (.slice A2 n2 c2)
      generalize w2.setCell ⟨w.heap.size, 0, none⟩ (.slice A2 n2 c2) = ws2 at h h9 h2 X hbws2 ⊢
      have erX := (show Blk1 ws2 _ _ _ from X.to (by with_reducible repeat (first | exact Below.refl _ _ | refine nxa ?_ _ | refine nxd ?_ _ | refine nxw ?_ | refine nx ?_ (by assumption)))).cell
      exact bodyPost_ret (v := .tuple #[.agg #[.slice A2 n2 c2], .bool true]) (by simp [results, Try.results19, go_sem, erX]) rfl ⟨_, _, _, rfl, (show NatAt ws2 _ _ _ _ from (h2.to (by with_reducible repeat (first | exact Below.refl _ _ | refine nxa ?_ _ | refine nxd ?_ _ | refine nxw ?_ | refine nx ?_ (by assumption))))), (show Below w.heap.size w ws2 from (by with_reducible repeat (first | exact Below.refl _ _ | refine nxa ?_ _ | refine nxd ?_ _ | refine nxw ?_ | refine nx ?_ (by assumption))))⟩
end Go.Proofs.Ytfgcjpokgolddaa
