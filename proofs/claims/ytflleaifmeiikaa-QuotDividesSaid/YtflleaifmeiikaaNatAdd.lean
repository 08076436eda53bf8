/- The walks of nat.Add and nat.Sub. -/
import Derived.Test.YtflleaifmeiikaaNatCmp
namespace Go.Proofs.Ytflleaifmeiikaa
open Go.RowKit
theorem max_lt_pow {x y n n' : Nat} (h : x < W ^ n) (h' : y < W ^ n') : x + y < W ^ (max n n' + 1) := by
  have h1 := Nat.pow_le_pow_right W_pos (show n ≤ max n n' by omega)
  have h2 := Nat.pow_le_pow_right W_pos (show n' ≤ max n n' by omega)
  rw [Nat.pow_succ]
  have : W ^ max n n' * 2 ≤ W ^ max n n' * W := Nat.mul_le_mul_left _ (by decide)
  omega
theorem addLo_digit (kk x y : Nat) : addLo (dg W kk x) (dg W kk y) (carry W kk x y) = dg W kk (x + y) ∧ addHi (dg W kk x) (dg W kk y) (carry W kk x y) = carry W (kk + 1) x y := by
  have s := carry_step W_pos kk x y
  have c := carry_le W_pos kk x y
  unfold addLo addHi
  rw [show dg W kk x + dg W kk y + carry W kk x y % 2 = carry W kk x y + dg W kk x + dg W kk y by omega]
  exact ⟨s.2, s.1⟩
set_option maxRecDepth 100000 in
set_option maxHeartbeats 1000000 in
theorem nat_Add (A : Option Addr) (n c x : Nat) (A' : Option Addr) (n' c' y : Nat) (w : World) (h : NatAt w A n c x) (h' : NatAt w A' n' c' y) (hn : n ≤ 17592186044416) (hn' : n' ≤ 17592186044416) :
    Calls Try.prog 28 #[.agg #[.slice A n c], .agg #[.slice A' n' c']] w (RetNat w (x + y)) := by
  obtain ⟨i0, hi, hz0, hz1, hz2⟩ := info_parts info_u64
  have m1 := h.1.max
  have m2 := h.1.cap
  have m3 := h'.1.max
  have m4 := h'.1.cap
  obtain ⟨N, hN⟩ : ∃ N, N = max n n' + 1 := ⟨_, rfl⟩
  have hxy : x + y < W ^ N := by rw [hN]; exact max_lt_pow h.1.lt h'.1.lt
  have hNle : N ≤ 17592186044417 := by omega
  have HN := Lib.hid hN
  clear hN
  have B0 := ((Blk1.new w 25 (.slice A n c)).alloc (.cells #[.slice A' n' c'] 25)).alloc (.cells #[.slice none 0 0] 25)
  have B1 := (Blk1.new (w.alloc (.cells #[.slice A n c] 25)) 25 (.slice A' n' c')).alloc (.cells #[.slice none 0 0] 25)
  have B2 := Blk1.new ((w.alloc (.cells #[.slice A n c] 25)).alloc (.cells #[.slice A' n' c'] 25)) 25 (.slice none 0 0)
  simp only [World.size_alloc] at B1 B2
  by_cases hmx : n < n'
  · go_enter Try.func28, Try.ntmps28
    go_wp2_with (at_make; refine wpList_make_full _ rfl _ _ 22 rfl (w.heap.size + 1 + 1 + 1) 30 i0 (.int .u64 0) 1 Try.underlying22 hi hz0 hz1 .i64 .i64 _ _ N rfl rfl (by have := HN.out; omega) (by have := HN.out; omega) (by rw [hz2]; omega) (by unfold maxLen; omega) (by simp) ?_)
    intro w1 hown hgrow
    rw [made_dl .u64 W] at hown
    have hb1 := below_of_none hgrow
    have X0 := B0.to hb1
    have X1 := B1.to hb1
    have X2 := B2.to hb1
    have hbel : Below w.heap.size w w1 := nx (nxa (nxa (nxa (Below.refl _ _) _) _) _) hb1
    have c0 := X0.cell
    have c1 := X1.cell
    clear hgrow hb1
    go_wp2_with fail
    clear c0 c1
    go_loopw [6, 7, 19] (fun cc _ k wr => ∃ kk : Nat, kk ≤ N ∧ k = .int .i64 (kk : Int) ∧ cc = .int .u64 (carry W kk x y : Nat) ∧ wr.ownsRow (w.heap.size + 1 + 1 + 1) 30 1 (.slice (some ⟨w.heap.size + 1 + 1 + 1, 0, none⟩) N N) N (dl .u64 W N (low W kk (x + y))) ∧ Below w.heap.size w wr ∧ Blk1 wr w.heap.size 25 (.slice A n c) ∧ Blk1 wr (w.heap.size + 1) 25 (.slice A' n' c') ∧ Blk1 wr (w.heap.size + 1 + 1) 25 (.slice none 0 0)) (fun _ _ k _ => N - (intOf k).toNat)
    case atStart => exact ⟨0, Nat.zero_le _, rfl, by rw [carry_zero]; rfl, by rw [low_nought]; exact hown, hbel, X0, X1, X2⟩
    case round =>
      obtain ⟨kk, hk, rfl, rfl, hown, hbel, X0, X1, X2⟩ := hrel
      by_cases hlt : kk < N
      · have c0 := X0.cell
        have c1 := X1.cell
        have c3 := hown.cellAt kk (by omega)
        rw [dl_get _ _ _ _ _ hlt] at c3
        have f3 := hown.frozenAt kk
        have hsz : w.heap.size + 1 + 1 + 1 < wr.heap.size := (hown.lt _ rfl).2
        have hx := h.below hbel (Nat.le_refl _)
        have hy := h'.below hbel (Nat.le_refl _)
        have hkN : (kk : Int) < (N : Int) := by omega
        go_wp2_with fail
        have SS := Lib.hid (addLo_digit kk x y)
        have d1 := dg_lt W_pos kk x
        have d2 := dg_lt W_pos kk y
        have d3 : carry W kk x y < W := Nat.lt_of_le_of_lt (carry_le W_pos kk x y) (by decide)
        have kM : kk ≤ 9223372036854775807 := by omega
        go_region_held3 (fun w' => w'.cell? ⟨w.heap.size, 0, none⟩ = some (.slice A n c) ∧ w'.cell? ⟨w.heap.size + 1, 0, none⟩ = some (.slice A' n' c')) (first | go_keep | (exact ⟨((((X0.drew.to hb2).to hb3).far (by show _ ≠ w.heap.size + 1 + 1 + 1; omega) _).cell), ((((X1.drew.to hb2).to hb3).far (by show _ ≠ w.heap.size + 1 + 1 + 1; omega) _).cell)⟩) | (exact ⟨((X0.drew.to hb2).to hb3).cell, ((X1.drew.to hb2).to hb3).cell⟩) | (exact ⟨(X0.drew.to hb2).cell, (X1.drew.to hb2).cell⟩))
          (first | (go_at_call 20; (with_reducible refine (nat_Word A n c x kk _ hx.drew kM).mono ?_); rintro e w2 ⟨rfl, hb2⟩) | (go_at_call 20; (with_reducible refine (nat_Word A' n' c' y kk _ (hy.drew.to hb2) kM).mono ?_); rintro e w3 ⟨rfl, hb3⟩; have ho3 := own_below (own_below hown.drew hb2) hb3; have c4 := ho3.cellAt kk (by omega); have f4 := ho3.frozenAt kk; rw [dl_get _ _ _ _ _ hlt] at c4) | (go_at_call 58; (with_reducible refine (word_Add _ _ _ _ d1 d2 d3).mono ?_); rw [SS.out.1, SS.out.2]; rintro e w4 ⟨rfl, rfl⟩))
        have ho := (ho3.stored kk (.int .u64 (dg W kk (x + y) : Nat))).1
        rw [dl_set W_pos hlt (dg_lt W_pos _ _), put_top (low_bound W_pos _ _), low_next] at ho
        have hbelw : Below w.heap.size w w3 := nx (nx (nxd hbel 1) hb2) hb3
        have hbel' := hbelw.setCell (p := ⟨w.heap.size + 1 + 1 + 1, kk, none⟩) (by show w.heap.size ≤ w.heap.size + 1 + 1 + 1; omega) (.int .u64 (dg W kk (x + y) : Nat))
        have Y0 := ((X0.drew.to hb2).to hb3).far (p := ⟨w.heap.size + 1 + 1 + 1, kk, none⟩) (by show _ ≠ w.heap.size + 1 + 1 + 1; omega) (.int .u64 (dg W kk (x + y) : Nat))
        have Y1 := ((X1.drew.to hb2).to hb3).far (p := ⟨w.heap.size + 1 + 1 + 1, kk, none⟩) (by show _ ≠ w.heap.size + 1 + 1 + 1; omega) (.int .u64 (dg W kk (x + y) : Nat))
        have Y2 := ((X2.drew.to hb2).to hb3).far (p := ⟨w.heap.size + 1 + 1 + 1, kk, none⟩) (by show _ ≠ w.heap.size + 1 + 1 + 1; omega) (.int .u64 (dg W kk (x + y) : Nat))
        clear hb2 hb3 ho3 c4 f4 c0 c1 c3 f3 hbelw
        go_wp2_with fail
        go_roundw
        case rel => exact ⟨kk + 1, by omega, by go_num, rfl, ho, hbel', Y0, Y1, Y2⟩
        case measure => simp [intOf]; omega
      · obtain rfl : kk = N := by omega
        rw [low_all hxy] at hown
        obtain ⟨A1, c1, hv, hd, hf⟩ := own_form hown hxy
        cases hv
        go_wp2_with fail
        refine (nat_trim _ kk kk (x + y) _ hd).mono ?_
        rintro e w2 ⟨m, rfl, hd2, hb2, hm⟩
        have Z2 := X2.to hb2
        have c0 := Z2.cell
        have f0 := Z2.free
        have hbel' := nx hbel hb2
        clear hd hf hown hb2
        go_wp2_with fail
        exact bodyPost_ret (v := .agg #[.slice (some ⟨w.heap.size + 1 + 1 + 1, 0, none⟩) m kk]) (by simp [results, Try.results28, go_sem, c0]) rfl ⟨_, m, _, rfl, hd2.put_ c0 _, hbel'.setCell (by show w.heap.size ≤ w.heap.size + 1 + 1; omega) _⟩
  · go_enter Try.func28, Try.ntmps28
    go_wp2_with (at_make; refine wpList_make_full _ rfl _ _ 22 rfl (w.heap.size + 1 + 1 + 1) 30 i0 (.int .u64 0) 1 Try.underlying22 hi hz0 hz1 .i64 .i64 _ _ N rfl rfl (by have := HN.out; omega) (by have := HN.out; omega) (by rw [hz2]; omega) (by unfold maxLen; omega) (by simp) ?_)
    intro w1 hown hgrow
    rw [made_dl .u64 W] at hown
    have hb1 := below_of_none hgrow
    have X0 := B0.to hb1
    have X1 := B1.to hb1
    have X2 := B2.to hb1
    have hbel : Below w.heap.size w w1 := nx (nxa (nxa (nxa (Below.refl _ _) _) _) _) hb1
    have c0 := X0.cell
    have c1 := X1.cell
    clear hgrow hb1
    go_wp2_with fail
    clear c0 c1
    go_loopw [6, 7, 19] (fun cc _ k wr => ∃ kk : Nat, kk ≤ N ∧ k = .int .i64 (kk : Int) ∧ cc = .int .u64 (carry W kk x y : Nat) ∧ wr.ownsRow (w.heap.size + 1 + 1 + 1) 30 1 (.slice (some ⟨w.heap.size + 1 + 1 + 1, 0, none⟩) N N) N (dl .u64 W N (low W kk (x + y))) ∧ Below w.heap.size w wr ∧ Blk1 wr w.heap.size 25 (.slice A n c) ∧ Blk1 wr (w.heap.size + 1) 25 (.slice A' n' c') ∧ Blk1 wr (w.heap.size + 1 + 1) 25 (.slice none 0 0)) (fun _ _ k _ => N - (intOf k).toNat)
    case atStart => exact ⟨0, Nat.zero_le _, rfl, by rw [carry_zero]; rfl, by rw [low_nought]; exact hown, hbel, X0, X1, X2⟩
    case round =>
      obtain ⟨kk, hk, rfl, rfl, hown, hbel, X0, X1, X2⟩ := hrel
      by_cases hlt : kk < N
      · have c0 := X0.cell
        have c1 := X1.cell
        have c3 := hown.cellAt kk (by omega)
        rw [dl_get _ _ _ _ _ hlt] at c3
        have f3 := hown.frozenAt kk
        have hsz : w.heap.size + 1 + 1 + 1 < wr.heap.size := (hown.lt _ rfl).2
        have hx := h.below hbel (Nat.le_refl _)
        have hy := h'.below hbel (Nat.le_refl _)
        have hkN : (kk : Int) < (N : Int) := by omega
        go_wp2_with fail
        have SS := Lib.hid (addLo_digit kk x y)
        have d1 := dg_lt W_pos kk x
        have d2 := dg_lt W_pos kk y
        have d3 : carry W kk x y < W := Nat.lt_of_le_of_lt (carry_le W_pos kk x y) (by decide)
        have kM : kk ≤ 9223372036854775807 := by omega
        go_region_held3 (fun w' => w'.cell? ⟨w.heap.size, 0, none⟩ = some (.slice A n c) ∧ w'.cell? ⟨w.heap.size + 1, 0, none⟩ = some (.slice A' n' c')) (first | go_keep | (exact ⟨((((X0.drew.to hb2).to hb3).far (by show _ ≠ w.heap.size + 1 + 1 + 1; omega) _).cell), ((((X1.drew.to hb2).to hb3).far (by show _ ≠ w.heap.size + 1 + 1 + 1; omega) _).cell)⟩) | (exact ⟨((X0.drew.to hb2).to hb3).cell, ((X1.drew.to hb2).to hb3).cell⟩) | (exact ⟨(X0.drew.to hb2).cell, (X1.drew.to hb2).cell⟩))
          (first | (go_at_call 20; (with_reducible refine (nat_Word A n c x kk _ hx.drew kM).mono ?_); rintro e w2 ⟨rfl, hb2⟩) | (go_at_call 20; (with_reducible refine (nat_Word A' n' c' y kk _ (hy.drew.to hb2) kM).mono ?_); rintro e w3 ⟨rfl, hb3⟩; have ho3 := own_below (own_below hown.drew hb2) hb3; have c4 := ho3.cellAt kk (by omega); have f4 := ho3.frozenAt kk; rw [dl_get _ _ _ _ _ hlt] at c4) | (go_at_call 58; (with_reducible refine (word_Add _ _ _ _ d1 d2 d3).mono ?_); rw [SS.out.1, SS.out.2]; rintro e w4 ⟨rfl, rfl⟩))
        have ho := (ho3.stored kk (.int .u64 (dg W kk (x + y) : Nat))).1
        rw [dl_set W_pos hlt (dg_lt W_pos _ _), put_top (low_bound W_pos _ _), low_next] at ho
        have hbelw : Below w.heap.size w w3 := nx (nx (nxd hbel 1) hb2) hb3
        have hbel' := hbelw.setCell (p := ⟨w.heap.size + 1 + 1 + 1, kk, none⟩) (by show w.heap.size ≤ w.heap.size + 1 + 1 + 1; omega) (.int .u64 (dg W kk (x + y) : Nat))
        have Y0 := ((X0.drew.to hb2).to hb3).far (p := ⟨w.heap.size + 1 + 1 + 1, kk, none⟩) (by show _ ≠ w.heap.size + 1 + 1 + 1; omega) (.int .u64 (dg W kk (x + y) : Nat))
        have Y1 := ((X1.drew.to hb2).to hb3).far (p := ⟨w.heap.size + 1 + 1 + 1, kk, none⟩) (by show _ ≠ w.heap.size + 1 + 1 + 1; omega) (.int .u64 (dg W kk (x + y) : Nat))
        have Y2 := ((X2.drew.to hb2).to hb3).far (p := ⟨w.heap.size + 1 + 1 + 1, kk, none⟩) (by show _ ≠ w.heap.size + 1 + 1 + 1; omega) (.int .u64 (dg W kk (x + y) : Nat))
        clear hb2 hb3 ho3 c4 f4 c0 c1 c3 f3 hbelw
        go_wp2_with fail
        go_roundw
        case rel => exact ⟨kk + 1, by omega, by go_num, rfl, ho, hbel', Y0, Y1, Y2⟩
        case measure => simp [intOf]; omega
      · obtain rfl : kk = N := by omega
        rw [low_all hxy] at hown
        obtain ⟨A1, c1, hv, hd, hf⟩ := own_form hown hxy
        cases hv
        go_wp2_with fail
        refine (nat_trim _ kk kk (x + y) _ hd).mono ?_
        rintro e w2 ⟨m, rfl, hd2, hb2, hm⟩
        have Z2 := X2.to hb2
        have c0 := Z2.cell
        have f0 := Z2.free
        have hbel' := nx hbel hb2
        clear hd hf hown hb2
        go_wp2_with fail
        exact bodyPost_ret (v := .agg #[.slice (some ⟨w.heap.size + 1 + 1 + 1, 0, none⟩) m kk]) (by simp [results, Try.results28, go_sem, c0]) rfl ⟨_, m, _, rfl, hd2.put_ c0 _, hbel'.setCell (by show w.heap.size ≤ w.heap.size + 1 + 1; omega) _⟩
end Go.Proofs.Ytflleaifmeiikaa
