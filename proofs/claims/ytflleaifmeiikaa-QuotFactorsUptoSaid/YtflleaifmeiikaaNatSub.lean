/- The walk of nat.Sub. -/
import Derived.Test.YtflleaifmeiikaaNatAdd
namespace Go.Proofs.Ytflleaifmeiikaa
open Go.RowKit
/-- the step of a difference, read off the sum D + y = x -/
theorem subLo_digit (kk D y : Nat) : subLo (dg W kk (D + y)) (dg W kk y) (carry W kk D y) = dg W kk D ∧ subHi (dg W kk (D + y)) (dg W kk y) (carry W kk D y) = carry W (kk + 1) D y := by
  have s := carry_step W_pos kk D y
  have c := carry_le W_pos kk D y
  have c1 := carry_le W_pos (kk + 1) D y
  have hd := dg_lt W_pos kk D
  have hy := dg_lt W_pos kk y
  have hx := dg_lt W_pos kk (D + y)
  have e : dg W kk (D + y) + W * carry W (kk + 1) D y = carry W kk D y + dg W kk D + dg W kk y := by
    rw [← s.1, ← s.2]; exact Nat.mod_add_div _ _
  have h4 := sub_split (dg W kk (D + y)) (dg W kk y) (carry W kk D y) hx hy
  have h5 := subLo_lt (dg W kk (D + y)) (dg W kk y) (carry W kk D y)
  have h6 := subHi_le (dg W kk (D + y)) (dg W kk y) (carry W kk D y)
  generalize subLo (dg W kk (D + y)) (dg W kk y) (carry W kk D y) = l at *
  generalize subHi (dg W kk (D + y)) (dg W kk y) (carry W kk D y) = u at *
  generalize carry W (kk + 1) D y = c' at *
  have hc : c' = 0 ∨ c' = 1 := by omega
  have hu : u = 0 ∨ u = 1 := by omega
  rcases hc with rfl | rfl <;> rcases hu with rfl | rfl <;> refine ⟨?_, ?_⟩ <;> omega
set_option maxRecDepth 100000 in
set_option maxHeartbeats 1000000 in
theorem nat_Sub (A : Option Addr) (n c x : Nat) (A' : Option Addr) (n' c' y : Nat) (w : World) (h : NatAt w A n c x) (h' : NatAt w A' n' c' y) (hn : n ≤ 17592186044416) :
    Calls Try.prog 40 #[.agg #[.slice A n c], .agg #[.slice A' n' c']] w (RetNatB w (x - y) (decide (y ≤ x))) := by
  obtain ⟨i0, hi, hz0, hz1, hz2⟩ := info_parts info_u64
  have m1 := h.1.max
  have m2 := h.1.cap
  have m3 := h'.1.max
  have m4 := h'.1.cap
  have B0 := ((Blk1.new w 25 (.slice A n c)).alloc (.cells #[.slice A' n' c'] 25)).alloc (.cells #[.slice none 0 0] 25)
  have B1 := (Blk1.new (w.alloc (.cells #[.slice A n c] 25)) 25 (.slice A' n' c')).alloc (.cells #[.slice none 0 0] 25)
  have B2 := Blk1.new ((w.alloc (.cells #[.slice A n c] 25)).alloc (.cells #[.slice A' n' c'] 25)) 25 (.slice none 0 0)
  simp only [World.size_alloc] at B1 B2
  have hxa := ((h.alloc (.cells #[.slice A n c] 25)).alloc (.cells #[.slice A' n' c'] 25)).alloc (.cells #[.slice none 0 0] 25)
  have hya := ((h'.alloc (.cells #[.slice A n c] 25)).alloc (.cells #[.slice A' n' c'] 25)).alloc (.cells #[.slice none 0 0] 25)
  by_cases hlt : x < y
  · have C := Lib.hid (cmpI_lt hlt)
    have hdz := Lib.hid (show x - y = 0 by omega)
    have hdd := Lib.hid (show decide (y ≤ x) = false by simp; omega)
    clear hlt
    go_enter Try.func40, Try.ntmps40
    go_wp2_with fail
    refine (nat_Cmp A n c x A' n' c' y _ hxa hya).mono ?_
    rw [C.out]
    rintro e w1 ⟨rfl, hb1⟩
    have Z2 := B2.to hb1
    have c0 := Z2.cell
    have f0 := Z2.free
    have hbel : Below w.heap.size w w1 := nx (nxa (nxa (nxa (Below.refl _ _) _) _) _) hb1
    clear hb1
    go_wp2_with fail
    exact bodyPost_ret (v := .tuple #[.agg #[.slice none 0 0], .bool false]) (by simp [results, Try.results40, go_sem, c0]) rfl ⟨none, 0, 0, by rw [hdd.out], by rw [hdz.out]; exact ⟨Dig.nil _ _ _ _ (by omega), fun h => absurd h (by omega)⟩, hbel.setCell (by show w.heap.size ≤ w.heap.size + 1 + 1; omega) _⟩
  · have hle : y ≤ x := by omega
    have C : cmpI x y = 0 ∨ cmpI x y = 1 := by
      rcases Nat.eq_or_lt_of_le hle with e | e
      · exact .inl (cmpI_eq e.symm)
      · exact .inr (cmpI_gt e)
    have hC : 0 ≤ cmpI x y := by rcases C with e | e <;> rw [e] <;> decide
    obtain ⟨D, hD⟩ : ∃ D, D = x - y := ⟨_, rfl⟩
    obtain rfl : x = D + y := by omega
    have hDx : D < W ^ n := by have := h.1.lt; omega
    have hdz := Lib.hid hD
    have hdd := Lib.hid (show decide (y ≤ D + y) = true by simp)
    clear hlt C hD hle
    obtain ⟨r, hr⟩ : ∃ r, r = cmpI (D + y) y := ⟨_, rfl⟩
    rw [← hr] at hC
    have HR := Lib.hid hr
    clear hr
    go_enter Try.func40, Try.ntmps40
    go_wp2_with fail
    refine (nat_Cmp A n c (D + y) A' n' c' y _ hxa hya).mono ?_
    rw [← HR.out]
    rintro e w1 ⟨rfl, hb1⟩
    have X0 := B0.to hb1
    have X1 := B1.to hb1
    have X2 := B2.to hb1
    have hbel : Below w.heap.size w w1 := nx (nxa (nxa (nxa (Below.refl _ _) _) _) _) hb1
    have c0 := X0.cell
    have hs1 : w.heap.size + 1 + 1 < w1.heap.size := X2.lt
    clear hb1
    go_wp2_with (at_make; refine wpList_make_full _ rfl _ _ 22 rfl w1.heap.size 30 i0 (.int .u64 0) 1 Try.underlying22 hi hz0 hz1 .i64 .i64 _ _ n rfl rfl rfl rfl (by rw [hz2]; omega) (by unfold maxLen; omega) (Nat.le_refl _) ?_)
    intro w2 hown hgrow
    rw [made_dl .u64 W] at hown
    have hb2 := below_of_none hgrow
    have X0 := X0.to hb2
    have X1 := X1.to hb2
    have X2 := X2.to hb2
    have hbel := nx hbel hb2
    have hs2 : w1.heap.size < w2.heap.size := (hown.lt _ rfl).2
    obtain ⟨G, hG⟩ : ∃ G, G = w1.heap.size := ⟨_, rfl⟩
    rw [← hG] at hown hs1 hs2 ⊢
    have HG := Lib.hid hG
    clear hG hgrow hb2 c0
    go_wp2_with fail
    go_loopw [7, 8, 20] (fun cc _ k wr => ∃ kk : Nat, kk ≤ n ∧ k = .int .i64 (kk : Int) ∧ cc = .int .u64 (carry W kk D y : Nat) ∧ wr.ownsRow G 30 1 (.slice (some ⟨G, 0, none⟩) n n) n (dl .u64 W n (low W kk D)) ∧ Below w.heap.size w wr ∧ Blk1 wr w.heap.size 25 (.slice A n c) ∧ Blk1 wr (w.heap.size + 1) 25 (.slice A' n' c') ∧ Blk1 wr (w.heap.size + 1 + 1) 25 (.slice none 0 0)) (fun _ _ k _ => n - (intOf k).toNat)
    case atStart => exact ⟨0, Nat.zero_le _, rfl, by rw [carry_zero]; rfl, by rw [low_nought]; exact hown, hbel, X0, X1, X2⟩
    case round =>
      obtain ⟨kk, hk, rfl, rfl, hown, hbel, X0, X1, X2⟩ := hrel
      by_cases hlt : kk < n
      · have c0 := X0.cell
        have c1 := X1.cell
        have c3 := hown.cellAt kk (by omega)
        rw [dl_get _ _ _ _ _ hlt] at c3
        have f3 := hown.frozenAt kk
        have hx := h.below hbel (Nat.le_refl _)
        have hy := h'.below hbel (Nat.le_refl _)
        obtain ⟨g, o, rfl, hg, hcell⟩ := h.1.at_ (by omega)
        have cd := (hbel.cell (p := ⟨g, o + kk, none⟩) hg).trans (hcell kk hlt)
        clear hcell
        have hkN : (kk : Int) < (n : Int) := by omega
        go_wp2_with fail
        have SS := Lib.hid (subLo_digit kk D y)
        have d1 := dg_lt W_pos kk (D + y)
        have d2 := dg_lt W_pos kk y
        have d3 : carry W kk D y < W := Nat.lt_of_le_of_lt (carry_le W_pos kk D y) (by decide)
        have kM : kk ≤ 9223372036854775807 := by omega
        have hgl : g < wr.heap.size := Nat.lt_of_lt_of_le hg hbel.size
        go_region_held3 (fun w' => w'.cell? ⟨w.heap.size, 0, none⟩ = some (.slice (some ⟨g, o, none⟩) n c) ∧ w'.cell? ⟨w.heap.size + 1, 0, none⟩ = some (.slice A' n' c') ∧ w'.cell? ⟨g, o + kk, none⟩ = some (.int .u64 (dg W kk (D + y) : Nat))) (first | (exact ⟨((X0.drew.to hb2).far (by show _ ≠ G; omega) _).cell, ((X1.drew.to hb2).far (by show _ ≠ G; omega) _).cell, K3 _⟩) | (exact ⟨(X0.drew.to hb2).cell, (X1.drew.to hb2).cell, K2⟩) | go_keep)
          (first | (go_at_call 20; (with_reducible refine (nat_Word A' n' c' y kk _ hy.drew kM).mono ?_); rintro e w3 ⟨rfl, hb2⟩; have K2 := (hb2.cell (p := ⟨g, o + kk, none⟩) hgl).trans cd; have ho3 := own_below hown.drew hb2; have c4 := ho3.cellAt kk (by omega); have f4 := ho3.frozenAt kk; rw [dl_get _ _ _ _ _ hlt] at c4) | (go_at_call 70; (with_reducible refine (word_Sub _ _ _ _ d1 d2 d3).mono ?_); rw [SS.out.1, SS.out.2]; rintro e w4 ⟨rfl, rfl⟩; have K3 : ∀ u, (w3.setCell ⟨G, kk, none⟩ u).cell? ⟨g, o + kk, none⟩ = some (.int .u64 (dg W kk (D + y) : Nat)) := fun u => (World.cell?_setCell_other _ _ _ _ (by intro e; injection e with e1 e2; omega)).trans K2))
        have ho := (ho3.stored kk (.int .u64 (dg W kk D : Nat))).1
        rw [dl_set W_pos hlt (dg_lt W_pos _ _), put_top (low_bound W_pos _ _), low_next] at ho
        have hbelw : Below w.heap.size w w3 := nx (nxd hbel 1) hb2
        have hbel' := hbelw.setCell (p := ⟨G, kk, none⟩) (by show w.heap.size ≤ G; omega) (.int .u64 (dg W kk D : Nat))
        have Y0 := (X0.drew.to hb2).far (p := ⟨G, kk, none⟩) (by show _ ≠ G; omega) (.int .u64 (dg W kk D : Nat))
        have Y1 := (X1.drew.to hb2).far (p := ⟨G, kk, none⟩) (by show _ ≠ G; omega) (.int .u64 (dg W kk D : Nat))
        have Y2 := (X2.drew.to hb2).far (p := ⟨G, kk, none⟩) (by show _ ≠ G; omega) (.int .u64 (dg W kk D : Nat))
        clear hb2 ho3 c4 f4 c0 c1 c3 f3 hbelw K2 K3
        go_wp2_with fail
        go_roundw
        case rel => exact ⟨kk + 1, by omega, by go_num, rfl, ho, hbel', Y0, Y1, Y2⟩
        case measure => simp [intOf]; omega
      · obtain rfl : kk = n := by omega
        rw [low_all hDx] at hown
        obtain ⟨A1, c1, hv, hd, hf⟩ := own_form hown hDx
        cases hv
        go_wp2_with fail
        refine (nat_trim _ kk kk D _ hd).mono ?_
        rintro e w3 ⟨m, rfl, hd2, hb2, hm⟩
        have Z2 := X2.to hb2
        have c0 := Z2.cell
        have f0 := Z2.free
        have hbel' := nx hbel hb2
        clear hd hf hown hb2
        go_wp2_with fail
        exact bodyPost_ret (v := .tuple #[.agg #[.slice (some ⟨G, 0, none⟩) m kk], .bool true]) (by simp [results, Try.results40, go_sem, c0]) rfl ⟨_, m, _, by rw [hdd.out], by rw [← hdz.out]; exact hd2.put_ c0 _, hbel'.setCell (by show w.heap.size ≤ w.heap.size + 1 + 1; omega) _⟩
end Go.Proofs.Ytflleaifmeiikaa
