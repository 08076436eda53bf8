/- The walks of package prod, first part: a number by a word. -/
import Derived.Test.YtflleaifmeiikaaNatKit
import Derived.Test.YtflleaifmeiikaaProdLaw
set_option linter.unusedVariables false
set_option linter.unusedSimpArgs false
namespace Go.Proofs.Ytflleaifmeiikaa
open Go.RowKit
set_option maxRecDepth 100000
theorem byword_fit {x m add n : Nat} (hx : x < W ^ n) (hm : m < W) (ha : add < W) : x * m + add < W ^ (n + 1) := by
  have h := byword_over (k := n) (x := x) hm ha
  rw [low_all hx] at h
  have hp : 0 < W ^ n := Nat.pow_pos W_pos
  rw [Nat.pow_succ, Nat.mul_comm (W ^ n)]
  exact (Nat.div_lt_iff_lt_mul hp).1 h
set_option maxHeartbeats 1000000 in
theorem prod_ByWord (A : Option Addr) (n c x m add : Nat) (w : World) (h : NatAt w A n c x) (hm : m < W) (ha : add < W) (hn : n ≤ 17592186044415) :
    Calls Try.prog 54 #[.agg #[.slice A n c], .int .u64 (m : Nat), .int .u64 (add : Nat)] w (RetNat w (x * m + add)) := by
  obtain ⟨i0, hi, hz0, hz1, hz2⟩ := info_parts info_u64
  have m1 := h.1.max
  have m2 := h.1.cap
  have hfit := byword_fit h.lt hm ha
  have HF := Lib.hid hfit
  have B0 := (Blk1.new w 25 (.slice A n c)).alloc (.cells #[.slice none 0 0] 25)
  have B1 := Blk1.new (w.alloc (.cells #[.slice A n c] 25)) 25 (.slice none 0 0)
  simp only [World.size_alloc] at B1
  clear hfit
  go_enter Try.func54, Try.ntmps54
  go_wp2_with fail
  refine (nat_Len A n c _).mono ?_
  rintro e w1 ⟨rfl, hb1⟩
  have X0 := B0.to hb1
  have X1 := B1.to hb1
  have hbel : Below w.heap.size w w1 := nx (nxa (nxa (Below.refl _ _) _) _) hb1
  have hs1 : w.heap.size + 1 + 1 ≤ w1.heap.size := by have := hb1.size; simpa using this
  clear hb1
  go_wp2_with (at_make; refine wpList_make_full _ rfl _ _ 22 rfl w1.heap.size 30 i0 (.int .u64 0) 1 Try.underlying22 hi hz0 hz1 .i64 .i64 _ _ (n + 1) rfl rfl (by omega) (by omega) (by rw [hz2]; omega) (by unfold maxLen; omega) (Nat.le_refl _) ?_)
  intro w2 hown hgrow
  rw [made_dl .u64 W] at hown
  have hb2 := below_of_none hgrow
  have Y0 := X0.to hb2
  have Y1 := X1.to hb2
  have hbel2 := nx hbel hb2
  obtain ⟨G, hG⟩ : ∃ G, G = w1.heap.size := ⟨_, rfl⟩
  have hGs : w.heap.size + 1 + 1 ≤ G := by omega
  rw [← hG] at hown ⊢
  clear hgrow hb2 hG hbel X0 X1 hs1
  have c0 := Y0.cell
  go_wp2_with fail
  refine (nat_Len A n c _).mono ?_
  rintro e w3 ⟨rfl, hb3⟩
  have hown3 := own_below hown hb3
  have Z0 := Y0.to hb3
  have Z1 := Y1.to hb3
  have hbel3 := nx hbel2 hb3
  clear hb3 hbel2 Y0 Y1 hown c0
  go_wp2_with fail
  go_loopw [2, 8, 15] (fun ad _ k wr => ∃ kk q : Nat, kk ≤ n ∧ k = .int .i64 (kk : Int) ∧ ad = .int .u64 (q : Nat) ∧ q = (low W kk x * m + add) / W ^ kk ∧ wr.ownsRow G 30 1 (.slice (some ⟨G, 0, none⟩) (n + 1) (n + 1)) (n + 1) (dl .u64 W (n + 1) (low W kk (x * m + add))) ∧ Below w.heap.size w wr ∧ Blk1 wr w.heap.size 25 (.slice A n c) ∧ Blk1 wr (w.heap.size + 1) 25 (.slice none 0 0)) (fun _ _ k _ => n - (intOf k).toNat)
  case atStart => exact ⟨0, add, Nat.zero_le _, rfl, rfl, by rw [low_nought]; simp, by rw [low_nought]; exact hown3, hbel3, Z0, Z1⟩
  case round =>
    clear hown3 hbel3 Z0 Z1
    obtain ⟨kk, q, hk, rfl, rfl, hq, hown, hbel, X0, X1⟩ := hrel
    by_cases hlt : kk < n
    · have hqw : q < W := by rw [hq]; exact byword_over hm ha
      obtain ⟨s1, s2⟩ := byword_step kk x m add
      rw [← hq] at s1 s2
      have S1 := Lib.hid (show maLo (dg W kk x) m q 0 = dg W kk (x * m + add) from s1)
      have S2 := Lib.hid (show maHi (dg W kk x) m q 0 = (low W (kk + 1) x * m + add) / W ^ (kk + 1) from s2)
      have d1 := dg_lt W_pos kk x
      have kM : kk ≤ 9223372036854775807 := by omega
      have kN : (kk : Int) < (n : Int) := by omega
      have hx := h.below hbel (Nat.le_refl _)
      have hz : (0 : Nat) < W := W_pos
      have c0 := X0.cell
      clear s1 s2 hq
      go_wp2_with fail
      refine (nat_Word A n c x kk _ hx kM).mono ?_
      rintro e w4 ⟨rfl, hb4⟩
      go_wp2_with fail
      refine (word_MulAdd _ m q 0 _ d1 hm hqw hz).mono ?_
      rw [S1.out, S2.out]
      rintro e w5 ⟨rfl, rfl⟩
      have ho4 := own_below hown hb4
      have c4 := ho4.cellAt kk (by omega)
      rw [dl_get _ _ _ _ _ (by omega)] at c4
      have f4 := ho4.frozenAt kk
      have ho := (ho4.stored kk (.int .u64 (dg W kk (x * m + add) : Nat))).1
      rw [dl_set W_pos (by omega) (dg_lt W_pos _ _), put_top (low_bound W_pos _ _), low_next] at ho
      have hbel' := (nx hbel hb4).setCell (p := ⟨G, kk, none⟩) (by show w.heap.size ≤ G; omega) (.int .u64 (dg W kk (x * m + add) : Nat))
      have Y0 := (X0.to hb4).far (p := ⟨G, kk, none⟩) (by show _ ≠ G; omega) (.int .u64 (dg W kk (x * m + add) : Nat))
      have Y1 := (X1.to hb4).far (p := ⟨G, kk, none⟩) (by show _ ≠ G; omega) (.int .u64 (dg W kk (x * m + add) : Nat))
      clear hown hbel X0 X1 hb4 ho4 c0 hx
      go_wp2_with fail
      go_roundw
      case rel => exact ⟨kk + 1, (low W (kk + 1) x * m + add) / W ^ (kk + 1), by omega, by go_num, rfl, rfl, ho, hbel', Y0, Y1⟩
      case measure => simp [intOf]; omega
    · obtain rfl : kk = n := by omega
      rw [low_all h.lt] at hq
      have hqw : q < W := by rw [hq]; exact (Nat.div_lt_iff_lt_mul (Nat.pow_pos W_pos)).2 (by have := HF.out; rwa [Nat.pow_succ, Nat.mul_comm (W ^ kk)] at this)
      have c0 := X0.cell
      have hX : low W kk (x * m + add) + q * W ^ kk = x * m + add := by rw [hq, Nat.mul_comm _ (W ^ kk)]; exact Nat.mod_add_div _ _
      have HX := Lib.hid hX
      clear hX hq
      go_wp2_with fail
      refine (nat_Len A kk c _).mono ?_
      rintro e w4 ⟨rfl, hb4⟩
      have ho4 := own_below hown hb4
      have c4 := ho4.cellAt kk (by omega)
      rw [dl_get _ _ _ _ _ (by omega)] at c4
      have f4 := ho4.frozenAt kk
      have ho := (ho4.stored kk (.int .u64 (q : Nat))).1
      rw [dl_set W_pos (by omega) hqw, put_top (low_bound W_pos _ _), HX.out] at ho
      have hbel' := (nx hbel hb4).setCell (p := ⟨G, kk, none⟩) (by show w.heap.size ≤ G; omega) (.int .u64 (q : Nat))
      have Y1 := (X1.to hb4).far (p := ⟨G, kk, none⟩) (by show _ ≠ G; omega) (.int .u64 (q : Nat))
      clear hown hbel X0 X1 hb4 ho4 c0
      obtain ⟨A1, c1, hv, hd, hf⟩ := own_form ho HF.out
      cases hv
      clear ho
      go_wp2_with fail
      refine (nat_Of _ _ _ _ _ hd (by omega)).mono ?_
      rintro e w5 ⟨A2, n2, c2, rfl, h2, hb5, hm2⟩
      have Z1 := Y1.to hb5
      have c6 := Z1.cell
      have f6 := Z1.free
      have hb6 := nx hbel' hb5
      clear hd hf hb5 Y1 hbel' c4 f4
      go_wp2_with fail
      exact bodyPost_ret (v := .agg #[.slice A2 n2 c2]) (by simp [results, Try.results54, go_sem, c6]) rfl ⟨A2, n2, c2, rfl, h2.put_ c6 _, hb6.setCell (by show w.heap.size ≤ w.heap.size + 1; omega) _⟩
end Go.Proofs.Ytflleaifmeiikaa
