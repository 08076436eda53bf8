/- The walks of package gcd. -/
import Derived.Test.YthjokpnihoigeaaKI
import Derived.Test.YthjokpnihoigeaaKD
import Derived.Test.YthjokpnihoigeaaKF
import Derived.Deep.LoopGhost
set_option linter.unusedVariables false
set_option linter.unusedSimpArgs false
namespace Go.Proofs.Ythjokpnihoigeaa
open Go.RowKit
set_option maxRecDepth 100000
theorem gcd_turn (a b : Nat) : Nat.gcd b (a % b) = Nat.gcd a b := by
  rw [Nat.gcd_comm b (a % b), ← Nat.gcd_rec, Nat.gcd_comm]
def RetNatL (w : World) (x L : Nat) (e : Ending) (w' : World) : Prop := ∃ A n c, e = .returned (.agg #[.slice A n c]) ∧ NatAt w' A n c x ∧ Below w.heap.size w w' ∧ n ≤ L
set_option maxHeartbeats 4000000 in
theorem gcd_Of (A : Option Addr) (n c x : Nat) (A' : Option Addr) (n' c' y : Nat) (w : World) (h : NatAt w A n c x) (h' : NatAt w A' n' c' y) (hn : n ≤ 17592186044000) (hn' : n' ≤ 17592186044000) :
    Calls Try.prog 11 #[.agg #[.slice A n c], .agg #[.slice A' n' c']] w (RetNatL w (Nat.gcd x y) (max n n')) := by
  go_enter Try.func11, Try.ntmps11
  go_wp2_with fail
  have X1 := Blk1.newAt w (w.heap.size) 25 (.slice A n c) (by first | rfl | simp)
  have X2 := Blk1.newAt (w.alloc (.cells #[.slice A n c] 25)) (w.heap.size + 1) 25 (.slice A' n' c') (by first | rfl | simp)
  have X3 := Blk1.newAt ((w.alloc (.cells #[.slice A n c] 25)).alloc (.cells #[.slice A' n' c'] 25)) (w.heap.size + 1 + 1) 25 (.slice none 0 0) (by first | rfl | simp)
  replace X1 := (show Blk1 (((w.alloc (.cells #[.slice A n c] 25)).alloc (.cells #[.slice A' n' c'] 25)).alloc (.cells #[.slice none 0 0] 25)) _ _ _ from X1.to bW)
  replace X2 := (show Blk1 (((w.alloc (.cells #[.slice A n c] 25)).alloc (.cells #[.slice A' n' c'] 25)).alloc (.cells #[.slice none 0 0] 25)) _ _ _ from X2.to bW)
  have hbwe1 : Below w.heap.size w (((w.alloc (.cells #[.slice A n c] 25)).alloc (.cells #[.slice A' n' c'] 25)).alloc (.cells #[.slice none 0 0] 25)) := bW
  generalize (((w.alloc (.cells #[.slice A n c] 25)).alloc (.cells #[.slice A' n' c'] 25)).alloc (.cells #[.slice none 0 0] 25)) = we1 at X1 X2 X3 hbwe1  ⊢
  have ha0 := h.to (show Below w.heap.size w we1 from bW)
  have hb0 := h'.to (show Below w.heap.size w we1 from bW)
  go_loopg [6] y (fun k _ wr => ∃ A1 n1 c1 x1 A2 n2 c2, Blk1 wr w.heap.size 25 (.slice A1 n1 c1) ∧ NatAt wr A1 n1 c1 x1 ∧ Blk1 wr (w.heap.size + 1) 25 (.slice A2 n2 c2) ∧ NatAt wr A2 n2 c2 k ∧ Blk1 wr (w.heap.size + 1 + 1) 25 (.slice none 0 0) ∧ Below w.heap.size w wr ∧ Nat.gcd x1 k = Nat.gcd x y ∧ n1 ≤ max n n' ∧ n2 ≤ max n n')
  case atStart => exact ⟨A, n, c, x, A', n', c', X1, ha0, X2, hb0, X3, bW, rfl, by omega, by omega⟩
  case round =>
    clear X1 X2 X3 ha0 hb0
    obtain ⟨A1, n1, c1, x1, A2, n2, c2, X1, ha, X2, hb, X3, hbw, hg, qa, qb⟩ := hrel
    have HG := Lib.hid hg
    clear hg
    rcases Nat.eq_zero_or_pos gk with h0 | h0
    · have HZ := Lib.hid (decide_eq_true h0)
      have HE := Lib.hid (show x1 = Nat.gcd x y by rw [← HG.out, h0, Nat.gcd_zero_right])
      clear h0
      have d1 := (show Blk1 wr _ _ _ from X2.to bW).cell
      go_wp2_with fail
      clear d1
      refine (nat_Zero _ _ _ _ _ (hb.to bW)).mono ?_
      rw [HZ.out]
      rintro e w1 ⟨rfl, hb1⟩
      have d2 := (show Blk1 w1 _ _ _ from X1.to bW).cell
      have d3 := (show Blk1 w1 _ _ _ from X3.to bW).cell
      have fd3 := (show Blk1 w1 _ _ _ from X3.to bW).free
      go_wp2_with fail
      clear d2 d3 fd3
      replace hb := (show NatAt w1 _ _ _ _ from hb.to bW)
      replace ha := (show NatAt w1 _ _ _ _ from ha.to bW)
      replace X1 := (show Blk1 w1 _ _ _ from X1.to bW)
      replace X2 := (show Blk1 w1 _ _ _ from X2.to bW)
      replace X3 := (show Blk1 w1 _ _ _ from X3.to bW)
      have hbws2 := nxs (show Below w.heap.size w w1 from bW) (p := ⟨w.heap.size + 1 + 1, 0, none⟩) (by show w.heap.size ≤ w.heap.size + 1 + 1; omega) (.slice A1 n1 c1)
      replace hb := hb.put_ X3.cell (.slice A1 n1 c1)
      replace ha := ha.put_ X3.cell (.slice A1 n1 c1)
      replace X1 := X1.far (p := ⟨w.heap.size + 1 + 1, 0, none⟩) (by show w.heap.size ≠ w.heap.size + 1 + 1; omega) (.slice A1 n1 c1)
      replace X2 := X2.far (p := ⟨w.heap.size + 1 + 1, 0, none⟩) (by show w.heap.size + 1 ≠ w.heap.size + 1 + 1; omega) (.slice A1 n1 c1)
      replace X3 := X3.set (.slice A1 n1 c1)
      generalize w1.setCell ⟨w.heap.size + 1 + 1, 0, none⟩ (.slice A1 n1 c1) = ws2 at hb ha X1 X2 X3 hbws2 ⊢
      have erX3 := (show Blk1 ws2 _ _ _ from X3.to bW).cell
      exact bodyPost_ret (v := .agg #[.slice A1 n1 c1]) (by simp [results, Try.results11, go_sem, erX3]) rfl ⟨_, _, _, rfl, (by rw [← HE.out]; exact (show NatAt ws2 _ _ _ _ from (ha.to bW))), (show Below w.heap.size w ws2 from bW), qa⟩
    · have HZ := Lib.hid (decide_eq_false (show ¬ gk = 0 by omega))
      have d4 := (show Blk1 wr _ _ _ from X2.to bW).cell
      go_wp2_with fail
      clear d4
      refine (nat_Zero _ _ _ _ _ (hb.to bW)).mono ?_
      rw [HZ.out]
      rintro e w2 ⟨rfl, hb2⟩
      have d5 := (show Blk1 w2 _ _ _ from X1.to bW).cell
      have d6 := (show Blk1 w2 _ _ _ from X2.to bW).cell
      go_wp2_with fail
      clear d5 d6
      refine (quot_Mod _ _ _ _ _ _ _ _ _ (ha.to bW) (hb.to bW) (by omega) h0).mono ?_
      rintro e w3 ⟨A3, n3, c3, rfl, h3, hb3⟩
      have q3 := h3.le_of _ (Nat.lt_of_le_of_lt (Nat.mod_le _ _) ha.lt)
      have qr := h3.le_of _ (Nat.lt_trans (Nat.mod_lt _ h0) hb.lt)
      go_wp2_with fail
      have ltX1_w3 : w.heap.size < w3.heap.size := (show Blk1 w3 _ _ _ from X1.to bW).lt
      have ltX2_w3 : w.heap.size + 1 < w3.heap.size := (show Blk1 w3 _ _ _ from X2.to bW).lt
      have ltX3_w3 : w.heap.size + 1 + 1 < w3.heap.size := (show Blk1 w3 _ _ _ from X3.to bW).lt
      have X4 := Blk1.newAt w3 (w3.heap.size) 25 (.slice A3 n3 c3) (by first | rfl | simp)
      have hbwe3 : Below w3.heap.size w3 (w3.alloc (.cells #[.slice A3 n3 c3] 25)) := bW
      generalize (w3.alloc (.cells #[.slice A3 n3 c3] 25)) = we3 at X4 hbwe3  ⊢
      have CX2 := (show Blk1 we3 _ _ _ from X2.to bW).cell
      have CX4 := (show Blk1 we3 _ _ _ from X4.to bW).cell
      refine wp_regionT (S := fun w' => w'.cell? ⟨w.heap.size + 1, 0, none⟩ = some (.slice A2 n2 c2) ∧ w'.cell? ⟨w3.heap.size, 0, none⟩ = some (.slice A3 n3 c3) ∧ True) [3] kR ⟨(by first | exact CSX2_1 | (refine cellB (w := we3) ?_ CX2; with_reducible repeat (first | exact Below.refl _ _ | refine nxa ?_ _ | refine nxd ?_ _ | refine nxw ?_ | refine nx ?_ (by assumption)))), (by first | exact CSX4_1 | (refine cellB (w := we3) ?_ CX4; with_reducible repeat (first | exact Below.refl _ _ | refine nxa ?_ _ | refine nxd ?_ _ | refine nxw ?_ | refine nx ?_ (by assumption)))), trivial⟩ (fun hHeld => ?_)
      have hbd1 : Below we3.heap.size we3 we3.drew := nxw (Below.refl _ _)
      generalize we3.drew = wd1 at hHeld hbd1 ⊢
      refine anyT_take (i := 0) (v := ?_) gO kR kR kR kR (by exact fun _ _ _ h => h) (Or.inl ⟨by rfl, ?_⟩) (by assumption) ?_
      rotate_left
      · intro w hSw; (try dsimp only at hSw); go_simp; try with_reducible rfl
      try simp only [Act.put, sX, sY, sZ]
      refine anyT_take (i := 1) (v := ?_) gO kR kR kR kR (by exact fun _ _ _ h => h) (Or.inl ⟨by rfl, ?_⟩) (by assumption) ?_
      rotate_left
      · intro w hSw; (try dsimp only at hSw); go_simp; try with_reducible rfl
      try simp only [Act.put, sX, sY, sZ]
      refine anyT_ready (rs := [2]) kR (by simp) (ReadyT.cons gO (fun K hK => ?_) ReadyT.nil)
      have cqX1 := (show Blk1 wd1 _ _ _ from X1.to bW).cell
      have fqX1 := (show Blk1 wd1 _ _ _ from X1.to bW).free
      have CSX2_1 := ((show Blk1 wd1 _ _ _ from X2.to bW).far (p := ⟨w.heap.size, 0, none⟩) (by show w.heap.size + 1 ≠ w.heap.size; omega) (.slice A2 n2 c2)).cell
      have CSX4_1 := ((show Blk1 wd1 _ _ _ from X4.to bW).far (p := ⟨w.heap.size, 0, none⟩) (by show w3.heap.size ≠ w.heap.size; omega) (.slice A2 n2 c2)).cell
      go_simp
      refine hK.out _ _ ⟨(by first | exact CSX2_1 | (refine cellB (w := we3) ?_ CX2; with_reducible repeat (first | exact Below.refl _ _ | refine nxa ?_ _ | refine nxd ?_ _ | refine nxw ?_ | refine nx ?_ (by assumption)))), (by first | exact CSX4_1 | (refine cellB (w := we3) ?_ CX4; with_reducible repeat (first | exact Below.refl _ _ | refine nxa ?_ _ | refine nxd ?_ _ | refine nxw ?_ | refine nx ?_ (by assumption)))), trivial⟩ (fun hHeld => ?_)
      clear hK K
      try simp only [Act.put, sX, sY, sZ]
      refine anyT_ready (rs := [3]) kR (by simp) (ReadyT.last gO (by rfl) (fun K hK => ?_))
      have cqX2 := ((show Blk1 wd1 _ _ _ from X2.to bW).far (p := ⟨w.heap.size, 0, none⟩) (by show w.heap.size + 1 ≠ w.heap.size; omega) (.slice A2 n2 c2)).cell
      have fqX2 := ((show Blk1 wd1 _ _ _ from X2.to bW).far (p := ⟨w.heap.size, 0, none⟩) (by show w.heap.size + 1 ≠ w.heap.size; omega) (.slice A2 n2 c2)).free
      go_simp
      refine hK.out _ _ ?_
      clear hK K
      try simp only [Act.put, sX, sY, sZ]
      refine anyT_done kR ?_ _
      clear hHeld cqX1 fqX1 cqX2 fqX2 CX2 CX4 CSX2_1 CSX4_1
      replace hb := (show NatAt wd1 _ _ _ _ from hb.to bW)
      replace ha := (show NatAt wd1 _ _ _ _ from ha.to bW)
      replace h3 := (show NatAt wd1 _ _ _ _ from h3.to bW)
      replace X1 := (show Blk1 wd1 _ _ _ from X1.to bW)
      replace X2 := (show Blk1 wd1 _ _ _ from X2.to bW)
      replace X3 := (show Blk1 wd1 _ _ _ from X3.to bW)
      replace X4 := (show Blk1 wd1 _ _ _ from X4.to bW)
      have hbws4 := nxs (show Below w.heap.size w wd1 from bW) (p := ⟨w.heap.size, 0, none⟩) (by show w.heap.size ≤ w.heap.size; omega) (.slice A2 n2 c2)
      replace hb := hb.put_ X1.cell (.slice A2 n2 c2)
      replace ha := ha.put_ X1.cell (.slice A2 n2 c2)
      replace h3 := h3.put_ X1.cell (.slice A2 n2 c2)
      replace X2 := X2.far (p := ⟨w.heap.size, 0, none⟩) (by show w.heap.size + 1 ≠ w.heap.size; omega) (.slice A2 n2 c2)
      replace X3 := X3.far (p := ⟨w.heap.size, 0, none⟩) (by show w.heap.size + 1 + 1 ≠ w.heap.size; omega) (.slice A2 n2 c2)
      replace X4 := X4.far (p := ⟨w.heap.size, 0, none⟩) (by show w3.heap.size ≠ w.heap.size; omega) (.slice A2 n2 c2)
      replace X1 := X1.set (.slice A2 n2 c2)
      generalize wd1.setCell ⟨w.heap.size, 0, none⟩ (.slice A2 n2 c2) = ws4 at hb ha h3 X2 X3 X4 X1 hbws4 ⊢
      replace hb := (show NatAt ws4 _ _ _ _ from hb.to bW)
      replace ha := (show NatAt ws4 _ _ _ _ from ha.to bW)
      replace h3 := (show NatAt ws4 _ _ _ _ from h3.to bW)
      replace X1 := (show Blk1 ws4 _ _ _ from X1.to bW)
      replace X2 := (show Blk1 ws4 _ _ _ from X2.to bW)
      replace X3 := (show Blk1 ws4 _ _ _ from X3.to bW)
      replace X4 := (show Blk1 ws4 _ _ _ from X4.to bW)
      have hbws5 := nxs (show Below w.heap.size w ws4 from bW) (p := ⟨w.heap.size + 1, 0, none⟩) (by show w.heap.size ≤ w.heap.size + 1; omega) (.slice A3 n3 c3)
      replace hb := hb.put_ X2.cell (.slice A3 n3 c3)
      replace ha := ha.put_ X2.cell (.slice A3 n3 c3)
      replace h3 := h3.put_ X2.cell (.slice A3 n3 c3)
      replace X1 := X1.far (p := ⟨w.heap.size + 1, 0, none⟩) (by show w.heap.size ≠ w.heap.size + 1; omega) (.slice A3 n3 c3)
      replace X3 := X3.far (p := ⟨w.heap.size + 1, 0, none⟩) (by show w.heap.size + 1 + 1 ≠ w.heap.size + 1; omega) (.slice A3 n3 c3)
      replace X4 := X4.far (p := ⟨w.heap.size + 1, 0, none⟩) (by show w3.heap.size ≠ w.heap.size + 1; omega) (.slice A3 n3 c3)
      replace X2 := X2.set (.slice A3 n3 c3)
      generalize ws4.setCell ⟨w.heap.size + 1, 0, none⟩ (.slice A3 n3 c3) = ws5 at hb ha h3 X1 X3 X4 X2 hbws5 ⊢
      go_wp2_with fail
      go_roundg ((x1 % gk))
      case measure => exact Nat.mod_lt _ h0
      case rel => exact ⟨_, _, _, gk, _, _, _, X1, hb, X2, h3, X3, bW, by rw [gcd_turn]; exact HG.out, qb, by omega⟩
theorem lcm_eq (x y : Nat) : x / Nat.gcd x y * y = Nat.lcm x y := by
  obtain ⟨k, hk⟩ := Nat.gcd_dvd_left x y
  rcases Nat.eq_zero_or_pos (Nat.gcd x y) with h0 | h0
  · have := Nat.gcd_eq_zero_iff.1 h0
    rw [this.1, this.2]; rfl
  · unfold Nat.lcm
    have e1 : x / Nat.gcd x y = k := Nat.div_eq_of_eq_mul_right h0 hk
    have e2 : x * y = Nat.gcd x y * (k * y) := by rw [← Nat.mul_assoc, ← hk]
    rw [e1, e2, Nat.mul_div_cancel_left _ h0]
theorem lcm_le (x y : Nat) : Nat.lcm x y ≤ x * y := Nat.div_le_self _ _
theorem lcm_fit {x y n m : Nat} (hx : x < W ^ n) (hy : y < W ^ m) : Nat.lcm x y < W ^ (n + m) := Nat.lt_of_le_of_lt (lcm_le x y) (mul_lt_pow hx hy)
set_option maxHeartbeats 4000000 in
theorem gcd_Lcm_x (A : Option Addr) (n c x : Nat) (A' : Option Addr) (n' c' y : Nat) (w : World) (h : NatAt w A n c x) (h' : NatAt w A' n' c' y) (hn : n + n' ≤ 17592186044000) (hx : x = 0) :
    Calls Try.prog 17 #[.agg #[.slice A n c], .agg #[.slice A' n' c']] w (RetNat w 0) := by
  have HX := Lib.hid hx
  clear hx
  go_enter Try.func17, Try.ntmps17
  go_wp2_with fail
  have X1 := Blk1.newAt w (w.heap.size) 25 (.slice A n c) (by first | rfl | simp)
  have X2 := Blk1.newAt (w.alloc (.cells #[.slice A n c] 25)) (w.heap.size + 1) 25 (.slice A' n' c') (by first | rfl | simp)
  have X3 := Blk1.newAt ((w.alloc (.cells #[.slice A n c] 25)).alloc (.cells #[.slice A' n' c'] 25)) (w.heap.size + 1 + 1) 25 (.slice none 0 0) (by first | rfl | simp)
  replace X1 := (show Blk1 (((w.alloc (.cells #[.slice A n c] 25)).alloc (.cells #[.slice A' n' c'] 25)).alloc (.cells #[.slice none 0 0] 25)) _ _ _ from X1.to bW)
  replace X2 := (show Blk1 (((w.alloc (.cells #[.slice A n c] 25)).alloc (.cells #[.slice A' n' c'] 25)).alloc (.cells #[.slice none 0 0] 25)) _ _ _ from X2.to bW)
  have hbwe1 : Below w.heap.size w (((w.alloc (.cells #[.slice A n c] 25)).alloc (.cells #[.slice A' n' c'] 25)).alloc (.cells #[.slice none 0 0] 25)) := bW
  generalize (((w.alloc (.cells #[.slice A n c] 25)).alloc (.cells #[.slice A' n' c'] 25)).alloc (.cells #[.slice none 0 0] 25)) = we1 at X1 X2 X3 hbwe1  ⊢
  refine (nat_Zero _ _ _ _ _ (h.to bW)).mono ?_
  rw [decide_eq_true HX.out]
  rintro e w1 ⟨rfl, hb1⟩
  have d1 := (show Blk1 w1 _ _ _ from X3.to bW).cell
  have fd1 := (show Blk1 w1 _ _ _ from X3.to bW).free
  go_wp2_with fail
  clear d1 fd1
  replace h := (show NatAt w1 _ _ _ _ from h.to bW)
  replace h' := (show NatAt w1 _ _ _ _ from h'.to bW)
  replace X1 := (show Blk1 w1 _ _ _ from X1.to bW)
  replace X2 := (show Blk1 w1 _ _ _ from X2.to bW)
  replace X3 := (show Blk1 w1 _ _ _ from X3.to bW)
  have hbws2 := nxs (show Below w.heap.size w w1 from bW) (p := ⟨w.heap.size + 1 + 1, 0, none⟩) (by show w.heap.size ≤ w.heap.size + 1 + 1; omega) (.slice none 0 0)
  replace h := h.put_ X3.cell (.slice none 0 0)
  replace h' := h'.put_ X3.cell (.slice none 0 0)
  replace X1 := X1.far (p := ⟨w.heap.size + 1 + 1, 0, none⟩) (by show w.heap.size ≠ w.heap.size + 1 + 1; omega) (.slice none 0 0)
  replace X2 := X2.far (p := ⟨w.heap.size + 1 + 1, 0, none⟩) (by show w.heap.size + 1 ≠ w.heap.size + 1 + 1; omega) (.slice none 0 0)
  replace X3 := X3.set (.slice none 0 0)
  generalize w1.setCell ⟨w.heap.size + 1 + 1, 0, none⟩ (.slice none 0 0) = ws2 at h h' X1 X2 X3 hbws2 ⊢
  have erX3 := (show Blk1 ws2 _ _ _ from X3.to bW).cell
  exact bodyPost_ret (v := .agg #[.slice none 0 0]) (by simp [results, Try.results17, go_sem, erX3]) rfl ⟨_, _, _, rfl, (show NatAt ws2 _ _ _ _ from (nat_nil ws2)), (show Below w.heap.size w ws2 from bW)⟩
set_option maxHeartbeats 4000000 in
theorem gcd_Lcm_y (A : Option Addr) (n c x : Nat) (A' : Option Addr) (n' c' y : Nat) (w : World) (h : NatAt w A n c x) (h' : NatAt w A' n' c' y) (hn : n + n' ≤ 17592186044000) (hx : ¬ x = 0) (hy : y = 0) :
    Calls Try.prog 17 #[.agg #[.slice A n c], .agg #[.slice A' n' c']] w (RetNat w 0) := by
  have HX := Lib.hid hx
  have HY := Lib.hid hy
  clear hx hy
  go_enter Try.func17, Try.ntmps17
  go_wp2_with fail
  have X1 := Blk1.newAt w (w.heap.size) 25 (.slice A n c) (by first | rfl | simp)
  have X2 := Blk1.newAt (w.alloc (.cells #[.slice A n c] 25)) (w.heap.size + 1) 25 (.slice A' n' c') (by first | rfl | simp)
  have X3 := Blk1.newAt ((w.alloc (.cells #[.slice A n c] 25)).alloc (.cells #[.slice A' n' c'] 25)) (w.heap.size + 1 + 1) 25 (.slice none 0 0) (by first | rfl | simp)
  replace X1 := (show Blk1 (((w.alloc (.cells #[.slice A n c] 25)).alloc (.cells #[.slice A' n' c'] 25)).alloc (.cells #[.slice none 0 0] 25)) _ _ _ from X1.to bW)
  replace X2 := (show Blk1 (((w.alloc (.cells #[.slice A n c] 25)).alloc (.cells #[.slice A' n' c'] 25)).alloc (.cells #[.slice none 0 0] 25)) _ _ _ from X2.to bW)
  have hbwe1 : Below w.heap.size w (((w.alloc (.cells #[.slice A n c] 25)).alloc (.cells #[.slice A' n' c'] 25)).alloc (.cells #[.slice none 0 0] 25)) := bW
  generalize (((w.alloc (.cells #[.slice A n c] 25)).alloc (.cells #[.slice A' n' c'] 25)).alloc (.cells #[.slice none 0 0] 25)) = we1 at X1 X2 X3 hbwe1  ⊢
  refine (nat_Zero _ _ _ _ _ (h.to bW)).mono ?_
  rw [decide_eq_false HX.out]
  rintro e w1 ⟨rfl, hb1⟩
  have d1 := (show Blk1 w1 _ _ _ from X2.to bW).cell
  go_wp2_with fail
  clear d1
  refine (nat_Zero _ _ _ _ _ (h'.to bW)).mono ?_
  rw [decide_eq_true HY.out]
  rintro e w2 ⟨rfl, hb2⟩
  have d2 := (show Blk1 w2 _ _ _ from X3.to bW).cell
  have fd2 := (show Blk1 w2 _ _ _ from X3.to bW).free
  go_wp2_with fail
  clear d2 fd2
  replace h := (show NatAt w2 _ _ _ _ from h.to bW)
  replace h' := (show NatAt w2 _ _ _ _ from h'.to bW)
  replace X1 := (show Blk1 w2 _ _ _ from X1.to bW)
  replace X2 := (show Blk1 w2 _ _ _ from X2.to bW)
  replace X3 := (show Blk1 w2 _ _ _ from X3.to bW)
  have hbws2 := nxs (show Below w.heap.size w w2 from bW) (p := ⟨w.heap.size + 1 + 1, 0, none⟩) (by show w.heap.size ≤ w.heap.size + 1 + 1; omega) (.slice none 0 0)
  replace h := h.put_ X3.cell (.slice none 0 0)
  replace h' := h'.put_ X3.cell (.slice none 0 0)
  replace X1 := X1.far (p := ⟨w.heap.size + 1 + 1, 0, none⟩) (by show w.heap.size ≠ w.heap.size + 1 + 1; omega) (.slice none 0 0)
  replace X2 := X2.far (p := ⟨w.heap.size + 1 + 1, 0, none⟩) (by show w.heap.size + 1 ≠ w.heap.size + 1 + 1; omega) (.slice none 0 0)
  replace X3 := X3.set (.slice none 0 0)
  generalize w2.setCell ⟨w.heap.size + 1 + 1, 0, none⟩ (.slice none 0 0) = ws2 at h h' X1 X2 X3 hbws2 ⊢
  have erX3 := (show Blk1 ws2 _ _ _ from X3.to bW).cell
  exact bodyPost_ret (v := .agg #[.slice none 0 0]) (by simp [results, Try.results17, go_sem, erX3]) rfl ⟨_, _, _, rfl, (show NatAt ws2 _ _ _ _ from (nat_nil ws2)), (show Below w.heap.size w ws2 from bW)⟩
set_option maxHeartbeats 4000000 in
theorem gcd_Lcm_p (A : Option Addr) (n c x : Nat) (A' : Option Addr) (n' c' y : Nat) (w : World) (h : NatAt w A n c x) (h' : NatAt w A' n' c' y) (hn : n + n' ≤ 17592186044000) (hx : 0 < x) (hy : 0 < y) :
    Calls Try.prog 17 #[.agg #[.slice A n c], .agg #[.slice A' n' c']] w (RetNat w (Nat.lcm x y)) := by
  have hgp := Nat.gcd_pos_of_pos_left y hx
  go_enter Try.func17, Try.ntmps17
  go_wp2_with fail
  have X1 := Blk1.newAt w (w.heap.size) 25 (.slice A n c) (by first | rfl | simp)
  have X2 := Blk1.newAt (w.alloc (.cells #[.slice A n c] 25)) (w.heap.size + 1) 25 (.slice A' n' c') (by first | rfl | simp)
  have X3 := Blk1.newAt ((w.alloc (.cells #[.slice A n c] 25)).alloc (.cells #[.slice A' n' c'] 25)) (w.heap.size + 1 + 1) 25 (.slice none 0 0) (by first | rfl | simp)
  replace X1 := (show Blk1 (((w.alloc (.cells #[.slice A n c] 25)).alloc (.cells #[.slice A' n' c'] 25)).alloc (.cells #[.slice none 0 0] 25)) _ _ _ from X1.to bW)
  replace X2 := (show Blk1 (((w.alloc (.cells #[.slice A n c] 25)).alloc (.cells #[.slice A' n' c'] 25)).alloc (.cells #[.slice none 0 0] 25)) _ _ _ from X2.to bW)
  have hbwe1 : Below w.heap.size w (((w.alloc (.cells #[.slice A n c] 25)).alloc (.cells #[.slice A' n' c'] 25)).alloc (.cells #[.slice none 0 0] 25)) := bW
  generalize (((w.alloc (.cells #[.slice A n c] 25)).alloc (.cells #[.slice A' n' c'] 25)).alloc (.cells #[.slice none 0 0] 25)) = we1 at X1 X2 X3 hbwe1  ⊢
  refine (nat_Zero _ _ _ _ _ (h.to bW)).mono ?_
  rw [decide_eq_false (Nat.ne_of_gt hx)]
  rintro e w1 ⟨rfl, hb1⟩
  have d1 := (show Blk1 w1 _ _ _ from X2.to bW).cell
  go_wp2_with fail
  clear d1
  refine (nat_Zero _ _ _ _ _ (h'.to bW)).mono ?_
  rw [decide_eq_false (Nat.ne_of_gt hy)]
  rintro e w2 ⟨rfl, hb2⟩
  go_wp2_with fail
  have CX1 := (show Blk1 w2 _ _ _ from X1.to bW).cell
  have CX2 := (show Blk1 w2 _ _ _ from X2.to bW).cell
  refine wp_regionE [(8, 5, 25, #[.slice none 0 0])] kR kR (mk_cons (mk_nat gO rfl rfl rfl) (mk_nil)) (by exact fun _ _ _ _ _ h => h) (by exact fun _ _ _ _ _ h => h) (f := 10) (by rfl) ?_
  have hbdE1 : Below w2.heap.size w2 w2.drew := nxw (Below.refl _ _)
  generalize w2.drew = wdE1 at hbdE1 ⊢
  replace CX1 := cellB hbdE1 CX1
  replace CX2 := cellB hbdE1 CX2
  have ltX1_wdE1 : w.heap.size < wdE1.heap.size := (show Blk1 wdE1 _ _ _ from X1.to bW).lt
  have ltX2_wdE1 : w.heap.size + 1 < wdE1.heap.size := (show Blk1 wdE1 _ _ _ from X2.to bW).lt
  have ltX3_wdE1 : w.heap.size + 1 + 1 < wdE1.heap.size := (show Blk1 wdE1 _ _ _ from X3.to bW).lt
  have hH := Lib.hid (Below.refl wdE1.heap.size wdE1)
  refine anyE_take (i := 0) (v := ?_) gO kR (by exact fun _ _ _ h => h) (Or.inl ⟨by rfl, ?_⟩) hH.out ?_
  rotate_left
  · intro w hSw; have c := cellB hSw CX1; go_simp; try with_reducible rfl
  try simp only [Act.put, sX, sY, sZ]
  refine anyE_take (i := 1) (v := ?_) gO kR (by exact fun _ _ _ h => h) (Or.inl ⟨by rfl, ?_⟩) hH.out ?_
  rotate_left
  · intro w hSw; have c := cellB hSw CX1; go_simp; try with_reducible rfl
  try simp only [Act.put, sX, sY, sZ]
  refine anyE_take (i := 2) (v := ?_) gO kR (by exact fun _ _ _ h => h) (Or.inl ⟨by rfl, ?_⟩) hH.out ?_
  rotate_left
  · intro w hSw; have c := cellB hSw CX2; go_simp; try with_reducible rfl
  try simp only [Act.put, sX, sY, sZ]
  refine anyE_one (i := 3) gO kR (fun wi1_3 hbwi1_3 K hK => ?_)
  go_simp
  go_at_call 11
  (with_reducible refine (gcd_Of _ _ _ _ _ _ _ _ _ (h.to bW) (h'.to bW) (by omega) (by omega)).mono ?_)
  rintro e w3 ⟨A3, n3, c3, rfl, h3, hb3, q3⟩
  go_simp
  refine hK.out _ _ (show Below wi1_3.heap.size wi1_3 w3 from bW) ?_
  clear hK K
  replace hH := Lib.hid (nx hH.out (show Below wdE1.heap.size wdE1 w3 from bW))
  try simp only [Act.put, sX, sY, sZ]
  refine anyE_one (i := 4) gO kR (fun wi1_4 hbwi1_4 K hK => ?_)
  go_simp
  go_at_call 38
  (with_reducible refine (quot_Div _ _ _ _ _ _ _ _ _ (h.to bW) (h3.to bW) (by omega) hgp).mono ?_)
  rintro e w4 ⟨A4, n4, c4, rfl, h4, hb4⟩
  have q4 := h4.le_of _ (Nat.lt_of_le_of_lt (Nat.div_le_self _ _) h.lt)
  go_simp
  refine hK.out _ _ (show Below wi1_4.heap.size wi1_4 w4 from bW) ?_
  clear hK K
  replace hH := Lib.hid (nx hH.out (show Below w3.heap.size w3 w4 from bW))
  try simp only [Act.put, sX, sY, sZ]
  refine anyE_take (i := 5) (v := ?_) gO kR (by exact fun _ _ _ h => h) (Or.inl ⟨by rfl, ?_⟩) hH.out ?_
  rotate_left
  · intro w hSw; go_simp; try with_reducible rfl
  try simp only [Act.put, sX, sY, sZ]
  refine anyE_take (i := 6) (v := ?_) gO kR (by exact fun _ _ _ h => h) (Or.inl ⟨by rfl, ?_⟩) hH.out ?_
  rotate_left
  · intro w hSw; go_simp; try with_reducible rfl
  try simp only [Act.put, sX, sY, sZ]
  refine anyE_take (i := 7) (v := ?_) gO kR (by exact fun _ _ _ h => h) (Or.inl ⟨by rfl, ?_⟩) hH.out ?_
  rotate_left
  · intro w hSw; go_simp; try with_reducible rfl
  try simp only [Act.put, sX, sY, sZ]
  refine anyE_done kR (fun wzE1 hbzE1 => ?_)
  refine FinD_cons (fun gEX4 X4 hgEX4 hnEX4 => ?_)
  replace X4 := (show Blk1 _ gEX4 _ (.slice none 0 0) from X4)
  clear hnEX4
  refine FinD_nil ?_
  try simp only [Act.put, sX, sY, sZ]
  replace h4 := (show NatAt wzE1 _ _ _ _ from h4.to bW)
  have hbtE1 := Lib.hid (show Below w2.heap.size w2 wzE1 from nx hbdE1 (nx hH.out hbzE1))
  clear hH
  refine anyT_ready (rs := [9]) kR (by simp) (ReadyT.cons gO (fun K hK => ?_) ReadyT.nil)
  rw [if_pos (by rfl)]
  refine wp_store_nat _ _ rfl rfl rfl X4 ?_
  replace h4 := h4.put_ X4.cell (.slice A4 n4 c4)
  replace hbtE1 := nxs hbtE1.out (p := ⟨gEX4, 0, none⟩) (Nat.le_trans hbdE1.size hgEX4) (.slice A4 n4 c4)
  replace X4 := X4.set (.slice A4 n4 c4)
  generalize wzE1.setCell ⟨gEX4, 0, none⟩ (.slice A4 n4 c4) = wsE2 at X4 h4 hbtE1 ⊢
  refine hK.out _ _ trivial (fun _ => ?_)
  clear hK K
  try simp only [Act.put, sX, sY, sZ]
  refine anyT_take (i := 10) (v := ?_) gO kR kR kR kR (by exact fun _ _ _ h => h) (Or.inl ⟨by rfl, ?_⟩) trivial ?_
  rotate_left
  · intro w hSw; go_simp; try with_reducible rfl
  try simp only [Act.put, sX, sY, sZ]
  refine anyT_done kR ?_ _
  clear CX1 CX2
  have d2 := (show Blk1 wsE2 _ _ _ from X4.to bW).cell
  have d3 := (show Blk1 wsE2 _ _ _ from X2.to bW).cell
  go_wp2_with fail
  clear d2 d3
  refine (prod_Mul _ _ _ _ _ _ _ _ _ (h4.to bW) (h'.to bW) (by omega)).mono ?_
  rintro e w5 ⟨A5, n5, c5, rfl, h5, hb5⟩
  have q5 := h5.le_of _ (mul_lt_pow h4.lt h'.lt)
  replace h5 := (show ((x / (Nat.gcd x y)) * y) = Nat.lcm x y from lcm_eq x y) ▸ h5
  have d4 := (show Blk1 w5 _ _ _ from X3.to bW).cell
  have fd4 := (show Blk1 w5 _ _ _ from X3.to bW).free
  go_wp2_with fail
  clear d4 fd4
  replace h := (show NatAt w5 _ _ _ _ from h.to bW)
  replace h' := (show NatAt w5 _ _ _ _ from h'.to bW)
  replace h4 := (show NatAt w5 _ _ _ _ from h4.to bW)
  replace h5 := (show NatAt w5 _ _ _ _ from h5.to bW)
  replace X1 := (show Blk1 w5 _ _ _ from X1.to bW)
  replace X2 := (show Blk1 w5 _ _ _ from X2.to bW)
  replace X3 := (show Blk1 w5 _ _ _ from X3.to bW)
  replace X4 := (show Blk1 w5 _ _ _ from X4.to bW)
  have hbws3 := nxs (show Below w.heap.size w w5 from bW) (p := ⟨w.heap.size + 1 + 1, 0, none⟩) (by show w.heap.size ≤ w.heap.size + 1 + 1; omega) (.slice A5 n5 c5)
  replace h := h.put_ X3.cell (.slice A5 n5 c5)
  replace h' := h'.put_ X3.cell (.slice A5 n5 c5)
  replace h4 := h4.put_ X3.cell (.slice A5 n5 c5)
  replace h5 := h5.put_ X3.cell (.slice A5 n5 c5)
  replace X1 := X1.far (p := ⟨w.heap.size + 1 + 1, 0, none⟩) (by show w.heap.size ≠ w.heap.size + 1 + 1; omega) (.slice A5 n5 c5)
  replace X2 := X2.far (p := ⟨w.heap.size + 1 + 1, 0, none⟩) (by show w.heap.size + 1 ≠ w.heap.size + 1 + 1; omega) (.slice A5 n5 c5)
  replace X4 := X4.far (p := ⟨w.heap.size + 1 + 1, 0, none⟩) (by show gEX4 ≠ w.heap.size + 1 + 1; omega) (.slice A5 n5 c5)
  replace X3 := X3.set (.slice A5 n5 c5)
  generalize w5.setCell ⟨w.heap.size + 1 + 1, 0, none⟩ (.slice A5 n5 c5) = ws3 at h h' h4 h5 X1 X2 X4 X3 hbws3 ⊢
  have erX3 := (show Blk1 ws3 _ _ _ from X3.to bW).cell
  exact bodyPost_ret (v := .agg #[.slice A5 n5 c5]) (by simp [results, Try.results17, go_sem, erX3]) rfl ⟨_, _, _, rfl, (show NatAt ws3 _ _ _ _ from (h5.to bW)), (show Below w.heap.size w ws3 from bW)⟩
theorem gcd_Lcm (A : Option Addr) (n c x : Nat) (A' : Option Addr) (n' c' y : Nat) (w : World) (h : NatAt w A n c x) (h' : NatAt w A' n' c' y) (hn : n + n' ≤ 17592186044000) :
    Calls Try.prog 17 #[.agg #[.slice A n c], .agg #[.slice A' n' c']] w (RetNat w (Nat.lcm x y)) := by
  rcases Nat.eq_zero_or_pos x with hx | hx
  · have := gcd_Lcm_x A n c x A' n' c' y w h h' hn hx
    rwa [show Nat.lcm x y = 0 by rw [hx]; exact Nat.lcm_zero_left y]
  · rcases Nat.eq_zero_or_pos y with hy | hy
    · have := gcd_Lcm_y A n c x A' n' c' y w h h' hn (by omega) hy
      rwa [show Nat.lcm x y = 0 by rw [hy]; exact Nat.lcm_zero_right x]
    · exact gcd_Lcm_p A n c x A' n' c' y w h h' hn hx hy
set_option maxHeartbeats 4000000 in
theorem gcd_Coprime_yes (A : Option Addr) (n c x : Nat) (A' : Option Addr) (n' c' y : Nat) (w : World) (h : NatAt w A n c x) (h' : NatAt w A' n' c' y) (hn : n ≤ 17592186044000) (hn' : n' ≤ 17592186044000) (G : Nat) (hG : Nat.gcd x y = G) (h1 : G = 1) :
    Calls Try.prog 24 #[.agg #[.slice A n c], .agg #[.slice A' n' c']] w (Ret w (.bool true)) := by
  have HG := Lib.hid hG
  clear hG
  subst h1
  go_enter Try.func24, Try.ntmps24
  go_wp2_with fail
  have X1 := Blk1.newAt w (w.heap.size) 25 (.slice A n c) (by first | rfl | simp)
  have X2 := Blk1.newAt (w.alloc (.cells #[.slice A n c] 25)) (w.heap.size + 1) 25 (.slice A' n' c') (by first | rfl | simp)
  replace X1 := (show Blk1 ((w.alloc (.cells #[.slice A n c] 25)).alloc (.cells #[.slice A' n' c'] 25)) _ _ _ from X1.to bW)
  have hbwe1 : Below w.heap.size w ((w.alloc (.cells #[.slice A n c] 25)).alloc (.cells #[.slice A' n' c'] 25)) := bW
  generalize ((w.alloc (.cells #[.slice A n c] 25)).alloc (.cells #[.slice A' n' c'] 25)) = we1 at X1 X2 hbwe1  ⊢
  refine (gcd_Of _ _ _ _ _ _ _ _ _ (h.to bW) (h'.to bW) (by omega) (by omega)).mono ?_
  rintro e w1 ⟨A1, n1, c1, rfl, h1, hb1, q1⟩
  replace h1 := (show (Nat.gcd x y) = 1 from HG.out) ▸ h1
  go_wp2_with fail
  refine (nat_Uint_yes _ _ _ _ _ (h1.to bW) (h1.le_of 1 (by decide))).mono ?_
  rintro e w2 ⟨rfl, hb2⟩
  go_wp2_with fail
  go_ret
  exact ⟨rfl, bW⟩
set_option maxHeartbeats 4000000 in
theorem gcd_Coprime_no (A : Option Addr) (n c x : Nat) (A' : Option Addr) (n' c' y : Nat) (w : World) (h : NatAt w A n c x) (h' : NatAt w A' n' c' y) (hn : n ≤ 17592186044000) (hn' : n' ≤ 17592186044000) (G : Nat) (hG : Nat.gcd x y = G) (hne : G ≠ 1) (hW : G < W) :
    Calls Try.prog 24 #[.agg #[.slice A n c], .agg #[.slice A' n' c']] w (Ret w (.bool false)) := by
  have HG := Lib.hid hG
  clear hG
  have z1 : ((G : Int) == 1) = false := by simp; omega
  clear hne
  go_enter Try.func24, Try.ntmps24
  go_wp2_with fail
  have X1 := Blk1.newAt w (w.heap.size) 25 (.slice A n c) (by first | rfl | simp)
  have X2 := Blk1.newAt (w.alloc (.cells #[.slice A n c] 25)) (w.heap.size + 1) 25 (.slice A' n' c') (by first | rfl | simp)
  replace X1 := (show Blk1 ((w.alloc (.cells #[.slice A n c] 25)).alloc (.cells #[.slice A' n' c'] 25)) _ _ _ from X1.to bW)
  have hbwe1 : Below w.heap.size w ((w.alloc (.cells #[.slice A n c] 25)).alloc (.cells #[.slice A' n' c'] 25)) := bW
  generalize ((w.alloc (.cells #[.slice A n c] 25)).alloc (.cells #[.slice A' n' c'] 25)) = we1 at X1 X2 hbwe1  ⊢
  refine (gcd_Of _ _ _ _ _ _ _ _ _ (h.to bW) (h'.to bW) (by omega) (by omega)).mono ?_
  rintro e w1 ⟨A1, n1, c1, rfl, h1, hb1, q1⟩
  replace h1 := (show (Nat.gcd x y) = G from HG.out) ▸ h1
  go_wp2_with fail
  refine (nat_Uint_yes _ _ _ _ _ (h1.to bW) (h1.le_of 1 (by rw [Nat.pow_one]; exact hW))).mono ?_
  rintro e w2 ⟨rfl, hb2⟩
  go_wp2_with fail
  go_ret
  exact ⟨rfl, bW⟩
set_option maxHeartbeats 4000000 in
theorem gcd_Coprime_big (A : Option Addr) (n c x : Nat) (A' : Option Addr) (n' c' y : Nat) (w : World) (h : NatAt w A n c x) (h' : NatAt w A' n' c' y) (hn : n ≤ 17592186044000) (hn' : n' ≤ 17592186044000) (G : Nat) (hG : Nat.gcd x y = G) (hW : W ≤ G) :
    Calls Try.prog 24 #[.agg #[.slice A n c], .agg #[.slice A' n' c']] w (Ret w (.bool false)) := by
  have HG := Lib.hid hG
  clear hG
  have HW := Lib.hid hW
  clear hW
  go_enter Try.func24, Try.ntmps24
  go_wp2_with fail
  have X1 := Blk1.newAt w (w.heap.size) 25 (.slice A n c) (by first | rfl | simp)
  have X2 := Blk1.newAt (w.alloc (.cells #[.slice A n c] 25)) (w.heap.size + 1) 25 (.slice A' n' c') (by first | rfl | simp)
  replace X1 := (show Blk1 ((w.alloc (.cells #[.slice A n c] 25)).alloc (.cells #[.slice A' n' c'] 25)) _ _ _ from X1.to bW)
  have hbwe1 : Below w.heap.size w ((w.alloc (.cells #[.slice A n c] 25)).alloc (.cells #[.slice A' n' c'] 25)) := bW
  generalize ((w.alloc (.cells #[.slice A n c] 25)).alloc (.cells #[.slice A' n' c'] 25)) = we1 at X1 X2 hbwe1  ⊢
  refine (gcd_Of _ _ _ _ _ _ _ _ _ (h.to bW) (h'.to bW) (by omega) (by omega)).mono ?_
  rintro e w1 ⟨A1, n1, c1, rfl, h1, hb1, q1⟩
  replace h1 := (show (Nat.gcd x y) = G from HG.out) ▸ h1
  have hl : 1 < n1 := by
    rcases Nat.lt_or_ge 1 n1 with h | h
    · exact h
    · have h3 := h1.lt
      have h2 := Nat.pow_le_pow_right W_pos h
      rw [Nat.pow_one] at h2
      have := HW.out
      omega
  go_wp2_with fail
  refine (nat_Uint_no _ _ _ _ hl).mono ?_
  rintro e w2 ⟨rfl, hb2⟩
  go_wp2_with fail
  go_ret
  exact ⟨rfl, bW⟩
theorem gcd_Coprime (A : Option Addr) (n c x : Nat) (A' : Option Addr) (n' c' y : Nat) (w : World) (h : NatAt w A n c x) (h' : NatAt w A' n' c' y) (hn : n ≤ 17592186044000) (hn' : n' ≤ 17592186044000) :
    Calls Try.prog 24 #[.agg #[.slice A n c], .agg #[.slice A' n' c']] w (Ret w (.bool (decide (Nat.gcd x y = 1)))) := by
  by_cases h1 : Nat.gcd x y = 1
  · rw [decide_eq_true h1]; exact gcd_Coprime_yes A n c x A' n' c' y w h h' hn hn' _ rfl h1
  · rw [decide_eq_false h1]
    rcases Nat.lt_or_ge (Nat.gcd x y) W with hW | hW
    · exact gcd_Coprime_no A n c x A' n' c' y w h h' hn hn' _ rfl h1 hW
    · exact gcd_Coprime_big A n c x A' n' c' y w h h' hn hn' _ rfl hW
set_option maxHeartbeats 4000000 in
theorem gcd_Reduce_z (A : Option Addr) (n c x : Nat) (A' : Option Addr) (n' c' y : Nat) (w : World) (h : NatAt w A n c x) (h' : NatAt w A' n' c' y) (hn : n ≤ 17592186044000) (hn' : n' ≤ 17592186044000) (hg : Nat.gcd x y = 0) :
    Calls Try.prog 25 #[.agg #[.slice A n c], .agg #[.slice A' n' c']] w (RetNat2 w x y) := by
  have HG := Lib.hid hg
  clear hg
  go_enter Try.func25, Try.ntmps25
  go_wp2_with fail
  have X1 := Blk1.newAt w (w.heap.size) 25 (.slice A n c) (by first | rfl | simp)
  have X2 := Blk1.newAt (w.alloc (.cells #[.slice A n c] 25)) (w.heap.size + 1) 25 (.slice A' n' c') (by first | rfl | simp)
  have X3 := Blk1.newAt ((w.alloc (.cells #[.slice A n c] 25)).alloc (.cells #[.slice A' n' c'] 25)) (w.heap.size + 1 + 1) 25 (.slice none 0 0) (by first | rfl | simp)
  have X4 := Blk1.newAt (((w.alloc (.cells #[.slice A n c] 25)).alloc (.cells #[.slice A' n' c'] 25)).alloc (.cells #[.slice none 0 0] 25)) (w.heap.size + 1 + 1 + 1) 25 (.slice none 0 0) (by first | rfl | simp)
  replace X1 := (show Blk1 ((((w.alloc (.cells #[.slice A n c] 25)).alloc (.cells #[.slice A' n' c'] 25)).alloc (.cells #[.slice none 0 0] 25)).alloc (.cells #[.slice none 0 0] 25)) _ _ _ from X1.to bW)
  replace X2 := (show Blk1 ((((w.alloc (.cells #[.slice A n c] 25)).alloc (.cells #[.slice A' n' c'] 25)).alloc (.cells #[.slice none 0 0] 25)).alloc (.cells #[.slice none 0 0] 25)) _ _ _ from X2.to bW)
  replace X3 := (show Blk1 ((((w.alloc (.cells #[.slice A n c] 25)).alloc (.cells #[.slice A' n' c'] 25)).alloc (.cells #[.slice none 0 0] 25)).alloc (.cells #[.slice none 0 0] 25)) _ _ _ from X3.to bW)
  have hbwe1 : Below w.heap.size w ((((w.alloc (.cells #[.slice A n c] 25)).alloc (.cells #[.slice A' n' c'] 25)).alloc (.cells #[.slice none 0 0] 25)).alloc (.cells #[.slice none 0 0] 25)) := bW
  generalize ((((w.alloc (.cells #[.slice A n c] 25)).alloc (.cells #[.slice A' n' c'] 25)).alloc (.cells #[.slice none 0 0] 25)).alloc (.cells #[.slice none 0 0] 25)) = we1 at X1 X2 X3 X4 hbwe1  ⊢
  refine (gcd_Of _ _ _ _ _ _ _ _ _ (h.to bW) (h'.to bW) (by omega) (by omega)).mono ?_
  rintro e w1 ⟨A1, n1, c1, rfl, h1, hb1, q1⟩
  go_wp2_with fail
  have ltX1_w1 : w.heap.size < w1.heap.size := (show Blk1 w1 _ _ _ from X1.to bW).lt
  have ltX2_w1 : w.heap.size + 1 < w1.heap.size := (show Blk1 w1 _ _ _ from X2.to bW).lt
  have ltX3_w1 : w.heap.size + 1 + 1 < w1.heap.size := (show Blk1 w1 _ _ _ from X3.to bW).lt
  have ltX4_w1 : w.heap.size + 1 + 1 + 1 < w1.heap.size := (show Blk1 w1 _ _ _ from X4.to bW).lt
  have X5 := Blk1.newAt w1 (w1.heap.size) 25 (.slice A1 n1 c1) (by first | rfl | simp)
  have hbwe2 : Below w1.heap.size w1 (w1.alloc (.cells #[.slice A1 n1 c1] 25)) := bW
  generalize (w1.alloc (.cells #[.slice A1 n1 c1] 25)) = we2 at X5 hbwe2  ⊢
  refine (nat_Zero _ _ _ _ _ (h1.to bW)).mono ?_
  rw [decide_eq_true HG.out]
  rintro e w2 ⟨rfl, hb2⟩
  go_wp2_with fail
  have CX1 := (show Blk1 w2 _ _ _ from X1.to bW).cell
  have CX2 := (show Blk1 w2 _ _ _ from X2.to bW).cell
  refine wp_regionT (S := fun w' => w'.cell? ⟨w.heap.size, 0, none⟩ = some (.slice A n c) ∧ w'.cell? ⟨w.heap.size + 1, 0, none⟩ = some (.slice A' n' c') ∧ True) [] kR ⟨(by first | exact CSX1_1 | exact CSX1_2 | (refine cellB (w := w2) ?_ CX1; with_reducible repeat (first | exact Below.refl _ _ | refine nxa ?_ _ | refine nxd ?_ _ | refine nxw ?_ | refine nx ?_ (by assumption)))), (by first | exact CSX2_1 | exact CSX2_2 | (refine cellB (w := w2) ?_ CX2; with_reducible repeat (first | exact Below.refl _ _ | refine nxa ?_ _ | refine nxd ?_ _ | refine nxw ?_ | refine nx ?_ (by assumption)))), trivial⟩ (fun hHeld => ?_)
  have hbd1 : Below w2.heap.size w2 w2.drew := nxw (Below.refl _ _)
  generalize w2.drew = wd1 at hHeld hbd1 ⊢
  refine anyT_take (i := 0) (v := ?_) gO kR kR kR kR (by exact fun _ _ _ h => h) (Or.inl ⟨by rfl, ?_⟩) (by assumption) ?_
  rotate_left
  · intro w hSw; (try dsimp only at hSw); go_simp; try with_reducible rfl
  try simp only [Act.put, sX, sY, sZ]
  refine anyT_take (i := 1) (v := ?_) gO kR kR kR kR (by exact fun _ _ _ h => h) (Or.inl ⟨by rfl, ?_⟩) (by assumption) ?_
  rotate_left
  · intro w hSw; (try dsimp only at hSw); go_simp; try with_reducible rfl
  try simp only [Act.put, sX, sY, sZ]
  refine anyT_ready (rs := [2]) kR (by simp) (ReadyT.cons gO (fun K hK => ?_) ReadyT.nil)
  have cqX3 := (show Blk1 wd1 _ _ _ from X3.to bW).cell
  have fqX3 := (show Blk1 wd1 _ _ _ from X3.to bW).free
  have CSX1_1 := ((show Blk1 wd1 _ _ _ from X1.to bW).far (p := ⟨w.heap.size + 1 + 1, 0, none⟩) (by show w.heap.size ≠ w.heap.size + 1 + 1; omega) (.slice A n c)).cell
  have CSX2_1 := ((show Blk1 wd1 _ _ _ from X2.to bW).far (p := ⟨w.heap.size + 1 + 1, 0, none⟩) (by show w.heap.size + 1 ≠ w.heap.size + 1 + 1; omega) (.slice A n c)).cell
  go_simp
  refine hK.out _ _ ⟨(by first | exact CSX1_1 | exact CSX1_2 | (refine cellB (w := w2) ?_ CX1; with_reducible repeat (first | exact Below.refl _ _ | refine nxa ?_ _ | refine nxd ?_ _ | refine nxw ?_ | refine nx ?_ (by assumption)))), (by first | exact CSX2_1 | exact CSX2_2 | (refine cellB (w := w2) ?_ CX2; with_reducible repeat (first | exact Below.refl _ _ | refine nxa ?_ _ | refine nxd ?_ _ | refine nxw ?_ | refine nx ?_ (by assumption)))), trivial⟩ (fun hHeld => ?_)
  clear hK K
  try simp only [Act.put, sX, sY, sZ]
  refine anyT_ready (rs := [3]) kR (by simp) (ReadyT.cons gO (fun K hK => ?_) ReadyT.nil)
  have cqX4 := ((show Blk1 wd1 _ _ _ from X4.to bW).far (p := ⟨w.heap.size + 1 + 1, 0, none⟩) (by show w.heap.size + 1 + 1 + 1 ≠ w.heap.size + 1 + 1; omega) (.slice A n c)).cell
  have fqX4 := ((show Blk1 wd1 _ _ _ from X4.to bW).far (p := ⟨w.heap.size + 1 + 1, 0, none⟩) (by show w.heap.size + 1 + 1 + 1 ≠ w.heap.size + 1 + 1; omega) (.slice A n c)).free
  have CSX1_2 := (((show Blk1 wd1 _ _ _ from X1.to bW).far (p := ⟨w.heap.size + 1 + 1, 0, none⟩) (by show w.heap.size ≠ w.heap.size + 1 + 1; omega) (.slice A n c)).far (p := ⟨w.heap.size + 1 + 1 + 1, 0, none⟩) (by show w.heap.size ≠ w.heap.size + 1 + 1 + 1; omega) (.slice A' n' c')).cell
  have CSX2_2 := (((show Blk1 wd1 _ _ _ from X2.to bW).far (p := ⟨w.heap.size + 1 + 1, 0, none⟩) (by show w.heap.size + 1 ≠ w.heap.size + 1 + 1; omega) (.slice A n c)).far (p := ⟨w.heap.size + 1 + 1 + 1, 0, none⟩) (by show w.heap.size + 1 ≠ w.heap.size + 1 + 1 + 1; omega) (.slice A' n' c')).cell
  go_simp
  refine hK.out _ _ ⟨(by first | exact CSX1_1 | exact CSX1_2 | (refine cellB (w := w2) ?_ CX1; with_reducible repeat (first | exact Below.refl _ _ | refine nxa ?_ _ | refine nxd ?_ _ | refine nxw ?_ | refine nx ?_ (by assumption)))), (by first | exact CSX2_1 | exact CSX2_2 | (refine cellB (w := w2) ?_ CX2; with_reducible repeat (first | exact Below.refl _ _ | refine nxa ?_ _ | refine nxd ?_ _ | refine nxw ?_ | refine nx ?_ (by assumption)))), trivial⟩ (fun hHeld => ?_)
  clear hK K
  try simp only [Act.put, sX, sY, sZ]
  refine anyT_done kR ?_ _
  clear hHeld cqX3 fqX3 cqX4 fqX4 CX1 CX2 CSX1_1 CSX2_1 CSX1_2 CSX2_2
  replace h := (show NatAt wd1 _ _ _ _ from h.to bW)
  replace h' := (show NatAt wd1 _ _ _ _ from h'.to bW)
  replace h1 := (show NatAt wd1 _ _ _ _ from h1.to bW)
  replace X1 := (show Blk1 wd1 _ _ _ from X1.to bW)
  replace X2 := (show Blk1 wd1 _ _ _ from X2.to bW)
  replace X3 := (show Blk1 wd1 _ _ _ from X3.to bW)
  replace X4 := (show Blk1 wd1 _ _ _ from X4.to bW)
  replace X5 := (show Blk1 wd1 _ _ _ from X5.to bW)
  have hbws3 := nxs (show Below w.heap.size w wd1 from bW) (p := ⟨w.heap.size + 1 + 1, 0, none⟩) (by show w.heap.size ≤ w.heap.size + 1 + 1; omega) (.slice A n c)
  replace h := h.put_ X3.cell (.slice A n c)
  replace h' := h'.put_ X3.cell (.slice A n c)
  replace h1 := h1.put_ X3.cell (.slice A n c)
  replace X1 := X1.far (p := ⟨w.heap.size + 1 + 1, 0, none⟩) (by show w.heap.size ≠ w.heap.size + 1 + 1; omega) (.slice A n c)
  replace X2 := X2.far (p := ⟨w.heap.size + 1 + 1, 0, none⟩) (by show w.heap.size + 1 ≠ w.heap.size + 1 + 1; omega) (.slice A n c)
  replace X4 := X4.far (p := ⟨w.heap.size + 1 + 1, 0, none⟩) (by show w.heap.size + 1 + 1 + 1 ≠ w.heap.size + 1 + 1; omega) (.slice A n c)
  replace X5 := X5.far (p := ⟨w.heap.size + 1 + 1, 0, none⟩) (by show w1.heap.size ≠ w.heap.size + 1 + 1; omega) (.slice A n c)
  replace X3 := X3.set (.slice A n c)
  generalize wd1.setCell ⟨w.heap.size + 1 + 1, 0, none⟩ (.slice A n c) = ws3 at h h' h1 X1 X2 X4 X5 X3 hbws3 ⊢
  replace h := (show NatAt ws3 _ _ _ _ from h.to bW)
  replace h' := (show NatAt ws3 _ _ _ _ from h'.to bW)
  replace h1 := (show NatAt ws3 _ _ _ _ from h1.to bW)
  replace X1 := (show Blk1 ws3 _ _ _ from X1.to bW)
  replace X2 := (show Blk1 ws3 _ _ _ from X2.to bW)
  replace X3 := (show Blk1 ws3 _ _ _ from X3.to bW)
  replace X4 := (show Blk1 ws3 _ _ _ from X4.to bW)
  replace X5 := (show Blk1 ws3 _ _ _ from X5.to bW)
  have hbws4 := nxs (show Below w.heap.size w ws3 from bW) (p := ⟨w.heap.size + 1 + 1 + 1, 0, none⟩) (by show w.heap.size ≤ w.heap.size + 1 + 1 + 1; omega) (.slice A' n' c')
  replace h := h.put_ X4.cell (.slice A' n' c')
  replace h' := h'.put_ X4.cell (.slice A' n' c')
  replace h1 := h1.put_ X4.cell (.slice A' n' c')
  replace X1 := X1.far (p := ⟨w.heap.size + 1 + 1 + 1, 0, none⟩) (by show w.heap.size ≠ w.heap.size + 1 + 1 + 1; omega) (.slice A' n' c')
  replace X2 := X2.far (p := ⟨w.heap.size + 1 + 1 + 1, 0, none⟩) (by show w.heap.size + 1 ≠ w.heap.size + 1 + 1 + 1; omega) (.slice A' n' c')
  replace X3 := X3.far (p := ⟨w.heap.size + 1 + 1 + 1, 0, none⟩) (by show w.heap.size + 1 + 1 ≠ w.heap.size + 1 + 1 + 1; omega) (.slice A' n' c')
  replace X5 := X5.far (p := ⟨w.heap.size + 1 + 1 + 1, 0, none⟩) (by show w1.heap.size ≠ w.heap.size + 1 + 1 + 1; omega) (.slice A' n' c')
  replace X4 := X4.set (.slice A' n' c')
  generalize ws3.setCell ⟨w.heap.size + 1 + 1 + 1, 0, none⟩ (.slice A' n' c') = ws4 at h h' h1 X1 X2 X3 X5 X4 hbws4 ⊢
  go_wp2_with fail
  have erX3 := (show Blk1 ws4 _ _ _ from X3.to bW).cell
  have erX4 := (show Blk1 ws4 _ _ _ from X4.to bW).cell
  exact bodyPost_ret (v := .tuple #[.agg #[.slice A n c], .agg #[.slice A' n' c']]) (by simp [results, Try.results25, go_sem, erX3, erX4]) rfl ⟨_, _, _, _, _, _, rfl, (show NatAt ws4 _ _ _ _ from (h.to bW)), (show NatAt ws4 _ _ _ _ from (h'.to bW)), (show Below w.heap.size w ws4 from bW)⟩
set_option maxHeartbeats 4000000 in
theorem gcd_Reduce_p (A : Option Addr) (n c x : Nat) (A' : Option Addr) (n' c' y : Nat) (w : World) (h : NatAt w A n c x) (h' : NatAt w A' n' c' y) (hn : n ≤ 17592186044000) (hn' : n' ≤ 17592186044000) (hg : 0 < Nat.gcd x y) :
    Calls Try.prog 25 #[.agg #[.slice A n c], .agg #[.slice A' n' c']] w (RetNat2 w (x / Nat.gcd x y) (y / Nat.gcd x y)) := by
  go_enter Try.func25, Try.ntmps25
  go_wp2_with fail
  have X1 := Blk1.newAt w (w.heap.size) 25 (.slice A n c) (by first | rfl | simp)
  have X2 := Blk1.newAt (w.alloc (.cells #[.slice A n c] 25)) (w.heap.size + 1) 25 (.slice A' n' c') (by first | rfl | simp)
  have X3 := Blk1.newAt ((w.alloc (.cells #[.slice A n c] 25)).alloc (.cells #[.slice A' n' c'] 25)) (w.heap.size + 1 + 1) 25 (.slice none 0 0) (by first | rfl | simp)
  have X4 := Blk1.newAt (((w.alloc (.cells #[.slice A n c] 25)).alloc (.cells #[.slice A' n' c'] 25)).alloc (.cells #[.slice none 0 0] 25)) (w.heap.size + 1 + 1 + 1) 25 (.slice none 0 0) (by first | rfl | simp)
  replace X1 := (show Blk1 ((((w.alloc (.cells #[.slice A n c] 25)).alloc (.cells #[.slice A' n' c'] 25)).alloc (.cells #[.slice none 0 0] 25)).alloc (.cells #[.slice none 0 0] 25)) _ _ _ from X1.to bW)
  replace X2 := (show Blk1 ((((w.alloc (.cells #[.slice A n c] 25)).alloc (.cells #[.slice A' n' c'] 25)).alloc (.cells #[.slice none 0 0] 25)).alloc (.cells #[.slice none 0 0] 25)) _ _ _ from X2.to bW)
  replace X3 := (show Blk1 ((((w.alloc (.cells #[.slice A n c] 25)).alloc (.cells #[.slice A' n' c'] 25)).alloc (.cells #[.slice none 0 0] 25)).alloc (.cells #[.slice none 0 0] 25)) _ _ _ from X3.to bW)
  have hbwe1 : Below w.heap.size w ((((w.alloc (.cells #[.slice A n c] 25)).alloc (.cells #[.slice A' n' c'] 25)).alloc (.cells #[.slice none 0 0] 25)).alloc (.cells #[.slice none 0 0] 25)) := bW
  generalize ((((w.alloc (.cells #[.slice A n c] 25)).alloc (.cells #[.slice A' n' c'] 25)).alloc (.cells #[.slice none 0 0] 25)).alloc (.cells #[.slice none 0 0] 25)) = we1 at X1 X2 X3 X4 hbwe1  ⊢
  refine (gcd_Of _ _ _ _ _ _ _ _ _ (h.to bW) (h'.to bW) (by omega) (by omega)).mono ?_
  rintro e w1 ⟨A1, n1, c1, rfl, h1, hb1, q1⟩
  go_wp2_with fail
  have ltX1_w1 : w.heap.size < w1.heap.size := (show Blk1 w1 _ _ _ from X1.to bW).lt
  have ltX2_w1 : w.heap.size + 1 < w1.heap.size := (show Blk1 w1 _ _ _ from X2.to bW).lt
  have ltX3_w1 : w.heap.size + 1 + 1 < w1.heap.size := (show Blk1 w1 _ _ _ from X3.to bW).lt
  have ltX4_w1 : w.heap.size + 1 + 1 + 1 < w1.heap.size := (show Blk1 w1 _ _ _ from X4.to bW).lt
  have X5 := Blk1.newAt w1 (w1.heap.size) 25 (.slice A1 n1 c1) (by first | rfl | simp)
  have hbwe2 : Below w1.heap.size w1 (w1.alloc (.cells #[.slice A1 n1 c1] 25)) := bW
  generalize (w1.alloc (.cells #[.slice A1 n1 c1] 25)) = we2 at X5 hbwe2  ⊢
  refine (nat_Zero _ _ _ _ _ (h1.to bW)).mono ?_
  rw [decide_eq_false (Nat.ne_of_gt hg)]
  rintro e w2 ⟨rfl, hb2⟩
  have d1 := (show Blk1 w2 _ _ _ from X1.to bW).cell
  have d2 := (show Blk1 w2 _ _ _ from X5.to bW).cell
  go_wp2_with fail
  clear d1 d2
  refine (quot_Div _ _ _ _ _ _ _ _ _ (h.to bW) (h1.to bW) (by omega) hg).mono ?_
  rintro e w3 ⟨A3, n3, c3, rfl, h3, hb3⟩
  have q3 := h3.le_of _ (Nat.lt_of_le_of_lt (Nat.div_le_self _ _) h.lt)
  have d3 := (show Blk1 (w3.alloc (.cells #[.slice A3 n3 c3] 25)) _ _ _ from X2.to bW).cell
  have d4 := (show Blk1 (w3.alloc (.cells #[.slice A3 n3 c3] 25)) _ _ _ from X5.to bW).cell
  go_wp2_with fail
  clear d3 d4
  have ltX1_w3 : w.heap.size < w3.heap.size := (show Blk1 w3 _ _ _ from X1.to bW).lt
  have ltX2_w3 : w.heap.size + 1 < w3.heap.size := (show Blk1 w3 _ _ _ from X2.to bW).lt
  have ltX3_w3 : w.heap.size + 1 + 1 < w3.heap.size := (show Blk1 w3 _ _ _ from X3.to bW).lt
  have ltX4_w3 : w.heap.size + 1 + 1 + 1 < w3.heap.size := (show Blk1 w3 _ _ _ from X4.to bW).lt
  have ltX5_w3 : w1.heap.size < w3.heap.size := (show Blk1 w3 _ _ _ from X5.to bW).lt
  have X6 := Blk1.newAt w3 (w3.heap.size) 25 (.slice A3 n3 c3) (by first | rfl | simp)
  have hbwe3 : Below w3.heap.size w3 (w3.alloc (.cells #[.slice A3 n3 c3] 25)) := bW
  generalize (w3.alloc (.cells #[.slice A3 n3 c3] 25)) = we3 at X6 hbwe3  ⊢
  refine (quot_Div _ _ _ _ _ _ _ _ _ (h'.to bW) (h1.to bW) (by omega) hg).mono ?_
  rintro e w4 ⟨A4, n4, c4, rfl, h4, hb4⟩
  have q4 := h4.le_of _ (Nat.lt_of_le_of_lt (Nat.div_le_self _ _) h'.lt)
  go_wp2_with fail
  have ltX1_w4 : w.heap.size < w4.heap.size := (show Blk1 w4 _ _ _ from X1.to bW).lt
  have ltX2_w4 : w.heap.size + 1 < w4.heap.size := (show Blk1 w4 _ _ _ from X2.to bW).lt
  have ltX3_w4 : w.heap.size + 1 + 1 < w4.heap.size := (show Blk1 w4 _ _ _ from X3.to bW).lt
  have ltX4_w4 : w.heap.size + 1 + 1 + 1 < w4.heap.size := (show Blk1 w4 _ _ _ from X4.to bW).lt
  have ltX5_w4 : w1.heap.size < w4.heap.size := (show Blk1 w4 _ _ _ from X5.to bW).lt
  have ltX6_w4 : w3.heap.size < w4.heap.size := (show Blk1 w4 _ _ _ from X6.to bW).lt
  have X7 := Blk1.newAt w4 (w4.heap.size) 25 (.slice A4 n4 c4) (by first | rfl | simp)
  have hbwe4 : Below w4.heap.size w4 (w4.alloc (.cells #[.slice A4 n4 c4] 25)) := bW
  generalize (w4.alloc (.cells #[.slice A4 n4 c4] 25)) = we4 at X7 hbwe4  ⊢
  have CX6 := (show Blk1 we4 _ _ _ from X6.to bW).cell
  have CX7 := (show Blk1 we4 _ _ _ from X7.to bW).cell
  refine wp_regionT (S := fun w' => w'.cell? ⟨w3.heap.size, 0, none⟩ = some (.slice A3 n3 c3) ∧ w'.cell? ⟨w4.heap.size, 0, none⟩ = some (.slice A4 n4 c4) ∧ True) [] kR ⟨(by first | exact CSX6_1 | exact CSX6_2 | (refine cellB (w := we4) ?_ CX6; with_reducible repeat (first | exact Below.refl _ _ | refine nxa ?_ _ | refine nxd ?_ _ | refine nxw ?_ | refine nx ?_ (by assumption)))), (by first | exact CSX7_1 | exact CSX7_2 | (refine cellB (w := we4) ?_ CX7; with_reducible repeat (first | exact Below.refl _ _ | refine nxa ?_ _ | refine nxd ?_ _ | refine nxw ?_ | refine nx ?_ (by assumption)))), trivial⟩ (fun hHeld => ?_)
  have hbd1 : Below we4.heap.size we4 we4.drew := nxw (Below.refl _ _)
  generalize we4.drew = wd1 at hHeld hbd1 ⊢
  refine anyT_take (i := 0) (v := ?_) gO kR kR kR kR (by exact fun _ _ _ h => h) (Or.inl ⟨by rfl, ?_⟩) (by assumption) ?_
  rotate_left
  · intro w hSw; (try dsimp only at hSw); go_simp; try with_reducible rfl
  try simp only [Act.put, sX, sY, sZ]
  refine anyT_take (i := 1) (v := ?_) gO kR kR kR kR (by exact fun _ _ _ h => h) (Or.inl ⟨by rfl, ?_⟩) (by assumption) ?_
  rotate_left
  · intro w hSw; (try dsimp only at hSw); go_simp; try with_reducible rfl
  try simp only [Act.put, sX, sY, sZ]
  refine anyT_ready (rs := [2]) kR (by simp) (ReadyT.cons gO (fun K hK => ?_) ReadyT.nil)
  have cqX3 := (show Blk1 wd1 _ _ _ from X3.to bW).cell
  have fqX3 := (show Blk1 wd1 _ _ _ from X3.to bW).free
  have CSX6_1 := ((show Blk1 wd1 _ _ _ from X6.to bW).far (p := ⟨w.heap.size + 1 + 1, 0, none⟩) (by show w3.heap.size ≠ w.heap.size + 1 + 1; omega) (.slice A3 n3 c3)).cell
  have CSX7_1 := ((show Blk1 wd1 _ _ _ from X7.to bW).far (p := ⟨w.heap.size + 1 + 1, 0, none⟩) (by show w4.heap.size ≠ w.heap.size + 1 + 1; omega) (.slice A3 n3 c3)).cell
  go_simp
  refine hK.out _ _ ⟨(by first | exact CSX6_1 | exact CSX6_2 | (refine cellB (w := we4) ?_ CX6; with_reducible repeat (first | exact Below.refl _ _ | refine nxa ?_ _ | refine nxd ?_ _ | refine nxw ?_ | refine nx ?_ (by assumption)))), (by first | exact CSX7_1 | exact CSX7_2 | (refine cellB (w := we4) ?_ CX7; with_reducible repeat (first | exact Below.refl _ _ | refine nxa ?_ _ | refine nxd ?_ _ | refine nxw ?_ | refine nx ?_ (by assumption)))), trivial⟩ (fun hHeld => ?_)
  clear hK K
  try simp only [Act.put, sX, sY, sZ]
  refine anyT_ready (rs := [3]) kR (by simp) (ReadyT.cons gO (fun K hK => ?_) ReadyT.nil)
  have cqX4 := ((show Blk1 wd1 _ _ _ from X4.to bW).far (p := ⟨w.heap.size + 1 + 1, 0, none⟩) (by show w.heap.size + 1 + 1 + 1 ≠ w.heap.size + 1 + 1; omega) (.slice A3 n3 c3)).cell
  have fqX4 := ((show Blk1 wd1 _ _ _ from X4.to bW).far (p := ⟨w.heap.size + 1 + 1, 0, none⟩) (by show w.heap.size + 1 + 1 + 1 ≠ w.heap.size + 1 + 1; omega) (.slice A3 n3 c3)).free
  have CSX6_2 := (((show Blk1 wd1 _ _ _ from X6.to bW).far (p := ⟨w.heap.size + 1 + 1, 0, none⟩) (by show w3.heap.size ≠ w.heap.size + 1 + 1; omega) (.slice A3 n3 c3)).far (p := ⟨w.heap.size + 1 + 1 + 1, 0, none⟩) (by show w3.heap.size ≠ w.heap.size + 1 + 1 + 1; omega) (.slice A4 n4 c4)).cell
  have CSX7_2 := (((show Blk1 wd1 _ _ _ from X7.to bW).far (p := ⟨w.heap.size + 1 + 1, 0, none⟩) (by show w4.heap.size ≠ w.heap.size + 1 + 1; omega) (.slice A3 n3 c3)).far (p := ⟨w.heap.size + 1 + 1 + 1, 0, none⟩) (by show w4.heap.size ≠ w.heap.size + 1 + 1 + 1; omega) (.slice A4 n4 c4)).cell
  go_simp
  refine hK.out _ _ ⟨(by first | exact CSX6_1 | exact CSX6_2 | (refine cellB (w := we4) ?_ CX6; with_reducible repeat (first | exact Below.refl _ _ | refine nxa ?_ _ | refine nxd ?_ _ | refine nxw ?_ | refine nx ?_ (by assumption)))), (by first | exact CSX7_1 | exact CSX7_2 | (refine cellB (w := we4) ?_ CX7; with_reducible repeat (first | exact Below.refl _ _ | refine nxa ?_ _ | refine nxd ?_ _ | refine nxw ?_ | refine nx ?_ (by assumption)))), trivial⟩ (fun hHeld => ?_)
  clear hK K
  try simp only [Act.put, sX, sY, sZ]
  refine anyT_done kR ?_ _
  clear hHeld cqX3 fqX3 cqX4 fqX4 CX6 CX7 CSX6_1 CSX7_1 CSX6_2 CSX7_2
  replace h := (show NatAt wd1 _ _ _ _ from h.to bW)
  replace h' := (show NatAt wd1 _ _ _ _ from h'.to bW)
  replace h1 := (show NatAt wd1 _ _ _ _ from h1.to bW)
  replace h3 := (show NatAt wd1 _ _ _ _ from h3.to bW)
  replace h4 := (show NatAt wd1 _ _ _ _ from h4.to bW)
  replace X1 := (show Blk1 wd1 _ _ _ from X1.to bW)
  replace X2 := (show Blk1 wd1 _ _ _ from X2.to bW)
  replace X3 := (show Blk1 wd1 _ _ _ from X3.to bW)
  replace X4 := (show Blk1 wd1 _ _ _ from X4.to bW)
  replace X5 := (show Blk1 wd1 _ _ _ from X5.to bW)
  replace X6 := (show Blk1 wd1 _ _ _ from X6.to bW)
  replace X7 := (show Blk1 wd1 _ _ _ from X7.to bW)
  have hbws5 := nxs (show Below w.heap.size w wd1 from bW) (p := ⟨w.heap.size + 1 + 1, 0, none⟩) (by show w.heap.size ≤ w.heap.size + 1 + 1; omega) (.slice A3 n3 c3)
  replace h := h.put_ X3.cell (.slice A3 n3 c3)
  replace h' := h'.put_ X3.cell (.slice A3 n3 c3)
  replace h1 := h1.put_ X3.cell (.slice A3 n3 c3)
  replace h3 := h3.put_ X3.cell (.slice A3 n3 c3)
  replace h4 := h4.put_ X3.cell (.slice A3 n3 c3)
  replace X1 := X1.far (p := ⟨w.heap.size + 1 + 1, 0, none⟩) (by show w.heap.size ≠ w.heap.size + 1 + 1; omega) (.slice A3 n3 c3)
  replace X2 := X2.far (p := ⟨w.heap.size + 1 + 1, 0, none⟩) (by show w.heap.size + 1 ≠ w.heap.size + 1 + 1; omega) (.slice A3 n3 c3)
  replace X4 := X4.far (p := ⟨w.heap.size + 1 + 1, 0, none⟩) (by show w.heap.size + 1 + 1 + 1 ≠ w.heap.size + 1 + 1; omega) (.slice A3 n3 c3)
  replace X5 := X5.far (p := ⟨w.heap.size + 1 + 1, 0, none⟩) (by show w1.heap.size ≠ w.heap.size + 1 + 1; omega) (.slice A3 n3 c3)
  replace X6 := X6.far (p := ⟨w.heap.size + 1 + 1, 0, none⟩) (by show w3.heap.size ≠ w.heap.size + 1 + 1; omega) (.slice A3 n3 c3)
  replace X7 := X7.far (p := ⟨w.heap.size + 1 + 1, 0, none⟩) (by show w4.heap.size ≠ w.heap.size + 1 + 1; omega) (.slice A3 n3 c3)
  replace X3 := X3.set (.slice A3 n3 c3)
  generalize wd1.setCell ⟨w.heap.size + 1 + 1, 0, none⟩ (.slice A3 n3 c3) = ws5 at h h' h1 h3 h4 X1 X2 X4 X5 X6 X7 X3 hbws5 ⊢
  replace h := (show NatAt ws5 _ _ _ _ from h.to bW)
  replace h' := (show NatAt ws5 _ _ _ _ from h'.to bW)
  replace h1 := (show NatAt ws5 _ _ _ _ from h1.to bW)
  replace h3 := (show NatAt ws5 _ _ _ _ from h3.to bW)
  replace h4 := (show NatAt ws5 _ _ _ _ from h4.to bW)
  replace X1 := (show Blk1 ws5 _ _ _ from X1.to bW)
  replace X2 := (show Blk1 ws5 _ _ _ from X2.to bW)
  replace X3 := (show Blk1 ws5 _ _ _ from X3.to bW)
  replace X4 := (show Blk1 ws5 _ _ _ from X4.to bW)
  replace X5 := (show Blk1 ws5 _ _ _ from X5.to bW)
  replace X6 := (show Blk1 ws5 _ _ _ from X6.to bW)
  replace X7 := (show Blk1 ws5 _ _ _ from X7.to bW)
  have hbws6 := nxs (show Below w.heap.size w ws5 from bW) (p := ⟨w.heap.size + 1 + 1 + 1, 0, none⟩) (by show w.heap.size ≤ w.heap.size + 1 + 1 + 1; omega) (.slice A4 n4 c4)
  replace h := h.put_ X4.cell (.slice A4 n4 c4)
  replace h' := h'.put_ X4.cell (.slice A4 n4 c4)
  replace h1 := h1.put_ X4.cell (.slice A4 n4 c4)
  replace h3 := h3.put_ X4.cell (.slice A4 n4 c4)
  replace h4 := h4.put_ X4.cell (.slice A4 n4 c4)
  replace X1 := X1.far (p := ⟨w.heap.size + 1 + 1 + 1, 0, none⟩) (by show w.heap.size ≠ w.heap.size + 1 + 1 + 1; omega) (.slice A4 n4 c4)
  replace X2 := X2.far (p := ⟨w.heap.size + 1 + 1 + 1, 0, none⟩) (by show w.heap.size + 1 ≠ w.heap.size + 1 + 1 + 1; omega) (.slice A4 n4 c4)
  replace X3 := X3.far (p := ⟨w.heap.size + 1 + 1 + 1, 0, none⟩) (by show w.heap.size + 1 + 1 ≠ w.heap.size + 1 + 1 + 1; omega) (.slice A4 n4 c4)
  replace X5 := X5.far (p := ⟨w.heap.size + 1 + 1 + 1, 0, none⟩) (by show w1.heap.size ≠ w.heap.size + 1 + 1 + 1; omega) (.slice A4 n4 c4)
  replace X6 := X6.far (p := ⟨w.heap.size + 1 + 1 + 1, 0, none⟩) (by show w3.heap.size ≠ w.heap.size + 1 + 1 + 1; omega) (.slice A4 n4 c4)
  replace X7 := X7.far (p := ⟨w.heap.size + 1 + 1 + 1, 0, none⟩) (by show w4.heap.size ≠ w.heap.size + 1 + 1 + 1; omega) (.slice A4 n4 c4)
  replace X4 := X4.set (.slice A4 n4 c4)
  generalize ws5.setCell ⟨w.heap.size + 1 + 1 + 1, 0, none⟩ (.slice A4 n4 c4) = ws6 at h h' h1 h3 h4 X1 X2 X3 X5 X6 X7 X4 hbws6 ⊢
  go_wp2_with fail
  have erX3 := (show Blk1 ws6 _ _ _ from X3.to bW).cell
  have erX4 := (show Blk1 ws6 _ _ _ from X4.to bW).cell
  exact bodyPost_ret (v := .tuple #[.agg #[.slice A3 n3 c3], .agg #[.slice A4 n4 c4]]) (by simp [results, Try.results25, go_sem, erX3, erX4]) rfl ⟨_, _, _, _, _, _, rfl, (show NatAt ws6 _ _ _ _ from (h3.to bW)), (show NatAt ws6 _ _ _ _ from (h4.to bW)), (show Below w.heap.size w ws6 from bW)⟩
theorem gcd_Reduce (A : Option Addr) (n c x : Nat) (A' : Option Addr) (n' c' y : Nat) (w : World) (h : NatAt w A n c x) (h' : NatAt w A' n' c' y) (hn : n ≤ 17592186044000) (hn' : n' ≤ 17592186044000) :
    Calls Try.prog 25 #[.agg #[.slice A n c], .agg #[.slice A' n' c']] w (RetNat2 w (x / Nat.gcd x y) (y / Nat.gcd x y)) := by
  rcases Nat.eq_zero_or_pos (Nat.gcd x y) with hg | hg
  · have := gcd_Reduce_z A n c x A' n' c' y w h h' hn hn' hg
    have h2 := Nat.gcd_eq_zero_iff.1 hg
    rwa [show x / Nat.gcd x y = x by rw [h2.1, Nat.zero_div], show y / Nat.gcd x y = y by rw [h2.2, Nat.zero_div]]
  · exact gcd_Reduce_p A n c x A' n' c' y w h h' hn hn' hg
def gcdTo (X : Nat → Nat) : Nat → Nat
  | 0 => 0
  | j + 1 => Nat.gcd (gcdTo X j) (X j)
def lcmTo (X : Nat → Nat) : Nat → Nat
  | 0 => 1
  | j + 1 => Nat.lcm (lcmTo X j) (X j)
set_option maxHeartbeats 4000000 in
theorem gcd_All (A : Option Addr) (n c : Nat) (X : Nat → Nat) (L : Nat) (w : World) (h : Nums w A n X) (hn : n ≤ c) (hc : c ≤ 9223372036854775807) (hX : Hid (∀ j, j ≤ n → gcdTo X j < W ^ L)) (hL : L ≤ 1000000000000) (hY : Hid (∀ j, j < n → X j < W ^ L)) :
    Calls Try.prog 18 #[.slice A n c] w (RetNat w (gcdTo X n)) := by
  go_enter Try.func18, Try.ntmps18
  go_wp2_with fail
  have X1 := Blk1.newAt w (w.heap.size) 25 (.slice none 0 0) (by first | rfl | simp)
  have X2 := Blk1.newAt (w.alloc (.cells #[.slice none 0 0] 25)) (w.heap.size + 1) 25 (.slice none 0 0) (by first | rfl | simp)
  replace X1 := (show Blk1 ((w.alloc (.cells #[.slice none 0 0] 25)).alloc (.cells #[.slice none 0 0] 25)) _ _ _ from X1.to bW)
  have hbwe1 : Below w.heap.size w ((w.alloc (.cells #[.slice none 0 0] 25)).alloc (.cells #[.slice none 0 0] 25)) := bW
  generalize ((w.alloc (.cells #[.slice none 0 0] 25)).alloc (.cells #[.slice none 0 0] 25)) = we1 at X1 X2 hbwe1  ⊢
  obtain ⟨G, hG⟩ : ∃ G, G = w.heap.size + 1 := ⟨_, rfl⟩
  have hrG : w.heap.size < G := by rw [hG]; omega
  rw [← hG] at X2 ⊢
  clear hG
  go_loopw [5, 8] (fun _ t wr => ∃ j A1 n1 c1, j ≤ n ∧ t = .int .i64 ((j : Nat) : Int) ∧ Blk1 wr G 25 (.slice A1 n1 c1) ∧ NatAt wr A1 n1 c1 (gcdTo X j) ∧ Below w.heap.size w wr ∧ Blk1 wr w.heap.size 25 (.slice none 0 0)) (fun _ t _ => n - (intOf t).toNat)
  case atStart => exact ⟨0, _, _, _, Nat.zero_le _, rfl, X2, (show NatAt we1 none 0 0 0 from nat_nil _), bW, (show Blk1 we1 _ _ _ from X1.to bW)⟩
  case round =>
    obtain ⟨j, A1, n1, c1, hj, rfl, XG, hg, hbl, XR⟩ := hrel
    have q1 := hg.le_of _ (hX.out j hj)
    by_cases hlt : j < n
    · obtain ⟨gr, o, rfl, hgr, hcell⟩ := (h.to hbl) (by omega)
      obtain ⟨A5, n5, c5, h5, h5n⟩ := hcell j hlt
      have jn : (j : Int) < (n : Int) := by omega
      have q5 := h5n.le_of _ (hY.out j hlt)
      clear hcell
      have d1 := (show Blk1 (wr.alloc (.cells #[.slice A5 n5 c5] 25)) _ _ _ from XG.to bW).cell
      go_wp2_with fail
      clear d1
      have ltXG_wr : G < wr.heap.size := (show Blk1 wr _ _ _ from XG.to bW).lt
      have ltXR_wr : w.heap.size < wr.heap.size := (show Blk1 wr _ _ _ from XR.to bW).lt
      have X3 := Blk1.newAt wr (wr.heap.size) 25 (.slice A5 n5 c5) (by first | rfl | simp)
      have hbwe2 : Below wr.heap.size wr (wr.alloc (.cells #[.slice A5 n5 c5] 25)) := bW
      generalize (wr.alloc (.cells #[.slice A5 n5 c5] 25)) = we2 at X3 hbwe2  ⊢
      refine (gcd_Of _ _ _ _ _ _ _ _ _ (hg.to bW) (h5n.to bW) (by omega) (by omega)).mono ?_
      rintro e w1 ⟨A1, n1, c1, rfl, h1, hb1, q1⟩
      have d2 := (show Blk1 w1 _ _ _ from XG.to bW).cell
      have fd2 := (show Blk1 w1 _ _ _ from XG.to bW).free
      go_wp2_with fail
      clear d2 fd2
      replace h5n := (show NatAt w1 _ _ _ _ from h5n.to bW)
      replace hg := (show NatAt w1 _ _ _ _ from hg.to bW)
      replace h1 := (show NatAt w1 _ _ _ _ from h1.to bW)
      replace XG := (show Blk1 w1 _ _ _ from XG.to bW)
      replace XR := (show Blk1 w1 _ _ _ from XR.to bW)
      replace X3 := (show Blk1 w1 _ _ _ from X3.to bW)
      have hbws3 := nxs (show Below w.heap.size w w1 from bW) (p := ⟨G, 0, none⟩) (by show w.heap.size ≤ G; omega) (.slice A1 n1 c1)
      replace h5n := h5n.put_ XG.cell (.slice A1 n1 c1)
      replace hg := hg.put_ XG.cell (.slice A1 n1 c1)
      replace h1 := h1.put_ XG.cell (.slice A1 n1 c1)
      replace XR := XR.far (p := ⟨G, 0, none⟩) (by show w.heap.size ≠ G; omega) (.slice A1 n1 c1)
      replace X3 := X3.far (p := ⟨G, 0, none⟩) (by show wr.heap.size ≠ G; omega) (.slice A1 n1 c1)
      replace XG := XG.set (.slice A1 n1 c1)
      generalize w1.setCell ⟨G, 0, none⟩ (.slice A1 n1 c1) = ws3 at h5n hg h1 XR X3 XG hbws3 ⊢
      go_roundw
      case rel => exact ⟨j + 1, _, _, _, by omega, by go_num, XG, h1, bW, XR⟩
      case measure => simp [intOf]; omega
    · obtain rfl : j = n := by omega
      have d3 := (show Blk1 wr _ _ _ from XG.to bW).cell
      have d4 := (show Blk1 wr _ _ _ from XR.to bW).cell
      have fd4 := (show Blk1 wr _ _ _ from XR.to bW).free
      go_wp2_with fail
      clear d3 d4 fd4
      replace hg := (show NatAt wr _ _ _ _ from hg.to bW)
      replace XG := (show Blk1 wr _ _ _ from XG.to bW)
      replace XR := (show Blk1 wr _ _ _ from XR.to bW)
      have hbws4 := nxs (show Below w.heap.size w wr from bW) (p := ⟨w.heap.size, 0, none⟩) (by show w.heap.size ≤ w.heap.size; omega) (.slice A1 n1 c1)
      replace hg := hg.put_ XR.cell (.slice A1 n1 c1)
      replace XG := XG.far (p := ⟨w.heap.size, 0, none⟩) (by show G ≠ w.heap.size; omega) (.slice A1 n1 c1)
      replace XR := XR.set (.slice A1 n1 c1)
      generalize wr.setCell ⟨w.heap.size, 0, none⟩ (.slice A1 n1 c1) = ws4 at hg XG XR hbws4 ⊢
      have erXR := (show Blk1 ws4 _ _ _ from XR.to bW).cell
      exact bodyPost_ret (v := .agg #[.slice A1 n1 c1]) (by simp [results, Try.results18, go_sem, erXR]) rfl ⟨_, _, _, rfl, (show NatAt ws4 _ _ _ _ from (hg.to bW)), (show Below w.heap.size w ws4 from bW)⟩
set_option maxHeartbeats 4000000 in
theorem gcd_Least (A : Option Addr) (n c : Nat) (X : Nat → Nat) (L : Nat) (w : World) (h : Nums w A n X) (hn : n ≤ c) (hc : c ≤ 9223372036854775807) (hX : Hid (∀ j, j ≤ n → lcmTo X j < W ^ L)) (hL : L ≤ 1000000000000) (hY : Hid (∀ j, j < n → X j < W ^ L)) :
    Calls Try.prog 19 #[.slice A n c] w (RetNat w (lcmTo X n)) := by
  go_enter Try.func19, Try.ntmps19
  go_wp2_with fail
  have X1 := Blk1.newAt w (w.heap.size) 25 (.slice none 0 0) (by first | rfl | simp)
  have hbwe1 : Below w.heap.size w (w.alloc (.cells #[.slice none 0 0] 25)) := bW
  have HSwe1 := Lib.hid (show (w.alloc (.cells #[.slice none 0 0] 25)).heap.size = w.heap.size + 1 by first | rfl | simp)
  generalize (w.alloc (.cells #[.slice none 0 0] 25)) = we1 at X1 hbwe1 HSwe1 ⊢
  refine (nat_Of_lit [1] _ _ _ (by first | rfl | exact HSwe1.out | simp) (by decide) (by decide)).mono ?_
  rintro e w1 ⟨A1, n1, c1, rfl, h1, hb1, m1⟩
  have q1 : n1 ≤ 1 := m1
  rw [show val W [1] = 1 from by decide] at h1
  go_wp2_with fail
  have ltX1_w1 : w.heap.size < w1.heap.size := (show Blk1 w1 _ _ _ from X1.to bW).lt
  have X2 := Blk1.newAt w1 (w1.heap.size) 25 (.slice A1 n1 c1) (by first | rfl | simp)
  have hbwe2 : Below w1.heap.size w1 (w1.alloc (.cells #[.slice A1 n1 c1] 25)) := bW
  generalize (w1.alloc (.cells #[.slice A1 n1 c1] 25)) = we2 at X2 hbwe2  ⊢
  obtain ⟨G, hG⟩ : ∃ G, G = w1.heap.size := ⟨_, rfl⟩
  have hrG : w.heap.size < G := by rw [hG]; exact (show Blk1 w1 _ _ _ from X1.to bW).lt
  rw [← hG] at X2 ⊢
  clear hG
  go_loopw [5, 10] (fun _ t wr => ∃ j A1 n1 c1, j ≤ n ∧ t = .int .i64 ((j : Nat) : Int) ∧ Blk1 wr G 25 (.slice A1 n1 c1) ∧ NatAt wr A1 n1 c1 (lcmTo X j) ∧ Below w.heap.size w wr ∧ Blk1 wr w.heap.size 25 (.slice none 0 0)) (fun _ t _ => n - (intOf t).toNat)
  case atStart => exact ⟨0, _, _, _, Nat.zero_le _, rfl, X2, (show NatAt we2 _ _ _ 1 from h1.to bW), bW, (show Blk1 we2 _ _ _ from X1.to bW)⟩
  case round =>
    obtain ⟨j, A1, n1, c1, hj, rfl, XG, hg, hbl, XR⟩ := hrel
    have q1 := hg.le_of _ (hX.out j hj)
    by_cases hlt : j < n
    · obtain ⟨gr, o, rfl, hgr, hcell⟩ := (h.to hbl) (by omega)
      obtain ⟨A5, n5, c5, h5, h5n⟩ := hcell j hlt
      have jn : (j : Int) < (n : Int) := by omega
      have q5 := h5n.le_of _ (hY.out j hlt)
      clear hcell
      have d1 := (show Blk1 (wr.alloc (.cells #[.slice A5 n5 c5] 25)) _ _ _ from XG.to bW).cell
      go_wp2_with fail
      clear d1
      have ltXG_wr : G < wr.heap.size := (show Blk1 wr _ _ _ from XG.to bW).lt
      have ltXR_wr : w.heap.size < wr.heap.size := (show Blk1 wr _ _ _ from XR.to bW).lt
      have X3 := Blk1.newAt wr (wr.heap.size) 25 (.slice A5 n5 c5) (by first | rfl | simp)
      have hbwe3 : Below wr.heap.size wr (wr.alloc (.cells #[.slice A5 n5 c5] 25)) := bW
      generalize (wr.alloc (.cells #[.slice A5 n5 c5] 25)) = we3 at X3 hbwe3  ⊢
      refine (gcd_Lcm _ _ _ _ _ _ _ _ _ (hg.to bW) (h5n.to bW) (by omega)).mono ?_
      rintro e w2 ⟨A2, n2, c2, rfl, h2, hb2⟩
      have q2 := h2.le_of _ (lcm_fit hg.lt h5n.lt)
      have d2 := (show Blk1 w2 _ _ _ from XG.to bW).cell
      have fd2 := (show Blk1 w2 _ _ _ from XG.to bW).free
      go_wp2_with fail
      clear d2 fd2
      replace h5n := (show NatAt w2 _ _ _ _ from h5n.to bW)
      replace hg := (show NatAt w2 _ _ _ _ from hg.to bW)
      replace h2 := (show NatAt w2 _ _ _ _ from h2.to bW)
      replace XG := (show Blk1 w2 _ _ _ from XG.to bW)
      replace XR := (show Blk1 w2 _ _ _ from XR.to bW)
      replace X3 := (show Blk1 w2 _ _ _ from X3.to bW)
      have hbws4 := nxs (show Below w.heap.size w w2 from bW) (p := ⟨G, 0, none⟩) (by show w.heap.size ≤ G; omega) (.slice A2 n2 c2)
      replace h5n := h5n.put_ XG.cell (.slice A2 n2 c2)
      replace hg := hg.put_ XG.cell (.slice A2 n2 c2)
      replace h2 := h2.put_ XG.cell (.slice A2 n2 c2)
      replace XR := XR.far (p := ⟨G, 0, none⟩) (by show w.heap.size ≠ G; omega) (.slice A2 n2 c2)
      replace X3 := X3.far (p := ⟨G, 0, none⟩) (by show wr.heap.size ≠ G; omega) (.slice A2 n2 c2)
      replace XG := XG.set (.slice A2 n2 c2)
      generalize w2.setCell ⟨G, 0, none⟩ (.slice A2 n2 c2) = ws4 at h5n hg h2 XR X3 XG hbws4 ⊢
      go_roundw
      case rel => exact ⟨j + 1, _, _, _, by omega, by go_num, XG, h2, bW, XR⟩
      case measure => simp [intOf]; omega
    · obtain rfl : j = n := by omega
      have d3 := (show Blk1 wr _ _ _ from XG.to bW).cell
      have d4 := (show Blk1 wr _ _ _ from XR.to bW).cell
      have fd4 := (show Blk1 wr _ _ _ from XR.to bW).free
      go_wp2_with fail
      clear d3 d4 fd4
      replace hg := (show NatAt wr _ _ _ _ from hg.to bW)
      replace XG := (show Blk1 wr _ _ _ from XG.to bW)
      replace XR := (show Blk1 wr _ _ _ from XR.to bW)
      have hbws5 := nxs (show Below w.heap.size w wr from bW) (p := ⟨w.heap.size, 0, none⟩) (by show w.heap.size ≤ w.heap.size; omega) (.slice A1 n1 c1)
      replace hg := hg.put_ XR.cell (.slice A1 n1 c1)
      replace XG := XG.far (p := ⟨w.heap.size, 0, none⟩) (by show G ≠ w.heap.size; omega) (.slice A1 n1 c1)
      replace XR := XR.set (.slice A1 n1 c1)
      generalize wr.setCell ⟨w.heap.size, 0, none⟩ (.slice A1 n1 c1) = ws5 at hg XG XR hbws5 ⊢
      have erXR := (show Blk1 ws5 _ _ _ from XR.to bW).cell
      exact bodyPost_ret (v := .agg #[.slice A1 n1 c1]) (by simp [results, Try.results19, go_sem, erXR]) rfl ⟨_, _, _, rfl, (show NatAt ws5 _ _ _ _ from (hg.to bW)), (show Below w.heap.size w ws5 from bW)⟩
end Go.Proofs.Ythjokpnihoigeaa
