/- The walk of 'ProdMany'. -/
import Derived.Test.YtflleaifmeiikaaKG
import Derived.Test.YtflleaifmeiikaaMany
set_option linter.unusedVariables false
set_option linter.unusedSimpArgs false
namespace Go.Proofs.Ytflleaifmeiikaa
open Go.RowKit
set_option maxRecDepth 100000
theorem prod_Of_nil (w : World) : Calls Try.prog 30 #[.slice none 0 0] w (RetNat w 1) :=
  prod_Of none 0 0 (fun _ => 0) 1 w (fun h => absurd h (by omega)) (Nat.le_refl _) (by decide) (Lib.hid (fun j hj => by obtain rfl : j = 0 := (by omega); decide)) (by decide) (Lib.hid (fun j hj => absurd hj (by omega)))
theorem prod_Sum_nil (w : World) : Calls Try.prog 31 #[.slice none 0 0] w (RetNat w 0) :=
  prod_Sum none 0 0 (fun _ => 0) 1 w (fun h => absurd h (by omega)) (Nat.le_refl _) (by decide) (Lib.hid (fun j hj => by obtain rfl : j = 0 := (by omega); decide)) (by decide) (Lib.hid (fun j hj => absurd hj (by omega)))
theorem prodTo_lt {X : Nat → Nat} {B : Nat} : ∀ {n : Nat}, (∀ j, j < n → X j < W ^ B) → prodTo X n < W ^ (B * n + 1)
  | 0, _ => by unfold prodTo W; rw [Nat.mul_zero]; decide
  | n + 1, h => by
    unfold prodTo
    have h1 := prodTo_lt (n := n) (fun j hj => h j (by omega))
    have h3 := mul_lt_pow h1 (h n (by omega))
    rw [show B * (n + 1) + 1 = B * n + 1 + B by rw [Nat.mul_succ]; omega]
    exact h3
theorem sumTo_lt {X : Nat → Nat} {B : Nat} : ∀ {n : Nat}, (∀ j, j < n → X j < W ^ B) → sumTo X n < W ^ (B + n)
  | 0, _ => by unfold sumTo; exact Nat.pow_pos W_pos
  | n + 1, h => by
    unfold sumTo
    have h1 := sumTo_lt (n := n) (fun j hj => h j (by omega))
    have h2 := Nat.lt_of_lt_of_le (h n (by omega)) (Nat.pow_le_pow_right W_pos (show B ≤ B + n by omega))
    have h3 : W ^ (B + n) * 2 ≤ W ^ (B + n) * W := Nat.mul_le_mul_left _ (by decide)
    rw [show B + (n + 1) = (B + n) + 1 by omega, Nat.pow_succ]
    omega
set_option maxHeartbeats 8000000 in
theorem law_ProdMany (A : Option Addr) (N C : Nat) (X : Nat → Nat) (B : Nat) (hB : B ≤ 1048576) (w : World) (hR : RowsAt w A N C X B) :
    Calls Try.prog 4 #[.slice A N C] w (Ret w (.bool true)) := by
  obtain ⟨i0, hi, hz0, hz1, hz2⟩ := info_parts info_nat
  go_enter Try.func4, Try.ntmps4
  go_wp2_with fail
  refine (awake3 _).mono ?_
  rintro e w1 ⟨rfl, hb1⟩
  go_wp2_with fail
  refine (nat_Of_lit [1] _ _ _ (by first | rfl | simp) (by decide) (by decide)).mono ?_
  rintro e w2 ⟨A2, n2, c2, rfl, h2, hb2, m2⟩
  have q2 : n2 ≤ 1 := m2
  rw [show val W [1] = 1 from by decide] at h2
  go_wp2_with fail
  refine (nat_Of none 0 0 0 _ (Dig.nil .u64 W _ none (by decide)) (by decide)).mono ?_
  rintro e w3 ⟨A3, n3, c3, rfl, h3, hb3, m3⟩
  have q3 : n3 ≤ 0 := m3
  go_wp2_with fail
  have X1 := Blk1.newAt w3 (w3.heap.size) 25 (.slice A2 n2 c2) (by first | rfl | simp)
  have X2 := Blk1.newAt (w3.alloc (.cells #[.slice A2 n2 c2] 25)) (w3.heap.size + 1) 25 (.slice A3 n3 c3) (by first | rfl | simp)
  replace X1 := (show Blk1 ((w3.alloc (.cells #[.slice A2 n2 c2] 25)).alloc (.cells #[.slice A3 n3 c3] 25)) _ _ _ from X1.to bW)
  have hbwe1 : Below w3.heap.size w3 ((w3.alloc (.cells #[.slice A2 n2 c2] 25)).alloc (.cells #[.slice A3 n3 c3] 25)) := bW
  generalize ((w3.alloc (.cells #[.slice A2 n2 c2] 25)).alloc (.cells #[.slice A3 n3 c3] 25)) = we1 at X1 X2 hbwe1  ⊢
  have hb0 := Lib.hid (show Below w.heap.size w we1 from bW)
  obtain ⟨gP, hgP⟩ : ∃ g, g = w3.heap.size := ⟨_, rfl⟩
  obtain ⟨gS, hgS⟩ : ∃ g, g = w3.heap.size + 1 := ⟨_, rfl⟩
  have lP : w.heap.size ≤ gP := by rw [hgP]; exact (show Below w.heap.size w w3 from bW).size
  have lPS : gP < gS := by omega
  rw [← hgS] at X2 ⊢
  rw [← hgP] at X1 ⊢
  clear hgP hgS
  have lS := X2.lt
  obtain ⟨B0, hB0⟩ : ∃ b, b = we1.heap.size := ⟨_, rfl⟩
  have lB : B0 ≤ we1.heap.size := by omega
  rw [← hB0] at lS
  clear hB0
  go_loopw [3, 6, 7] (fun v t _ wr => ∃ j Ap np cp As ns cs, j ≤ N ∧ j ≤ 12 ∧ t = .int .i64 ((j : Nat) : Int) ∧ OwnN wr B0 25 v j X ∧ Blk1 wr gP 25 (.slice Ap np cp) ∧ Blk1 wr gS 25 (.slice As ns cs) ∧ NatAt wr Ap np cp (prodTo X j) ∧ NatAt wr As ns cs (sumTo X j) ∧ Below w.heap.size w wr ∧ B0 ≤ wr.heap.size) (fun _ t _ _ => N - (intOf t).toNat)
  case atStart => exact ⟨0, _, _, _, _, _, _, Nat.zero_le _, Nat.zero_le _, rfl, Or.inl ⟨rfl, rfl⟩, X1, X2, (show NatAt we1 _ _ _ 1 from h2.to bW), (show NatAt we1 _ _ _ 0 from h3.to bW), hb0.out, lB⟩
  case round =>
    clear X1 X2 lB hb0
    obtain ⟨j, Ap, np, cp, As, ns, cs, hjN, hj8, rfl, hown, XP, XS, hp, hs, hbl, lB⟩ := hrel
    go_upto_region 6 with fail
    go_cut [20] (fun b wc => b = .bool (decide (j < N ∧ j < 12)) ∧ wc = wr)
    case first =>
      by_cases h1 : j < N
      · have i1 : (j : Int) < (N : Int) := by omega
        by_cases h2 : j < 12
        · have i2 : (j : Int) < 12 := by omega
          go_wp2_with fail
          go_meet
          exact ⟨by rw [decide_eq_true (show j < N ∧ j < 12 from ⟨h1, h2⟩)], rfl⟩
        · have i2 : ¬ (j : Int) < 12 := by omega
          go_wp2_with fail
          go_meet
          exact ⟨by rw [decide_eq_false (show ¬ (j < N ∧ j < 12) from fun h => h2 h.2)], rfl⟩
      · have i1 : ¬ (j : Int) < (N : Int) := by omega
        go_wp2_with fail
        go_meet
        exact ⟨by rw [decide_eq_false (show ¬ (j < N ∧ j < 12) from fun h => h1 h.1)], rfl⟩
    case rest =>
      obtain ⟨rfl, rfl⟩ := hcut
      by_cases hlt : j < N ∧ j < 12
      · rw [decide_eq_true hlt]
        have hYB : ∀ i, i < j + 1 → X i < W ^ B := fun i hi => hR.fit i (by omega)
        have hY := Lib.hid (show ∀ i, i < j + 1 → X i < W ^ (12 * B + 13) from fun i hi => Nat.lt_of_lt_of_le (hYB i hi) (Nat.pow_le_pow_right W_pos (by omega)))
        have hXP := Lib.hid (show ∀ i, i ≤ j + 1 → prodTo X i < W ^ (12 * B + 13) from fun i hi => Nat.lt_of_lt_of_le (prodTo_lt (fun a ha => hYB a (by omega))) (Nat.pow_le_pow_right W_pos (by have := Nat.mul_le_mul_left B (show i ≤ 12 by omega); omega)))
        have hXS := Lib.hid (show ∀ i, i ≤ j + 1 → sumTo X i < W ^ (12 * B + 13) from fun i hi => Nat.lt_of_lt_of_le (sumTo_lt (fun a ha => hYB a (by omega))) (Nat.pow_le_pow_right W_pos (by omega)))
        have qp := hp.le_of _ (hXP.out j (by omega))
        have qs := hs.le_of _ (hXS.out j (by omega))
        obtain ⟨gr, o, rfl, hgr, hcell⟩ := (hR.to hbl) (by omega)
        obtain ⟨A5, n5, c5, h5, h5d, h5n⟩ := hcell j hlt.1
        have jn : (j : Int) < (N : Int) := by omega
        have hl1 := hlt.1
        have hl2 := hlt.2
        clear hcell hlt hYB
        go_wp2_with fail
        refine (nat_Of _ _ _ _ _ (h5d.to bW) (by omega)).mono ?_
        rintro e w2 ⟨A2, n2, c2, rfl, h2, hb2, m2⟩
        have X7 := Blk1.newAt w2 (w2.heap.size) 25 (.slice A2 n2 c2) (by first | rfl | simp)
        have be : Below w2.heap.size w2 (w2.alloc (.cells #[.slice A2 n2 c2] 25)) := bW
        have ho2 : OwnN w2 B0 25 _ j X := hown.to bW
        have d7 := X7.cell
        have lB2 : B0 ≤ w2.heap.size := Nat.le_trans lB (show Below wc.heap.size wc w2 from bW).size
        go_wp2_with (at_builtin; go_loud (refine wpList_push_nat2 rfl _ _ 41 rfl (w2.alloc (.cells #[.slice A2 n2 c2] 25)) B0 25 i0 (.agg #[.slice none 0 0]) 24 Try.underlying41 hi hz0 hz1 hz2 rfl _ j X rfl (ho2.to be) (Nat.le_trans lB2 be.size) A2 n2 c2 (h2.to be) rfl (w2.heap.size + 1) (by simp) rfl (by unfold maxLen; omega) (by omega) ?_))
        intro v1 w3 ho3 hb3 hk3 hg3
        clear d7
        have hne : ∀ k, k < B0 ∨ w2.heap.size ≤ k → some k ≠ Value.ownBlock _ := fun k hk e => by have := ho2.block k e; omega
        have XP3 := ((show Blk1 (w2.alloc _) _ _ _ from (show Blk1 w2 _ _ _ from XP.to bW).to be)).grown hg3 (hne _ (Or.inl (by omega)))
        have XS3 := ((show Blk1 (w2.alloc _) _ _ _ from (show Blk1 w2 _ _ _ from XS.to bW).to be)).grown hg3 (hne _ (Or.inl (by omega)))
        replace X7 := X7.grown hg3 (hne _ (Or.inr (Nat.le_refl _)))
        replace h2 := hk3 _ _ _ _ (h2.to be)
        have hp3 := hk3 _ _ _ _ ((show NatAt w2 _ _ _ _ from hp.to bW).to be)
        have hs3 := hk3 _ _ _ _ ((show NatAt w2 _ _ _ _ from hs.to bW).to be)
        have hbl3 : Below w.heap.size w w3 := (show Below w.heap.size w (w2.alloc _) from nx (show Below w.heap.size w w2 from bW) be).trans (hb3.mono (by omega))
        have lB3 : B0 ≤ w3.heap.size := Nat.le_trans (Nat.le_trans lB2 be.size) hb3.size
        have l7 := X7.lt
        have l7' : B0 ≤ w2.heap.size := lB2
        obtain ⟨g7, hg7⟩ : ∃ g, g = w2.heap.size := ⟨_, rfl⟩
        rw [← hg7] at X7 l7 l7' ⊢
        clear hg7 hne hb3 hk3 hg3 be hb2 ho2 lB2 hown hbl h5 h5d XP XS hp hs lB
        obtain ⟨A9, c9, rfl, hn9, hc9, hN9⟩ := ho3.nums
        clear hN9
        have d1 := (show Blk1 w3 _ _ _ from XP3.to bW).cell
        have d2 := (show Blk1 w3 _ _ _ from X7.to bW).cell
        go_wp2_with fail
        clear d1 d2
        refine (prod_Mul _ _ _ _ _ _ _ _ _ (hp3.to bW) (h2.to bW) (by omega)).mono ?_
        rw [show prodTo X j * X j = prodTo X (j + 1) from rfl]
        rintro e w21 ⟨A21, n21, c21, rfl, h21, hb21⟩
        have q21 := h21.le_of _ (mul_lt_pow hp3.lt h2.lt)
        have d3 := (show Blk1 w21 _ _ _ from XP3.to bW).cell
        have fd3 := (show Blk1 w21 _ _ _ from XP3.to bW).free
        have d4 := (show Blk1 w21 _ _ _ from XS3.to bW).cell
        have d5 := (show Blk1 w21 _ _ _ from X7.to bW).cell
        go_wp2_with fail
        clear d3 fd3 d4 d5
        replace hp3 := (show NatAt w21 _ _ _ _ from hp3.to bW)
        replace h2 := (show NatAt w21 _ _ _ _ from h2.to bW)
        replace h21 := (show NatAt w21 _ _ _ _ from h21.to bW)
        replace hs3 := (show NatAt w21 _ _ _ _ from hs3.to bW)
        replace XP3 := (show Blk1 w21 _ _ _ from XP3.to bW)
        replace XS3 := (show Blk1 w21 _ _ _ from XS3.to bW)
        replace X7 := (show Blk1 w21 _ _ _ from X7.to bW)
        replace ho3 := (show OwnN w21 _ _ _ _ _ from ho3.to bW)
        have hbws2 := nxs (show Below w.heap.size w w21 from bW) (p := ⟨gP, 0, none⟩) (by show w.heap.size ≤ gP; omega) (.slice A21 n21 c21)
        replace hp3 := hp3.put_ XP3.cell (.slice A21 n21 c21)
        replace h2 := h2.put_ XP3.cell (.slice A21 n21 c21)
        replace h21 := h21.put_ XP3.cell (.slice A21 n21 c21)
        replace hs3 := hs3.put_ XP3.cell (.slice A21 n21 c21)
        replace XS3 := XS3.far (p := ⟨gP, 0, none⟩) (by show gS ≠ gP; omega) (.slice A21 n21 c21)
        replace X7 := X7.far (p := ⟨gP, 0, none⟩) (by show g7 ≠ gP; omega) (.slice A21 n21 c21)
        replace ho3 := ho3.put XP3 (by omega) (.slice A21 n21 c21)
        replace XP3 := XP3.set (.slice A21 n21 c21)
        generalize w21.setCell ⟨gP, 0, none⟩ (.slice A21 n21 c21) = ws2 at hp3 h2 h21 hs3 XS3 X7 ho3 XP3 hbws2 ⊢
        refine (nat_Add _ _ _ _ _ _ _ _ _ (hs3.to bW) (h2.to bW) (by omega) (by omega)).mono ?_
        rw [show sumTo X j + X j = sumTo X (j + 1) from rfl]
        rintro e w22 ⟨A22, n22, c22, rfl, h22, hb22⟩
        have q22 := h22.le_of _ (add_lt hs3.lt h2.lt)
        have d6 := (show Blk1 w22 _ _ _ from XS3.to bW).cell
        have fd6 := (show Blk1 w22 _ _ _ from XS3.to bW).free
        go_wp2_with fail
        clear d6 fd6
        replace hp3 := (show NatAt w22 _ _ _ _ from hp3.to bW)
        replace h2 := (show NatAt w22 _ _ _ _ from h2.to bW)
        replace h21 := (show NatAt w22 _ _ _ _ from h21.to bW)
        replace hs3 := (show NatAt w22 _ _ _ _ from hs3.to bW)
        replace h22 := (show NatAt w22 _ _ _ _ from h22.to bW)
        replace XP3 := (show Blk1 w22 _ _ _ from XP3.to bW)
        replace XS3 := (show Blk1 w22 _ _ _ from XS3.to bW)
        replace X7 := (show Blk1 w22 _ _ _ from X7.to bW)
        replace ho3 := (show OwnN w22 _ _ _ _ _ from ho3.to bW)
        have hbws3 := nxs (show Below w.heap.size w w22 from bW) (p := ⟨gS, 0, none⟩) (by show w.heap.size ≤ gS; omega) (.slice A22 n22 c22)
        replace hp3 := hp3.put_ XS3.cell (.slice A22 n22 c22)
        replace h2 := h2.put_ XS3.cell (.slice A22 n22 c22)
        replace h21 := h21.put_ XS3.cell (.slice A22 n22 c22)
        replace hs3 := hs3.put_ XS3.cell (.slice A22 n22 c22)
        replace h22 := h22.put_ XS3.cell (.slice A22 n22 c22)
        replace XP3 := XP3.far (p := ⟨gS, 0, none⟩) (by show gP ≠ gS; omega) (.slice A22 n22 c22)
        replace X7 := X7.far (p := ⟨gS, 0, none⟩) (by show g7 ≠ gS; omega) (.slice A22 n22 c22)
        replace ho3 := ho3.put XS3 (by omega) (.slice A22 n22 c22)
        replace XS3 := XS3.set (.slice A22 n22 c22)
        generalize w22.setCell ⟨gS, 0, none⟩ (.slice A22 n22 c22) = ws3 at hp3 h2 h21 hs3 h22 XP3 X7 ho3 XS3 hbws3 ⊢
        obtain ⟨_, _, e9, _, _, hN9⟩ := ho3.nums
        cases e9
        go_wp2_with fail
        have CXP3 := (show Blk1 ws3 _ _ _ from XP3.to bW).cell
        have CXS3 := (show Blk1 ws3 _ _ _ from XS3.to bW).cell
        have KP1 : ∀ w', Below ws3.heap.size ws3 w' → w'.cell? ⟨gP, 0, none⟩ = some (.slice A21 n21 c21) ∧ w'.cell? ⟨gS, 0, none⟩ = some (.slice A22 n22 c22) ∧ True := fun w' hw' => ⟨cellB hw' CXP3, cellB hw' CXS3, trivial⟩
        refine wp_regionT (S := fun w' => w'.cell? ⟨gP, 0, none⟩ = some (.slice A21 n21 c21) ∧ w'.cell? ⟨gS, 0, none⟩ = some (.slice A22 n22 c22) ∧ True) [] kR (KP1 _ bW) (fun hHeld => ?_)
        have hbd1 : Below ws3.heap.size ws3 ws3.drew := nxw (Below.refl _ _)
        generalize ws3.drew = wd1 at hHeld hbd1 ⊢
        refine anyT_take (i := 0) (v := ?_) gO kR kR kR kR (by exact fun _ _ _ h => h) (Or.inl ⟨by rfl, ?_⟩) (by assumption) ?_
        rotate_left
        · intro w hSw; (try dsimp only at hSw); go_simp; try with_reducible rfl
        try simp only [Act.put, sX, sY, sZ]
        refine anyT_take (i := 2) (v := ?_) gO kR kR kR kR (by exact fun _ _ _ h => h) (Or.inl ⟨by rfl, ?_⟩) (by assumption) ?_
        rotate_left
        · intro w hSw; (try dsimp only at hSw); go_simp; try with_reducible rfl
        try simp only [Act.put, sX, sY, sZ]
        refine anyT_ready (rs := [1]) kR (by simp) (ReadyT.cons gO (fun K hK => ?_) ReadyT.nil)
        go_simp
        go_at_call 30
        refine (prod_Of _ _ _ X (12 * B + 13) _ (hN9.to bW) hn9 hc9 hXP (by omega) hY).mono ?_
        rintro e w23 ⟨A23, n23, c23, rfl, h23, hb23⟩
        have q23 := h23.le_of _ (hXP.out _ (Nat.le_refl _))
        go_simp
        refine hK.out _ _ (KP1 _ bW) (fun hHeld => ?_)
        clear hK K
        try simp only [Act.put, sX, sY, sZ]
        refine anyT_ready (rs := [3]) kR (by simp) (ReadyT.cons gO (fun K hK => ?_) ReadyT.nil)
        go_simp
        go_at_call 29
        (with_reducible refine (nat_Cmp _ _ _ _ _ _ _ _ _ (h23.to bW) (h21.to bW)).mono ?_)
        rw [cmpI_eq rfl]
        rintro e w24 ⟨rfl, hb24⟩
        go_simp
        refine hK.out _ _ (KP1 _ bW) (fun hHeld => ?_)
        clear hK K
        try simp only [Act.put, sX, sY, sZ]
        refine anyT_take (i := 4) (v := ?_) gO kR kR kR kR (by exact fun _ _ _ h => h) (Or.inl ⟨by rfl, ?_⟩) (by assumption) ?_
        rotate_left
        · intro w hSw; (try dsimp only at hSw); go_simp; try with_reducible rfl
        try simp only [Act.put, sX, sY, sZ]
        refine anyT_take (i := 5) (v := ?_) gO kR kR kR kR (by exact fun _ _ _ h => h) (Or.inl ⟨by rfl, ?_⟩) (by assumption) ?_
        rotate_left
        · intro w hSw; (try dsimp only at hSw); go_simp; try with_reducible rfl
        try simp only [Act.put, sX, sY, sZ]
        refine anyT_take (i := 6) (v := ?_) gO kR kR kR kR (by exact fun _ _ _ h => h) (Or.inl ⟨by rfl, ?_⟩) (by assumption) ?_
        rotate_left
        · intro w hSw; (try dsimp only at hSw); go_simp; try with_reducible rfl
        try simp only [Act.put, sX, sY, sZ]
        refine anyT_take (i := 8) (v := ?_) gO kR kR kR kR (by exact fun _ _ _ h => h) (Or.inl ⟨by rfl, ?_⟩) (by assumption) ?_
        rotate_left
        · intro w hSw; (try dsimp only at hSw); go_simp; try with_reducible rfl
        try simp only [Act.put, sX, sY, sZ]
        refine anyT_ready (rs := [7]) kR (by simp) (ReadyT.cons gO (fun K hK => ?_) ReadyT.nil)
        go_simp
        go_at_call 31
        refine (prod_Sum _ _ _ X (12 * B + 13) _ (hN9.to bW) hn9 hc9 hXS (by omega) hY).mono ?_
        rintro e w25 ⟨A25, n25, c25, rfl, h25, hb25⟩
        have q25 := h25.le_of _ (hXS.out _ (Nat.le_refl _))
        go_simp
        refine hK.out _ _ (KP1 _ bW) (fun hHeld => ?_)
        clear hK K
        try simp only [Act.put, sX, sY, sZ]
        refine anyT_ready (rs := [9]) kR (by simp) (ReadyT.cons gO (fun K hK => ?_) ReadyT.nil)
        go_simp
        go_at_call 29
        (with_reducible refine (nat_Cmp _ _ _ _ _ _ _ _ _ (h25.to bW) (h22.to bW)).mono ?_)
        rw [cmpI_eq rfl]
        rintro e w26 ⟨rfl, hb26⟩
        go_simp
        refine hK.out _ _ (KP1 _ bW) (fun hHeld => ?_)
        clear hK K
        try simp only [Act.put, sX, sY, sZ]
        refine anyT_take (i := 10) (v := ?_) gO kR kR kR kR (by exact fun _ _ _ h => h) (Or.inl ⟨by rfl, ?_⟩) (by assumption) ?_
        rotate_left
        · intro w hSw; (try dsimp only at hSw); go_simp; try with_reducible rfl
        try simp only [Act.put, sX, sY, sZ]
        refine anyT_take (i := 11) (v := ?_) gO kR kR kR kR (by exact fun _ _ _ h => h) (Or.inl ⟨by rfl, ?_⟩) (by assumption) ?_
        rotate_left
        · intro w hSw; (try dsimp only at hSw); go_simp; try with_reducible rfl
        try simp only [Act.put, sX, sY, sZ]
        refine anyT_done kR ?_ _
        clear hHeld
        clear CXP3 CXS3 KP1
        go_wp2_with fail
        go_roundw
        case rel => exact ⟨j + 1, _, _, _, _, _, _, by omega, by omega, by go_num, ho3.to bW, (show Blk1 w26 _ _ _ from XP3.to bW), (show Blk1 w26 _ _ _ from XS3.to bW), h21.to bW, h22.to bW, bW, Nat.le_of_lt (Nat.lt_of_le_of_lt l7' (show Blk1 w26 _ _ _ from X7.to bW).lt)⟩
        case measure => simp [intOf]; omega
      · rw [decide_eq_false hlt]
        go_wp2_with fail
        refine (prod_Of_nil _).mono ?_
        rintro e w41 ⟨A41, n41, c41, rfl, h41, hb41⟩
        have q41 := h41.le_of 1 (by decide)
        go_wp2_with fail
        refine (nat_Of_lit [1] _ _ _ (by first | rfl | simp) (by decide) (by decide)).mono ?_
        rintro e w42 ⟨A42, n42, c42, rfl, h42, hb42, m42⟩
        have q42 : n42 ≤ 1 := m42
        rw [show val W [1] = 1 from by decide] at h42
        go_wp2_with fail
        refine (nat_Cmp _ _ _ _ _ _ _ _ _ (h41.to bW) (h42.to bW)).mono ?_
        rw [cmpI_eq rfl]
        rintro e w43 ⟨rfl, hb43⟩
        go_wp2_with fail
        refine (prod_Sum_nil _).mono ?_
        rintro e w44 ⟨A44, n44, c44, rfl, h44, hb44⟩
        have q44 := h44.le_of 1 (by decide)
        go_wp2_with fail
        refine (nat_Zero _ _ _ _ _ (h44.to bW)).mono ?_
        rw [show decide ((0 : Nat) = 0) = true from rfl]
        rintro e w45 ⟨rfl, hb45⟩
        go_wp2_with fail
        go_ret
        exact ⟨rfl, bW⟩
end Go.Proofs.Ytflleaifmeiikaa
