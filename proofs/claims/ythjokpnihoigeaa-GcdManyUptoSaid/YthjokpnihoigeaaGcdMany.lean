/- The walk of 'GcdMany'. -/
import Derived.Test.YthjokpnihoigeaaAwake5
import Derived.Test.YthjokpnihoigeaaMany
set_option linter.unusedVariables false
set_option linter.unusedSimpArgs false
namespace Go.Proofs.Ythjokpnihoigeaa
open Go.RowKit
set_option maxRecDepth 100000
def anyZ (X : Nat → Nat) : Nat → Bool
  | 0 => false
  | j + 1 => anyZ X j || decide (X j = 0)
theorem lcm_zero (X : Nat → Nat) : ∀ n, decide (lcmTo X n = 0) = anyZ X n
  | 0 => rfl
  | n + 1 => by
    unfold lcmTo anyZ
    rw [← lcm_zero X n]
    have h : Nat.lcm (lcmTo X n) (X n) = 0 ↔ lcmTo X n = 0 ∨ X n = 0 := by
      constructor
      · intro h
        rcases Nat.eq_zero_or_pos (lcmTo X n) with h1 | h1
        · exact Or.inl h1
        · rcases Nat.eq_zero_or_pos (X n) with h2 | h2
          · exact Or.inr h2
          · have := Nat.lcm_pos h1 h2
            omega
      · rintro (h | h) <;> simp [h]
    by_cases h1 : lcmTo X n = 0 <;> by_cases h2 : X n = 0 <;> simp [h1, h2, h]
theorem anyZ_get {X : Nat → Nat} : ∀ {n j : Nat}, j < n → X j = 0 → anyZ X n = true
  | n + 1, j, h, h0 => by
    unfold anyZ
    rcases Nat.lt_or_eq_of_le (Nat.le_of_lt_succ h) with h1 | h1
    · rw [anyZ_get h1 h0]; rfl
    · subst h1; simp [h0]
theorem gcdTo_dvd {X : Nat → Nat} : ∀ {n j : Nat}, j < n → gcdTo X n ∣ X j
  | n + 1, j, h => by
    unfold gcdTo
    rcases Nat.lt_or_eq_of_le (Nat.le_of_lt_succ h) with h1 | h1
    · exact Nat.dvd_trans (Nat.gcd_dvd_left _ _) (gcdTo_dvd h1)
    · subst h1; exact Nat.gcd_dvd_right _ _
theorem dvd_lcmTo {X : Nat → Nat} : ∀ {n j : Nat}, j < n → X j ∣ lcmTo X n
  | n + 1, j, h => by
    unfold lcmTo
    rcases Nat.lt_or_eq_of_le (Nat.le_of_lt_succ h) with h1 | h1
    · exact Nat.dvd_trans (dvd_lcmTo h1) (Nat.dvd_lcm_left _ _)
    · subst h1; exact Nat.dvd_lcm_right _ _
theorem gcdTo_lt {X : Nat → Nat} {B : Nat} : ∀ {n : Nat}, (∀ j, j < n → X j < W ^ B) → gcdTo X n < W ^ B
  | 0, _ => Nat.pow_pos W_pos
  | n + 1, h => by
    unfold gcdTo
    have h1 := gcdTo_lt (n := n) (fun j hj => h j (by omega))
    have h2 := h n (by omega)
    rcases Nat.eq_zero_or_pos (gcdTo X n) with h0 | h0
    · rw [h0, Nat.gcd_zero_left]; exact h2
    · exact Nat.lt_of_le_of_lt (Nat.gcd_le_left _ h0) h1
theorem lcmTo_lt {X : Nat → Nat} {B : Nat} : ∀ {n : Nat}, (∀ j, j < n → X j < W ^ B) → lcmTo X n < W ^ (B * n + 1)
  | 0, _ => by unfold lcmTo W; rw [Nat.mul_zero]; decide
  | n + 1, h => by
    unfold lcmTo
    have h1 := lcmTo_lt (n := n) (fun j hj => h j (by omega))
    have h3 := lcm_fit h1 (h n (by omega))
    rw [show B * (n + 1) + 1 = B * n + 1 + B by rw [Nat.mul_succ]; omega]
    exact h3
set_option maxHeartbeats 8000000 in
theorem law_GcdMany (A : Option Addr) (N C : Nat) (X : Nat → Nat) (B : Nat) (hB : B ≤ 1048576) (w : World) (hR : RowsAt w A N C X B) :
    Calls Try.prog 6 #[.slice A N C] w (Ret w (.bool true)) := by
  obtain ⟨i0, hi, hz0, hz1, hz2⟩ := info_parts info_nat
  go_enter Try.func6, Try.ntmps6
  go_wp2_with fail
  refine (awake5 _).mono ?_
  rintro e w1 ⟨rfl, hb1⟩
  go_wp2_with fail
  go_loopw [3, 4, 5] (fun v z t wr => ∃ j, j ≤ N ∧ j ≤ 8 ∧ t = .int .i64 ((j : Nat) : Int) ∧ z = .bool (anyZ X j) ∧ OwnN wr w.heap.size 25 v j X ∧ Below w.heap.size w wr) (fun _ _ t _ => N - (intOf t).toNat)
  case atStart => exact ⟨0, Nat.zero_le _, Nat.zero_le _, rfl, rfl, Or.inl ⟨rfl, rfl⟩, bW⟩
  case round =>
    obtain ⟨j, hjN, hj8, rfl, rfl, hown, hbl⟩ := hrel
    go_upto_region 6 with fail
    go_cut [19] (fun b wc => b = .bool (decide (j < N ∧ j < 8)) ∧ wc = wr)
    case first =>
      by_cases h1 : j < N
      · have i1 : (j : Int) < (N : Int) := by omega
        by_cases h2 : j < 8
        · have i2 : (j : Int) < 8 := by omega
          go_wp2_with fail
          go_meet
          exact ⟨by rw [decide_eq_true (show j < N ∧ j < 8 from ⟨h1, h2⟩)], rfl⟩
        · have i2 : ¬ (j : Int) < 8 := by omega
          go_wp2_with fail
          go_meet
          exact ⟨by rw [decide_eq_false (show ¬ (j < N ∧ j < 8) from fun h => h2 h.2)], rfl⟩
      · have i1 : ¬ (j : Int) < (N : Int) := by omega
        go_wp2_with fail
        go_meet
        exact ⟨by rw [decide_eq_false (show ¬ (j < N ∧ j < 8) from fun h => h1 h.1)], rfl⟩
    case rest =>
      obtain ⟨rfl, rfl⟩ := hcut
      by_cases hlt : j < N ∧ j < 8
      · rw [decide_eq_true hlt]
        obtain ⟨gr, o, rfl, hgr, hcell⟩ := (hR.to hbl) (by omega)
        obtain ⟨A5, n5, c5, h5, h5d, h5n⟩ := hcell j hlt.1
        have jn : (j : Int) < (N : Int) := by omega
        have hl1 := hlt.1
        have hl2 := hlt.2
        clear hcell hlt
        go_wp2_with fail
        refine (nat_Of _ _ _ _ _ (h5d.to bW) (by omega)).mono ?_
        rintro e w2 ⟨A2, n2, c2, rfl, h2, hb2, m2⟩
        go_wp2_with (at_builtin; go_loud (refine wpList_push_nat rfl _ _ 33 rfl w2 w.heap.size 25 i0 (.agg #[.slice none 0 0]) 24 Try.underlying33 hi hz0 hz1 hz2 rfl _ j X rfl (hown.to bW) (show Below w.heap.size w w2 from bW).size A2 n2 c2 h2 rfl rfl (by unfold maxLen; omega) (by omega) ?_))
        intro v1 w3 ho3 hb3 hk3
        have hbl3 : Below w.heap.size w w3 := (show Below w.heap.size w w2 from bW).trans hb3
        clear hb3 hk3 hb2 hown hbl h5 h2 h5d
        obtain ⟨A9, c9, rfl, hn9, hc9, hN9⟩ := ho3.nums
        cases hz : anyZ X j
        case true =>
          go_wp2_with fail
          go_roundw
          case rel => exact ⟨j + 1, by omega, by omega, by go_num, by unfold anyZ; rw [hz]; rfl, ho3, hbl3⟩
          case measure => simp [intOf]; omega
        case false =>
          obtain ⟨g9, o9, rfl, hg9, hcell9⟩ := hN9 (by omega)
          obtain ⟨A6, n6, c6, h6, h6n⟩ := hcell9 j (by omega)
          have jn9 : (j : Int) < ((j + 1 : Nat) : Int) := by omega
          have jn8 : (j : Int) < (j : Int) + 1 := by omega
          clear hcell9
          go_wp2_with fail
          refine (nat_Zero _ _ _ _ _ (h6n.to bW)).mono ?_
          rintro e w4 ⟨rfl, hb4⟩
          go_wp2_with fail
          go_roundw
          case rel => exact ⟨j + 1, by omega, by omega, by go_num, by unfold anyZ; rw [hz]; rfl, ho3.to bW, bW⟩
          case measure => simp [intOf]; omega
      · rw [decide_eq_false hlt]
        have hYB : ∀ i, i < j → X i < W ^ B := fun i hi => hR.fit i (by omega)
        have hY := Lib.hid (show ∀ i, i < j → X i < W ^ (8 * B + 1) from fun i hi => Nat.lt_of_lt_of_le (hYB i hi) (Nat.pow_le_pow_right W_pos (by omega)))
        have hXG := Lib.hid (show ∀ i, i ≤ j → gcdTo X i < W ^ (8 * B + 1) from fun i hi => Nat.lt_of_lt_of_le (gcdTo_lt (fun a ha => hYB a (by omega))) (Nat.pow_le_pow_right W_pos (by omega)))
        have hXL := Lib.hid (show ∀ i, i ≤ j → lcmTo X i < W ^ (8 * B + 1) from fun i hi => Nat.lt_of_lt_of_le (lcmTo_lt (fun a ha => hYB a (by omega))) (Nat.pow_le_pow_right W_pos (by have := Nat.mul_le_mul_left B (show i ≤ 8 by omega); omega)))
        have LZ := Lib.hid (lcm_zero X j)
        obtain ⟨A9, c9, rfl, hn9, hc9, hN9⟩ := hown.nums
        clear hown hYB hlt
        cases hz : anyZ X j
        rotate_left
        case true =>
          rw [hz] at LZ
          go_wp2_with fail
          refine (gcd_All _ _ _ X (8 * B + 1) _ (hN9.to bW) hn9 hc9 hXG (by omega) hY).mono ?_
          rintro e w11 ⟨A11, n11, c11, rfl, h11, hb11⟩
          have q11 := h11.le_of _ (hXG.out j (Nat.le_refl _))
          go_wp2_with fail
          refine (gcd_Least _ _ _ X (8 * B + 1) _ (hN9.to bW) hn9 hc9 hXL (by omega) hY).mono ?_
          rintro e w12 ⟨A12, n12, c12, rfl, h12, hb12⟩
          have q12 := h12.le_of _ (hXL.out j (Nat.le_refl _))
          go_wp2_with fail
          have X1 := Blk1.newAt w12 (w12.heap.size) 25 (.slice A11 n11 c11) (by first | rfl | simp)
          have X2 := Blk1.newAt (w12.alloc (.cells #[.slice A11 n11 c11] 25)) (w12.heap.size + 1) 25 (.slice A12 n12 c12) (by first | rfl | simp)
          replace X1 := (show Blk1 ((w12.alloc (.cells #[.slice A11 n11 c11] 25)).alloc (.cells #[.slice A12 n12 c12] 25)) _ _ _ from X1.to bW)
          have hbwe1 : Below w12.heap.size w12 ((w12.alloc (.cells #[.slice A11 n11 c11] 25)).alloc (.cells #[.slice A12 n12 c12] 25)) := bW
          generalize ((w12.alloc (.cells #[.slice A11 n11 c11] 25)).alloc (.cells #[.slice A12 n12 c12] 25)) = we1 at X1 X2 hbwe1  ⊢
          refine (nat_Zero _ _ _ _ _ (h12.to bW)).mono ?_
          rw [LZ.out]
          rintro e w13 ⟨rfl, hb13⟩
          go_wp2_with fail
          go_loopw [9, 48] (fun _ t wr => ∃ k, k ≤ j ∧ t = .int .i64 ((k : Nat) : Int) ∧ Below w13.heap.size w13 wr) (fun _ t _ => j - (intOf t).toNat)
          case atStart => exact ⟨0, Nat.zero_le _, rfl, Below.refl _ _⟩
          case round =>
            obtain ⟨k, hk, rfl, hbk⟩ := hrel
            by_cases hkj : k < j
            · obtain ⟨g9, o9, rfl, hg9, hcell9⟩ := (hN9.to (show Below wc.heap.size wc wr from bW)) (by omega)
              obtain ⟨A6, n6, c6, h6, h6n⟩ := hcell9 k hkj
              have kj : (k : Int) < (j : Int) := by omega
              have q6 := h6n.le_of _ (hY.out k hkj)
              have GD := Lib.hid (gcdTo_dvd (X := X) hkj)
              clear hcell9
              have d1 := (show Blk1 (wr.alloc (.cells #[.slice A6 n6 c6] 25)) _ _ _ from X1.to bW).cell
              go_wp2_with fail
              clear d1
              have X3 := Blk1.newAt wr (wr.heap.size) 25 (.slice A6 n6 c6) (by first | rfl | simp)
              have hbwe2 : Below wr.heap.size wr (wr.alloc (.cells #[.slice A6 n6 c6] 25)) := bW
              generalize (wr.alloc (.cells #[.slice A6 n6 c6] 25)) = we2 at X3 hbwe2  ⊢
              refine (quot_Divides _ _ _ _ _ _ _ _ _ (h11.to bW) (h6n.to bW) (by omega)).mono ?_
              rw [decide_eq_true GD.out]
              rintro e w14 ⟨rfl, hb14⟩
              go_wp2_with fail
              go_roundw
              case rel => exact ⟨k + 1, by omega, by go_num, bW⟩
              case measure => simp [intOf]; omega
            · obtain rfl : k = j := by omega
              have k0 : 0 < k := by rcases Nat.eq_zero_or_pos k with h0 | h0; (subst h0; cases hz); exact h0
              have k1 : (0 : Int) < (k : Int) := by omega
              go_wp2_with fail
              go_ret
              exact ⟨rfl, bW⟩
        case false =>
          rw [hz] at LZ
          have DL := Lib.hid (show lcmTo X j ≠ 0 from fun e => by have := LZ.out; rw [e] at this; cases this)
          go_wp2_with fail
          refine (gcd_All _ _ _ X (8 * B + 1) _ (hN9.to bW) hn9 hc9 hXG (by omega) hY).mono ?_
          rintro e w11 ⟨A11, n11, c11, rfl, h11, hb11⟩
          have q11 := h11.le_of _ (hXG.out j (Nat.le_refl _))
          go_wp2_with fail
          refine (gcd_Least _ _ _ X (8 * B + 1) _ (hN9.to bW) hn9 hc9 hXL (by omega) hY).mono ?_
          rintro e w12 ⟨A12, n12, c12, rfl, h12, hb12⟩
          have q12 := h12.le_of _ (hXL.out j (Nat.le_refl _))
          go_wp2_with fail
          have X4 := Blk1.newAt w12 (w12.heap.size) 25 (.slice A11 n11 c11) (by first | rfl | simp)
          have X5 := Blk1.newAt (w12.alloc (.cells #[.slice A11 n11 c11] 25)) (w12.heap.size + 1) 25 (.slice A12 n12 c12) (by first | rfl | simp)
          replace X4 := (show Blk1 ((w12.alloc (.cells #[.slice A11 n11 c11] 25)).alloc (.cells #[.slice A12 n12 c12] 25)) _ _ _ from X4.to bW)
          have hbwe3 : Below w12.heap.size w12 ((w12.alloc (.cells #[.slice A11 n11 c11] 25)).alloc (.cells #[.slice A12 n12 c12] 25)) := bW
          generalize ((w12.alloc (.cells #[.slice A11 n11 c11] 25)).alloc (.cells #[.slice A12 n12 c12] 25)) = we3 at X4 X5 hbwe3  ⊢
          refine (nat_Zero _ _ _ _ _ (h12.to bW)).mono ?_
          rw [LZ.out]
          rintro e w13 ⟨rfl, hb13⟩
          go_wp2_with fail
          go_loopw [9, 48] (fun _ t wr => ∃ k, k ≤ j ∧ t = .int .i64 ((k : Nat) : Int) ∧ Below w13.heap.size w13 wr) (fun _ t _ => j - (intOf t).toNat)
          case atStart => exact ⟨0, Nat.zero_le _, rfl, Below.refl _ _⟩
          case round =>
            obtain ⟨k, hk, rfl, hbk⟩ := hrel
            by_cases hkj : k < j
            · obtain ⟨g9, o9, rfl, hg9, hcell9⟩ := (hN9.to (show Below wc.heap.size wc wr from bW)) (by omega)
              obtain ⟨A6, n6, c6, h6, h6n⟩ := hcell9 k hkj
              have kj : (k : Int) < (j : Int) := by omega
              have q6 := h6n.le_of _ (hY.out k hkj)
              have GD := Lib.hid (gcdTo_dvd (X := X) hkj)
              have LD := Lib.hid (dvd_lcmTo (X := X) hkj)
              clear hcell9
              have d2 := (show Blk1 (wr.alloc (.cells #[.slice A6 n6 c6] 25)) _ _ _ from X4.to bW).cell
              go_wp2_with fail
              clear d2
              have X6 := Blk1.newAt wr (wr.heap.size) 25 (.slice A6 n6 c6) (by first | rfl | simp)
              have hbwe4 : Below wr.heap.size wr (wr.alloc (.cells #[.slice A6 n6 c6] 25)) := bW
              generalize (wr.alloc (.cells #[.slice A6 n6 c6] 25)) = we4 at X6 hbwe4  ⊢
              refine (quot_Divides _ _ _ _ _ _ _ _ _ (h11.to bW) (h6n.to bW) (by omega)).mono ?_
              rw [decide_eq_true GD.out]
              rintro e w14 ⟨rfl, hb14⟩
              have d3 := (show Blk1 w14 _ _ _ from X6.to bW).cell
              have d4 := (show Blk1 w14 _ _ _ from X5.to bW).cell
              go_wp2_with fail
              clear d3 d4
              refine (quot_Divides _ _ _ _ _ _ _ _ _ (h6n.to bW) (h12.to bW) (by omega)).mono ?_
              rw [decide_eq_true LD.out]
              rintro e w15 ⟨rfl, hb15⟩
              go_wp2_with fail
              go_roundw
              case rel => exact ⟨k + 1, by omega, by go_num, bW⟩
              case measure => simp [intOf]; omega
            · obtain rfl : k = j := by omega
              rcases Nat.eq_zero_or_pos k with k0 | k0
              · subst k0
                have d5 := (show Blk1 wr _ _ _ from X4.to bW).cell
                go_wp2_with fail
                clear d5
                refine (nat_Zero _ _ _ _ _ (h11.to bW)).mono ?_
                rw [show decide (gcdTo X 0 = 0) = true from rfl]
                rintro e w19 ⟨rfl, hb19⟩
                have d6 := (show Blk1 w19 _ _ _ from X5.to bW).cell
                go_wp2_with fail
                clear d6
                refine (law_Is_lit [1] _ _ _ _ _ _ _ (by first | rfl | simp) (h12.to bW) (by decide) (by omega) (by decide)).mono ?_
                rw [decide_eq_true (show n12 = List.length [1] ∧ lcmTo X 0 = val W [1] from ⟨h12.len_is 0 (by rw [show lcmTo X 0 = 1 from rfl]; decide) (by rw [show lcmTo X 0 = 1 from rfl]; decide), by rw [show lcmTo X 0 = 1 from rfl]; decide⟩)]
                rintro e w20 ⟨rfl, hb20⟩
                go_wp2_with fail
                go_ret
                exact ⟨rfl, bW⟩
              · have k1 : (0 : Int) < (k : Int) := by omega
                go_wp2_with fail
                go_ret
                exact ⟨rfl, bW⟩
end Go.Proofs.Ythjokpnihoigeaa
