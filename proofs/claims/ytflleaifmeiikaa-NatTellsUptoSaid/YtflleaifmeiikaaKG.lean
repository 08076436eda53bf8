/- The document's examples of layer 2.
   The document's examples of layer 3. -/
import Derived.Test.YtflleaifmeiikaaKB
import Derived.Test.YtflleaifmeiikaaKF
namespace Go.Proofs.Ytflleaifmeiikaa
open Go.RowKit
set_option maxRecDepth 100000 in
set_option maxHeartbeats 2000000 in
theorem awake2 (w : World) : Calls Try.prog 12 #[] w (Ret w (.bool true)) := by
  go_enter Try.func12, Try.ntmps12
  go_wp2_with fail
  refine (nat_Of_lit [1, 2, 0] _ _ _ (by simp) (by decide) (by decide)).mono ?_
  rintro e w1 ⟨A1, n1, c1, rfl, h1, hb1, m1⟩
  obtain rfl : n1 = 2 := h1.len_is 1 (by decide) (by decide)
  have X1 := Blk1.new w1 25 (.slice A1 2 c1)
  go_wp2_with fail
  refine (nat_Of_lit [0, 1] _ _ _ (by simp) (by decide) (by decide)).mono ?_
  rintro e w2 ⟨A2, n2, c2, rfl, h2, hb2, m2⟩
  go_wp2_with fail
  refine (nat_Of_lit [1] _ _ _ (by simp) (by decide) (by decide)).mono ?_
  rintro e w3 ⟨A3, n3, c3, rfl, h3, hb3, m3⟩
  go_wp2_with fail
  refine (nat_Sub _ _ _ _ _ _ _ _ _ (h2.to bW) (h3.to bW) (Nat.le_trans m2 (by decide))).mono ?_
  rw [show decide (val W [1] ≤ val W [0, 1]) = true from by decide, show val W [0, 1] - val W [1] = val W [18446744073709551615] from by decide]
  rintro e w4 ⟨A4, n4, c4, rfl, h4, hb4⟩
  obtain rfl : n4 = 1 := h4.len_is 0 (by decide) (by decide)
  have X2 := Blk1.new w4 25 (.slice A4 1 c4)
  go_wp2_with fail
  refine (nat_Of_lit [5, 7] _ _ _ (by simp) (by decide) (by decide)).mono ?_
  rintro e w5 ⟨A5, n5, c5, rfl, h5, hb5, m5⟩
  go_wp2_with fail
  refine (nat_Low _ _ _ _ 65 _ (h5.to bW) (by decide) (Nat.le_trans m5 (by decide))).mono ?_
  rw [show val W [5, 7] % 2 ^ 65 = val W [5, 1] from by decide]
  rintro e w6 ⟨A6, n6, c6, rfl, h6, hb6⟩
  obtain rfl : n6 = 2 := h6.len_is 1 (by decide) (by decide)
  have X3 := Blk1.new w6 25 (.slice A6 2 c6)
  have d1 := (show Blk1 (w6.alloc (.cells #[.slice A6 2 c6] 25)) _ _ _ from (X1.to bW)).cell
  go_wp2_with fail
  refine (nat_Len A1 2 c1 _).mono ?_
  rintro e w7 ⟨rfl, hb7⟩
  have d2 := (show Blk1 w7 _ _ _ from (X1.to bW)).cell
  go_wp2_with fail
  refine (nat_Word _ _ _ _ 1 _ (h1.to bW) (by decide)).mono ?_
  rw [show dg W 1 (val W [1, 2, 0]) = 2 from by decide]
  rintro e w8 ⟨rfl, hb8⟩
  have d3 := (show Blk1 w8 _ _ _ from (X1.to bW)).cell
  go_wp2_with fail
  refine (nat_Bits _ _ _ _ _ (h1.to bW) (by decide)).mono ?_
  rw [show blen (val W [1, 2, 0]) = 66 from by decide]
  rintro e w9 ⟨rfl, hb9⟩
  have d4 := (show Blk1 w9 _ _ _ from (X1.to bW)).cell
  go_wp2_with fail
  refine (nat_Shr _ _ _ _ 1 _ (h1.to bW) (by decide) (by decide)).mono ?_
  rw [show val W [1, 2, 0] / 2 ^ 1 = val W [0, 1] from by decide]
  rintro e w10 ⟨A10, n10, c10, rfl, h10, hb10⟩
  obtain rfl : n10 = 2 := h10.len_is 1 (by decide) (by decide)
  go_wp2_with fail
  refine (law_Is_lit [0, 1] _ _ _ _ _ _ _ (by simp) (h10.to bW) (by decide) (by decide) (by decide)).mono ?_
  rw [show (decide (_ = List.length _ ∧ _ = _)) = true from by decide]
  rintro e w11 ⟨rfl, hb11⟩
  have d5 := (show Blk1 w11 _ _ _ from (X2.to bW)).cell
  go_wp2_with fail
  refine (law_Is_lit [18446744073709551615] _ _ _ _ _ _ _ (by simp) (h4.to bW) (by decide) (by decide) (by decide)).mono ?_
  rw [show (decide (_ = List.length _ ∧ _ = _)) = true from by decide]
  rintro e w12 ⟨rfl, hb12⟩
  have d6 := (show Blk1 w12 _ _ _ from (X3.to bW)).cell
  go_wp2_with fail
  refine (law_Is_lit [5, 1] _ _ _ _ _ _ _ (by simp) (h6.to bW) (by decide) (by decide) (by decide)).mono ?_
  rw [show (decide (_ = List.length _ ∧ _ = _)) = true from by decide]
  rintro e w13 ⟨rfl, hb13⟩
  go_wp2_with fail
  go_ret
  exact ⟨rfl, bW⟩
end Go.Proofs.Ytflleaifmeiikaa
set_option linter.unusedVariables false
set_option linter.unusedSimpArgs false
namespace Go.Proofs.Ytflleaifmeiikaa
open Go.RowKit
set_option maxRecDepth 100000
set_option maxHeartbeats 2000000 in
theorem awake3 (w : World) : Calls Try.prog 26 #[] w (Ret w (.bool true)) := by
  go_enter Try.func26, Try.ntmps26
  go_wp2_with fail
  refine (nat_Of_lit [3] _ _ _ (by simp) (by decide) (by decide)).mono ?_
  rintro e w1 ⟨A1, n1, c1, rfl, h1, hb1, m1⟩
  go_wp2_with fail
  refine (prod_Pow_great _ _ _ _ 5 _ (h1.to bW) (Nat.le_trans m1 (by decide)) (by decide) (by decide)).mono ?_
  rw [show val W [3] ^ 5 = val W [243] from by decide]
  rintro e w2 ⟨A2, n2, c2, rfl, h2, hb2⟩
  obtain rfl : n2 = 1 := h2.len_is 0 (by decide) (by decide)
  have X1 := Blk1.new w2 25 (.slice A2 1 c2)
  have K0 := fun W' => Dig.nil .u64 W W' none (c := 0) (by omega)
  go_wp2_with fail
  refine (nat_Of none 0 0 0 _ (K0 _) (by decide)).mono ?_
  rintro e w3 ⟨A3, n3, c3, rfl, h3, hb3, m3⟩
  go_wp2_with fail
  refine (prod_Pow_small _ _ _ _ 0 _ (h3.to bW) (Nat.le_trans m3 (by decide)) (by decide) (by decide)).mono ?_
  rw [show 0 ^ 0 = val W [1] from by decide]
  rintro e w4 ⟨A4, n4, c4, rfl, h4, hb4⟩
  obtain rfl : n4 = 1 := h4.len_is 0 (by decide) (by decide)
  have X2 := Blk1.new w4 25 (.slice A4 1 c4)
  go_wp2_with fail
  refine (nat_Of_lit [2] _ _ _ (by simp) (by decide) (by decide)).mono ?_
  rintro e w5 ⟨A5, n5, c5, rfl, h5, hb5, m5⟩
  go_wp2_with fail
  refine (prod_Pow_no _ _ _ _ _ _ (h5.to bW) (Nat.le_trans m5 (by decide)) (Or.inr (by decide))).mono ?_
  rintro e w6 ⟨A6, n6, c6, rfl, h6, hb6⟩
  have X3 := Blk1.new w6 25 (.slice A6 n6 c6)
  go_wp2_with fail
  refine (nat_Of_lit [0, 1] _ _ _ (by simp) (by decide) (by decide)).mono ?_
  rintro e w7 ⟨A7, n7, c7, rfl, h7, hb7, m7⟩
  go_wp2_with fail
  refine (prod_ByWord _ _ _ _ 3 5 _ (h7.to bW) (by decide) (by decide) (Nat.le_trans m7 (by decide))).mono ?_
  rw [show val W [0, 1] * 3 + 5 = val W [5, 3] from by decide]
  rintro e w8 ⟨A8, n8, c8, rfl, h8, hb8⟩
  obtain rfl : n8 = 2 := h8.len_is 1 (by decide) (by decide)
  go_wp2_with fail
  refine (law_Is_lit [5, 3] _ _ _ _ _ _ _ (by simp) (h8.to bW) (by decide) (by decide) (by decide)).mono ?_
  rw [show (decide (_ = List.length _ ∧ _ = _)) = true from by decide]
  rintro e w9 ⟨rfl, hb9⟩
  go_wp2_with fail
  refine (nat_Of_lit [18446744073709551615] _ _ _ (by simp) (by decide) (by decide)).mono ?_
  rintro e w10 ⟨A10, n10, c10, rfl, h10, hb10, m10⟩
  go_wp2_with fail
  refine (nat_Of_lit [18446744073709551615] _ _ _ (by simp) (by decide) (by decide)).mono ?_
  rintro e w11 ⟨A11, n11, c11, rfl, h11, hb11, m11⟩
  go_wp2_with fail
  refine (prod_Mul _ _ _ _ _ _ _ _ _ (h10.to bW) (h11.to bW) (Nat.le_trans (Nat.add_le_add m10 m11) (by decide))).mono ?_
  rw [show val W [18446744073709551615] * val W [18446744073709551615] = val W [1, 18446744073709551614] from by decide]
  rintro e w12 ⟨A12, n12, c12, rfl, h12, hb12⟩
  obtain rfl : n12 = 2 := h12.len_is 1 (by decide) (by decide)
  go_wp2_with fail
  refine (law_Is_lit [1, 18446744073709551614] _ _ _ _ _ _ _ (by simp) (h12.to bW) (by decide) (by decide) (by decide)).mono ?_
  rw [show (decide (_ = List.length _ ∧ _ = _)) = true from by decide]
  rintro e w13 ⟨rfl, hb13⟩
  have d1 := (show Blk1 w13 _ _ _ from (X1.to bW)).cell
  go_wp2_with fail
  refine (law_Is_lit [243] _ _ _ _ _ _ _ (by simp) (h2.to bW) (by decide) (by decide) (by decide)).mono ?_
  rw [show (decide (_ = List.length _ ∧ _ = _)) = true from by decide]
  rintro e w14 ⟨rfl, hb14⟩
  have d2 := (show Blk1 w14 _ _ _ from (X2.to bW)).cell
  go_wp2_with fail
  refine (law_Is_lit [1] _ _ _ _ _ _ _ (by simp) (h4.to bW) (by decide) (by decide) (by decide)).mono ?_
  rw [show (decide (_ = List.length _ ∧ _ = _)) = true from by decide]
  rintro e w15 ⟨rfl, hb15⟩
  go_wp2_with fail
  go_ret
  exact ⟨rfl, bW⟩
end Go.Proofs.Ytflleaifmeiikaa
