/- The document's examples of layer 3. -/
import Derived.Test.YtflleaifmeiikaaProdP
import Derived.Test.YtflleaifmeiikaaAwake2
set_option linter.unusedVariables false
set_option linter.unusedSimpArgs false
namespace Go.Proofs.Ytflleaifmeiikaa
open Go.RowKit
set_option maxRecDepth 100000
set_option maxHeartbeats 2000000 in
theorem awake3 (w : World) : Calls Try.prog 26 #[] w (Ret w (.bool true)) := by
  go_enter Try.func26, Try.ntmps26
  go_wp2_with fail
  refine (nat_Of_lit [3] _ _ _ (by simp) (by decide) (by decide)).mono ?_
  rintro e w1 ⟨A1, n1, c1, rfl, h1, hb1, m1⟩
  go_wp2_with fail
  refine (prod_Pow_great _ _ _ _ 5 _ (h1.to (by with_reducible repeat (first | exact Below.refl _ _ | refine nxa ?_ _ | refine nxd ?_ _ | refine nxw ?_ | refine nx ?_ (by assumption)))) (Nat.le_trans m1 (by decide)) (by decide) (by decide)).mono ?_
  rw [show val W [3] ^ 5 = val W [243] from by decide]
  rintro e w2 ⟨A2, n2, c2, rfl, h2, hb2⟩
  obtain rfl : n2 = 1 := h2.len_is 0 (by decide) (by decide)
  have X1 := Blk1.new w2 25 (.slice A2 1 c2)
  have K0 := fun W' => Dig.nil .u64 W W' none (c := 0) (by omega)
  go_wp2_with fail
  refine (nat_Of none 0 0 0 _ (K0 _) (by decide)).mono ?_
  rintro e w3 ⟨A3, n3, c3, rfl, h3, hb3, m3⟩
  go_wp2_with fail
  refine (prod_Pow_small _ _ _ _ 0 _ (h3.to (by with_reducible repeat (first | exact Below.refl _ _ | refine nxa ?_ _ | refine nxd ?_ _ | refine nxw ?_ | refine nx ?_ (by assumption)))) (Nat.le_trans m3 (by decide)) (by decide) (by decide)).mono ?_
  rw [show 0 ^ 0 = val W [1] from by decide]
  rintro e w4 ⟨A4, n4, c4, rfl, h4, hb4⟩
  obtain rfl : n4 = 1 := h4.len_is 0 (by decide) (by decide)
  have X2 := Blk1.new w4 25 (.slice A4 1 c4)
  go_wp2_with fail
  refine (nat_Of_lit [2] _ _ _ (by simp) (by decide) (by decide)).mono ?_
  rintro e w5 ⟨A5, n5, c5, rfl, h5, hb5, m5⟩
  go_wp2_with fail
  refine (prod_Pow_no _ _ _ _ _ _ (h5.to (by with_reducible repeat (first | exact Below.refl _ _ | refine nxa ?_ _ | refine nxd ?_ _ | refine nxw ?_ | refine nx ?_ (by assumption)))) (Nat.le_trans m5 (by decide)) (Or.inr (by decide))).mono ?_
  rintro e w6 ⟨A6, n6, c6, rfl, h6, hb6⟩
  have X3 := Blk1.new w6 25 (.slice A6 n6 c6)
  go_wp2_with fail
  refine (nat_Of_lit [0, 1] _ _ _ (by simp) (by decide) (by decide)).mono ?_
  rintro e w7 ⟨A7, n7, c7, rfl, h7, hb7, m7⟩
  go_wp2_with fail
  refine (prod_ByWord _ _ _ _ 3 5 _ (h7.to (by with_reducible repeat (first | exact Below.refl _ _ | refine nxa ?_ _ | refine nxd ?_ _ | refine nxw ?_ | refine nx ?_ (by assumption)))) (by decide) (by decide) (Nat.le_trans m7 (by decide))).mono ?_
  rw [show val W [0, 1] * 3 + 5 = val W [5, 3] from by decide]
  rintro e w8 ⟨A8, n8, c8, rfl, h8, hb8⟩
  obtain rfl : n8 = 2 := h8.len_is 1 (by decide) (by decide)
  go_wp2_with fail
  refine (law_Is_lit [5, 3] _ _ _ _ _ _ _ (by simp) (h8.to (by with_reducible repeat (first | exact Below.refl _ _ | refine nxa ?_ _ | refine nxd ?_ _ | refine nxw ?_ | refine nx ?_ (by assumption)))) (by decide) (by decide) (by decide)).mono ?_
  rw [show (decide (_ = List.length _ ∧ _ = _)) = true from by decide]
  rintro e w9 ⟨rfl, hb9⟩
  go_wp2_with fail
  refine (nat_Of_lit [18446744073709551615] _ _ _ (by simp) (by decide) (by decide)).mono ?_
  rintro e w10 ⟨A10, n10, c10, rfl, h10, hb10, m10⟩
  go_wp2_with fail
  refine (nat_Of_lit [18446744073709551615] _ _ _ (by simp) (by decide) (by decide)).mono ?_
  rintro e w11 ⟨A11, n11, c11, rfl, h11, hb11, m11⟩
  go_wp2_with fail
  refine (prod_Mul _ _ _ _ _ _ _ _ _ (h10.to (by with_reducible repeat (first | exact Below.refl _ _ | refine nxa ?_ _ | refine nxd ?_ _ | refine nxw ?_ | refine nx ?_ (by assumption)))) (h11.to (by with_reducible repeat (first | exact Below.refl _ _ | refine nxa ?_ _ | refine nxd ?_ _ | refine nxw ?_ | refine nx ?_ (by assumption)))) (Nat.le_trans (Nat.add_le_add m10 m11) (by decide))).mono ?_
  rw [show val W [18446744073709551615] * val W [18446744073709551615] = val W [1, 18446744073709551614] from by decide]
  rintro e w12 ⟨A12, n12, c12, rfl, h12, hb12⟩
  obtain rfl : n12 = 2 := h12.len_is 1 (by decide) (by decide)
  go_wp2_with fail
  refine (law_Is_lit [1, 18446744073709551614] _ _ _ _ _ _ _ (by simp) (h12.to (by with_reducible repeat (first | exact Below.refl _ _ | refine nxa ?_ _ | refine nxd ?_ _ | refine nxw ?_ | refine nx ?_ (by assumption)))) (by decide) (by decide) (by decide)).mono ?_
  rw [show (decide (_ = List.length _ ∧ _ = _)) = true from by decide]
  rintro e w13 ⟨rfl, hb13⟩
  have d1 := (show Blk1 w13 _ _ _ from (X1.to (by with_reducible repeat (first | exact Below.refl _ _ | refine nxa ?_ _ | refine nxd ?_ _ | refine nxw ?_ | refine nx ?_ (by assumption))))).cell
  go_wp2_with fail
  refine (law_Is_lit [243] _ _ _ _ _ _ _ (by simp) (h2.to (by with_reducible repeat (first | exact Below.refl _ _ | refine nxa ?_ _ | refine nxd ?_ _ | refine nxw ?_ | refine nx ?_ (by assumption)))) (by decide) (by decide) (by decide)).mono ?_
  rw [show (decide (_ = List.length _ ∧ _ = _)) = true from by decide]
  rintro e w14 ⟨rfl, hb14⟩
  have d2 := (show Blk1 w14 _ _ _ from (X2.to (by with_reducible repeat (first | exact Below.refl _ _ | refine nxa ?_ _ | refine nxd ?_ _ | refine nxw ?_ | refine nx ?_ (by assumption))))).cell
  go_wp2_with fail
  refine (law_Is_lit [1] _ _ _ _ _ _ _ (by simp) (h4.to (by with_reducible repeat (first | exact Below.refl _ _ | refine nxa ?_ _ | refine nxd ?_ _ | refine nxw ?_ | refine nx ?_ (by assumption)))) (by decide) (by decide) (by decide)).mono ?_
  rw [show (decide (_ = List.length _ ∧ _ = _)) = true from by decide]
  rintro e w15 ⟨rfl, hb15⟩
  go_wp2_with fail
  go_ret
  exact ⟨rfl, (by with_reducible repeat (first | exact Below.refl _ _ | refine nxa ?_ _ | refine nxd ?_ _ | refine nxw ?_ | refine nx ?_ (by assumption)))⟩
end Go.Proofs.Ytflleaifmeiikaa
