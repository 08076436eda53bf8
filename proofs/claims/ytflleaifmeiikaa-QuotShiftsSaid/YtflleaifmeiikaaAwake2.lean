/- The document's examples of layer 2. -/
import Derived.Test.YtflleaifmeiikaaNatKit
namespace Go.Proofs.Ytflleaifmeiikaa
open Go.RowKit
set_option maxRecDepth 100000 in
set_option maxHeartbeats 2000000 in
theorem awake2 (w : World) : Calls Try.prog 12 #[] w (Ret w (.bool true)) := by
  go_enter Try.func12, Try.ntmps12
  go_wp2_with fail
  refine (nat_Of_lit [1, 2, 0] _ _ _ (by simp) (by decide) (by decide)).mono ?_
  rintro e w1 ⟨A1, n1, c1, rfl, h1, hb1, m1⟩
  obtain rfl : n1 = 2 := h1.len_is 1 (by decide) (by decide)
  have X1 := Blk1.new w1 25 (.slice A1 2 c1)
  go_wp2_with fail
  refine (nat_Of_lit [0, 1] _ _ _ (by simp) (by decide) (by decide)).mono ?_
  rintro e w2 ⟨A2, n2, c2, rfl, h2, hb2, m2⟩
  go_wp2_with fail
  refine (nat_Of_lit [1] _ _ _ (by simp) (by decide) (by decide)).mono ?_
  rintro e w3 ⟨A3, n3, c3, rfl, h3, hb3, m3⟩
  go_wp2_with fail
  refine (nat_Sub _ _ _ _ _ _ _ _ _ (h2.to (by with_reducible repeat (first | exact Below.refl _ _ | refine nxa ?_ _ | refine nxd ?_ _ | refine nxw ?_ | refine nx ?_ (by assumption)))) (h3.to (by with_reducible repeat (first | exact Below.refl _ _ | refine nxa ?_ _ | refine nxd ?_ _ | refine nxw ?_ | refine nx ?_ (by assumption)))) (Nat.le_trans m2 (by decide))).mono ?_
  rw [show decide (val W [1] ≤ val W [0, 1]) = true from by decide, show val W [0, 1] - val W [1] = val W [18446744073709551615] from by decide]
  rintro e w4 ⟨A4, n4, c4, rfl, h4, hb4⟩
  obtain rfl : n4 = 1 := h4.len_is 0 (by decide) (by decide)
  have X2 := Blk1.new w4 25 (.slice A4 1 c4)
  go_wp2_with fail
  refine (nat_Of_lit [5, 7] _ _ _ (by simp) (by decide) (by decide)).mono ?_
  rintro e w5 ⟨A5, n5, c5, rfl, h5, hb5, m5⟩
  go_wp2_with fail
  refine (nat_Low _ _ _ _ 65 _ (h5.to (by with_reducible repeat (first | exact Below.refl _ _ | refine nxa ?_ _ | refine nxd ?_ _ | refine nxw ?_ | refine nx ?_ (by assumption)))) (by decide) (Nat.le_trans m5 (by decide))).mono ?_
  rw [show val W [5, 7] % 2 ^ 65 = val W [5, 1] from by decide]
  rintro e w6 ⟨A6, n6, c6, rfl, h6, hb6⟩
  obtain rfl : n6 = 2 := h6.len_is 1 (by decide) (by decide)
  have X3 := Blk1.new w6 25 (.slice A6 2 c6)
  have d1 := (show Blk1 (w6.alloc (.cells #[.slice A6 2 c6] 25)) _ _ _ from (X1.to (by with_reducible repeat (first | exact Below.refl _ _ | refine nxa ?_ _ | refine nxd ?_ _ | refine nxw ?_ | refine nx ?_ (by assumption))))).cell
  go_wp2_with fail
  refine (nat_Len A1 2 c1 _).mono ?_
  rintro e w7 ⟨rfl, hb7⟩
  have d2 := (show Blk1 w7 _ _ _ from (X1.to (by with_reducible repeat (first | exact Below.refl _ _ | refine nxa ?_ _ | refine nxd ?_ _ | refine nxw ?_ | refine nx ?_ (by assumption))))).cell
  go_wp2_with fail
  refine (nat_Word _ _ _ _ 1 _ (h1.to (by with_reducible repeat (first | exact Below.refl _ _ | refine nxa ?_ _ | refine nxd ?_ _ | refine nxw ?_ | refine nx ?_ (by assumption)))) (by decide)).mono ?_
  rw [show dg W 1 (val W [1, 2, 0]) = 2 from by decide]
  rintro e w8 ⟨rfl, hb8⟩
  have d3 := (show Blk1 w8 _ _ _ from (X1.to (by with_reducible repeat (first | exact Below.refl _ _ | refine nxa ?_ _ | refine nxd ?_ _ | refine nxw ?_ | refine nx ?_ (by assumption))))).cell
  go_wp2_with fail
  refine (nat_Bits _ _ _ _ _ (h1.to (by with_reducible repeat (first | exact Below.refl _ _ | refine nxa ?_ _ | refine nxd ?_ _ | refine nxw ?_ | refine nx ?_ (by assumption)))) (by decide)).mono ?_
  rw [show blen (val W [1, 2, 0]) = 66 from by decide]
  rintro e w9 ⟨rfl, hb9⟩
  have d4 := (show Blk1 w9 _ _ _ from (X1.to (by with_reducible repeat (first | exact Below.refl _ _ | refine nxa ?_ _ | refine nxd ?_ _ | refine nxw ?_ | refine nx ?_ (by assumption))))).cell
  go_wp2_with fail
  refine (nat_Shr _ _ _ _ 1 _ (h1.to (by with_reducible repeat (first | exact Below.refl _ _ | refine nxa ?_ _ | refine nxd ?_ _ | refine nxw ?_ | refine nx ?_ (by assumption)))) (by decide) (by decide)).mono ?_
  rw [show val W [1, 2, 0] / 2 ^ 1 = val W [0, 1] from by decide]
  rintro e w10 ⟨A10, n10, c10, rfl, h10, hb10⟩
  obtain rfl : n10 = 2 := h10.len_is 1 (by decide) (by decide)
  go_wp2_with fail
  refine (law_Is_lit [0, 1] _ _ _ _ _ _ _ (by simp) (h10.to (by with_reducible repeat (first | exact Below.refl _ _ | refine nxa ?_ _ | refine nxd ?_ _ | refine nxw ?_ | refine nx ?_ (by assumption)))) (by decide) (by decide) (by decide)).mono ?_
  rw [show (decide (_ = List.length _ ∧ _ = _)) = true from by decide]
  rintro e w11 ⟨rfl, hb11⟩
  have d5 := (show Blk1 w11 _ _ _ from (X2.to (by with_reducible repeat (first | exact Below.refl _ _ | refine nxa ?_ _ | refine nxd ?_ _ | refine nxw ?_ | refine nx ?_ (by assumption))))).cell
  go_wp2_with fail
  refine (law_Is_lit [18446744073709551615] _ _ _ _ _ _ _ (by simp) (h4.to (by with_reducible repeat (first | exact Below.refl _ _ | refine nxa ?_ _ | refine nxd ?_ _ | refine nxw ?_ | refine nx ?_ (by assumption)))) (by decide) (by decide) (by decide)).mono ?_
  rw [show (decide (_ = List.length _ ∧ _ = _)) = true from by decide]
  rintro e w12 ⟨rfl, hb12⟩
  have d6 := (show Blk1 w12 _ _ _ from (X3.to (by with_reducible repeat (first | exact Below.refl _ _ | refine nxa ?_ _ | refine nxd ?_ _ | refine nxw ?_ | refine nx ?_ (by assumption))))).cell
  go_wp2_with fail
  refine (law_Is_lit [5, 1] _ _ _ _ _ _ _ (by simp) (h6.to (by with_reducible repeat (first | exact Below.refl _ _ | refine nxa ?_ _ | refine nxd ?_ _ | refine nxw ?_ | refine nx ?_ (by assumption)))) (by decide) (by decide) (by decide)).mono ?_
  rw [show (decide (_ = List.length _ ∧ _ = _)) = true from by decide]
  rintro e w13 ⟨rfl, hb13⟩
  go_wp2_with fail
  go_ret
  exact ⟨rfl, (by with_reducible repeat (first | exact Below.refl _ _ | refine nxa ?_ _ | refine nxd ?_ _ | refine nxw ?_ | refine nx ?_ (by assumption)))⟩
end Go.Proofs.Ytflleaifmeiikaa
