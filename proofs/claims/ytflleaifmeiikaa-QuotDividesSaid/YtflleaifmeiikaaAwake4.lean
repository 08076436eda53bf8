/- The document's examples of layer 4. -/
import Derived.Test.YtflleaifmeiikaaQuotF
import Derived.Test.YtflleaifmeiikaaAwake3
import Derived.Test.YtflleaifmeiikaaAutoKit
set_option linter.unusedVariables false
set_option linter.unusedSimpArgs false
namespace Go.Proofs.Ytflleaifmeiikaa
open Go.RowKit
set_option maxRecDepth 100000
set_option maxHeartbeats 4000000 in
theorem awake4 (w : World) :
    Calls Try.prog 32 #[] w (Ret w (.bool true)) := by
  go_enter Try.func32, Try.ntmps32
  go_wp2_with fail
  refine (nat_Of_lit [0, 0, 1] _ _ _ (by first | rfl | simp) (by decide) (by decide)).mono ?_
  rintro e w1 ⟨A1, n1, c1, rfl, h1, hb1, m1⟩
  have q1 : n1 ≤ 3 := m1
  go_wp2_with fail
  refine (nat_Of_lit [1, 1] _ _ _ (by first | rfl | simp) (by decide) (by decide)).mono ?_
  rintro e w2 ⟨A2, n2, c2, rfl, h2, hb2, m2⟩
  have q2 : n2 ≤ 2 := m2
  go_wp2_with fail
  refine (quot_DivMod _ _ _ _ _ _ _ _ _ (h1.to (by with_reducible repeat (first | exact Below.refl _ _ | refine nxa ?_ _ | refine nxd ?_ _ | refine nxw ?_ | refine nx ?_ (by assumption)))) (h2.to (by with_reducible repeat (first | exact Below.refl _ _ | refine nxa ?_ _ | refine nxd ?_ _ | refine nxw ?_ | refine nx ?_ (by assumption)))) (by omega) (by decide)).mono ?_
  rintro e w3 ⟨A3, n3, c3, A3', n3', c3', rfl, h3, h3', hb3⟩
  have q3 := h3.le_of _ (Nat.lt_of_le_of_lt (Nat.div_le_self _ _) h1.lt)
  have q3' := h3'.le_of _ (Nat.lt_of_le_of_lt (Nat.mod_le _ _) h1.lt)
  obtain rfl : n3 = 1 := h3.len_is 0 (by decide) (by decide)
  obtain rfl : n3' = 1 := h3'.len_is 0 (by decide) (by decide)
  go_wp2_with fail
  have X1 := Blk1.newAt w3 (w3.heap.size) 25 (.slice A3 1 c3) (by first | rfl | simp)
  have X2 := Blk1.newAt (w3.alloc (.cells #[.slice A3 1 c3] 25)) (w3.heap.size + 1) 25 (.slice A3' 1 c3') (by first | rfl | simp)
  replace X1 := (show Blk1 ((w3.alloc (.cells #[.slice A3 1 c3] 25)).alloc (.cells #[.slice A3' 1 c3'] 25)) _ _ _ from X1.to (by with_reducible repeat (first | exact Below.refl _ _ | refine nxa ?_ _ | refine nxd ?_ _ | refine nxw ?_ | refine nx ?_ (by assumption))))
  have hbwe1 : Below w3.heap.size w3 ((w3.alloc (.cells #[.slice A3 1 c3] 25)).alloc (.cells #[.slice A3' 1 c3'] 25)) := (by with_reducible repeat (first | exact Below.refl _ _ | refine nxa ?_ _ | refine nxd ?_ _ | refine nxw ?_ | refine nx ?_ (by assumption)))
  have HSwe1 := Lib.hid (show ((w3.alloc (.cells #[.slice A3 1 c3] 25)).alloc (.cells #[.slice A3' 1 c3'] 25)).heap.size = w3.heap.size + 1 + 1 by first | rfl | simp)
  generalize ((w3.alloc (.cells #[.slice A3 1 c3] 25)).alloc (.cells #[.slice A3' 1 c3'] 25)) = we1 at X1 X2 hbwe1 HSwe1 ⊢
  refine (nat_Of_lit [100] _ _ _ (by first | rfl | exact HSwe1.out | simp) (by decide) (by decide)).mono ?_
  rintro e w4 ⟨A4, n4, c4, rfl, h4, hb4, m4⟩
  have q4 : n4 ≤ 1 := m4
  go_wp2_with fail
  refine (quot_ByWord _ _ _ _ 7 _ (h4.to (by with_reducible repeat (first | exact Below.refl _ _ | refine nxa ?_ _ | refine nxd ?_ _ | refine nxw ?_ | refine nx ?_ (by assumption)))) (by decide) (by decide) (by omega)).mono ?_
  rintro e w5 ⟨A5, n5, c5, rfl, h5, hb5⟩
  have q5 := h5.le_of _ (Nat.lt_of_le_of_lt (Nat.div_le_self _ _) h4.lt)
  obtain rfl : n5 = 1 := h5.len_is 0 (by decide) (by decide)
  go_wp2_with fail
  have X3 := Blk1.newAt w5 (w5.heap.size) 25 (.slice A5 1 c5) (by first | rfl | simp)
  have hbwe2 : Below w5.heap.size w5 (w5.alloc (.cells #[.slice A5 1 c5] 25)) := (by with_reducible repeat (first | exact Below.refl _ _ | refine nxa ?_ _ | refine nxd ?_ _ | refine nxw ?_ | refine nx ?_ (by assumption)))
  have HSwe2 := Lib.hid (show (w5.alloc (.cells #[.slice A5 1 c5] 25)).heap.size = w5.heap.size + 1 by first | rfl | simp)
  generalize (w5.alloc (.cells #[.slice A5 1 c5] 25)) = we2 at X3 hbwe2 HSwe2 ⊢
  refine (nat_Of_lit [5] _ _ _ (by first | rfl | exact HSwe2.out | simp) (by decide) (by decide)).mono ?_
  rintro e w6 ⟨A6, n6, c6, rfl, h6, hb6, m6⟩
  have q6 : n6 ≤ 1 := m6
  go_wp2_with fail
  refine (nat_Of none 0 0 0 _ (Dig.nil .u64 W _ none (by decide)) (by decide)).mono ?_
  rintro e w7 ⟨A7, n7, c7, rfl, h7, hb7, m7⟩
  have q7 : n7 ≤ 0 := m7
  go_wp2_with fail
  refine (quot_DivMod_zero _ _ _ _ _ _ _ _ _ (h6.to (by with_reducible repeat (first | exact Below.refl _ _ | refine nxa ?_ _ | refine nxd ?_ _ | refine nxw ?_ | refine nx ?_ (by assumption)))) (h7.to (by with_reducible repeat (first | exact Below.refl _ _ | refine nxa ?_ _ | refine nxd ?_ _ | refine nxw ?_ | refine nx ?_ (by assumption)))) (by omega) (by decide)).mono ?_
  rintro e w8 ⟨A8, n8, c8, A8', n8', c8', rfl, h8, h8', hb8⟩
  have q8 := h8.le_of 0 (by decide)
  have q8' := h8'.le_of 0 (by decide)
  have d1 := (show Blk1 ((w8.alloc (.cells #[.slice A8 n8 c8] 25)).alloc (.cells #[.slice A8' n8' c8'] 25)) _ _ _ from X1.to (by with_reducible repeat (first | exact Below.refl _ _ | refine nxa ?_ _ | refine nxd ?_ _ | refine nxw ?_ | refine nx ?_ (by assumption)))).cell
  go_wp2_with fail
  clear d1
  have X4 := Blk1.newAt w8 (w8.heap.size) 25 (.slice A8 n8 c8) (by first | rfl | simp)
  have X5 := Blk1.newAt (w8.alloc (.cells #[.slice A8 n8 c8] 25)) (w8.heap.size + 1) 25 (.slice A8' n8' c8') (by first | rfl | simp)
  replace X4 := (show Blk1 ((w8.alloc (.cells #[.slice A8 n8 c8] 25)).alloc (.cells #[.slice A8' n8' c8'] 25)) _ _ _ from X4.to (by with_reducible repeat (first | exact Below.refl _ _ | refine nxa ?_ _ | refine nxd ?_ _ | refine nxw ?_ | refine nx ?_ (by assumption))))
  have hbwe3 : Below w8.heap.size w8 ((w8.alloc (.cells #[.slice A8 n8 c8] 25)).alloc (.cells #[.slice A8' n8' c8'] 25)) := (by with_reducible repeat (first | exact Below.refl _ _ | refine nxa ?_ _ | refine nxd ?_ _ | refine nxw ?_ | refine nx ?_ (by assumption)))
  have HSwe3 := Lib.hid (show ((w8.alloc (.cells #[.slice A8 n8 c8] 25)).alloc (.cells #[.slice A8' n8' c8'] 25)).heap.size = w8.heap.size + 1 + 1 by first | rfl | simp)
  generalize ((w8.alloc (.cells #[.slice A8 n8 c8] 25)).alloc (.cells #[.slice A8' n8' c8'] 25)) = we3 at X4 X5 hbwe3 HSwe3 ⊢
  refine (law_Is_lit [18446744073709551615] _ _ _ _ _ _ _ (by first | rfl | exact HSwe3.out | simp) (h3.to (by with_reducible repeat (first | exact Below.refl _ _ | refine nxa ?_ _ | refine nxd ?_ _ | refine nxw ?_ | refine nx ?_ (by assumption)))) (by decide) (by omega) (by decide)).mono ?_
  rw [show (decide (_ = List.length _ ∧ _ = _)) = true from by decide]
  rintro e w9 ⟨rfl, hb9⟩
  have d2 := (show Blk1 w9 _ _ _ from X2.to (by with_reducible repeat (first | exact Below.refl _ _ | refine nxa ?_ _ | refine nxd ?_ _ | refine nxw ?_ | refine nx ?_ (by assumption)))).cell
  go_wp2_with fail
  clear d2
  refine (law_Is_lit [1] _ _ _ _ _ _ _ (by first | rfl | simp) (h3'.to (by with_reducible repeat (first | exact Below.refl _ _ | refine nxa ?_ _ | refine nxd ?_ _ | refine nxw ?_ | refine nx ?_ (by assumption)))) (by decide) (by omega) (by decide)).mono ?_
  rw [show (decide (_ = List.length _ ∧ _ = _)) = true from by decide]
  rintro e w10 ⟨rfl, hb10⟩
  have d3 := (show Blk1 w10 _ _ _ from X3.to (by with_reducible repeat (first | exact Below.refl _ _ | refine nxa ?_ _ | refine nxd ?_ _ | refine nxw ?_ | refine nx ?_ (by assumption)))).cell
  go_wp2_with fail
  clear d3
  refine (law_Is_lit [14] _ _ _ _ _ _ _ (by first | rfl | simp) (h5.to (by with_reducible repeat (first | exact Below.refl _ _ | refine nxa ?_ _ | refine nxd ?_ _ | refine nxw ?_ | refine nx ?_ (by assumption)))) (by decide) (by omega) (by decide)).mono ?_
  rw [show (decide (_ = List.length _ ∧ _ = _)) = true from by decide]
  rintro e w11 ⟨rfl, hb11⟩
  go_wp2_with fail
  refine (nat_Of none 0 0 0 _ (Dig.nil .u64 W _ none (by decide)) (by decide)).mono ?_
  rintro e w12 ⟨A12, n12, c12, rfl, h12, hb12, m12⟩
  have q12 : n12 ≤ 0 := m12
  go_wp2_with fail
  refine (nat_Of none 0 0 0 _ (Dig.nil .u64 W _ none (by decide)) (by decide)).mono ?_
  rintro e w13 ⟨A13, n13, c13, rfl, h13, hb13, m13⟩
  have q13 : n13 ≤ 0 := m13
  go_wp2_with fail
  refine (quot_Divides _ _ _ _ _ _ _ _ _ (h12.to (by with_reducible repeat (first | exact Below.refl _ _ | refine nxa ?_ _ | refine nxd ?_ _ | refine nxw ?_ | refine nx ?_ (by assumption)))) (h13.to (by with_reducible repeat (first | exact Below.refl _ _ | refine nxa ?_ _ | refine nxd ?_ _ | refine nxw ?_ | refine nx ?_ (by assumption)))) (by omega)).mono ?_
  rw [show decide ((0 : Nat) ∣ 0) = true from by decide]
  rintro e w14 ⟨rfl, hb14⟩
  go_wp2_with fail
  go_ret
  exact ⟨rfl, (by with_reducible repeat (first | exact Below.refl _ _ | refine nxa ?_ _ | refine nxd ?_ _ | refine nxw ?_ | refine nx ?_ (by assumption)))⟩
end Go.Proofs.Ytflleaifmeiikaa
