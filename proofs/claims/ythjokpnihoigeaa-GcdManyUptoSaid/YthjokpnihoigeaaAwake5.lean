/- Rows of numbers made on the spot; the document's examples of layer 5. -/
import Derived.Test.YthjokpnihoigeaaGcd
import Derived.Test.YthjokpnihoigeaaKB
set_option linter.unusedVariables false
set_option linter.unusedSimpArgs false
namespace Go.Proofs.Ythjokpnihoigeaa
open Go.RowKit
set_option maxRecDepth 100000
theorem nums_lit3 (A1 : Option Addr) (n1 c1 x1 : Nat) (A2 : Option Addr) (n2 c2 x2 : Nat) (A3 : Option Addr) (n3 c3 x3 : Nat) (w : World) (g : Nat) (e : TypeId) (hg : w.heap.size = g) (h1 : NatAt w A1 n1 c1 x1) (h2 : NatAt w A2 n2 c2 x2) (h3 : NatAt w A3 n3 c3 x3) :
    Nums (w.alloc (.cells #[.slice A1 n1 c1, .slice A2 n2 c2, .slice A3 n3 c3] e)) (some ⟨g, 0, none⟩) 3 (fun j => [x1, x2, x3].getD j 0) := fun _ => by
  subst hg
  have hb : Below w.heap.size w (w.alloc (.cells #[.slice A1 n1 c1, .slice A2 n2 c2, .slice A3 n3 c3] e)) := nxa (Below.refl _ _) _
  have hnew : ∀ j, (w.alloc (.cells #[.slice A1 n1 c1, .slice A2 n2 c2, .slice A3 n3 c3] e)).cell? ⟨w.heap.size, j, none⟩ = (#[Value.slice A1 n1 c1, .slice A2 n2 c2, .slice A3 n3 c3] : Array Value)[j]? := fun j => by
    have hB : (w.alloc (.cells #[.slice A1 n1 c1, .slice A2 n2 c2, .slice A3 n3 c3] e)).heap[w.heap.size]? = some (.cells #[.slice A1 n1 c1, .slice A2 n2 c2, .slice A3 n3 c3] e (0, 0)) := heap_alloc_new w _
    simp only [World.cell?, hB]
    rfl
  refine ⟨w.heap.size, 0, rfl, by simp, fun j hj => ?_⟩
  rw [Nat.zero_add, hnew]
  rcases j with _ | _ | _ | j
  · exact ⟨_, _, _, rfl, h1.to hb⟩
  · exact ⟨_, _, _, rfl, h2.to hb⟩
  · exact ⟨_, _, _, rfl, h3.to hb⟩
  · omega
theorem gcd_Least_lit3 (A1 : Option Addr) (n1 c1 x1 : Nat) (A2 : Option Addr) (n2 c2 x2 : Nat) (A3 : Option Addr) (n3 c3 x3 : Nat) (w : World) (g : Nat) (e : TypeId) (hg : w.heap.size = g) (h1 : NatAt w A1 n1 c1 x1) (h2 : NatAt w A2 n2 c2 x2) (h3 : NatAt w A3 n3 c3 x3) (l1 : x1 < W) (l2 : x2 < W) (l3 : x3 < W) :
    Calls Try.prog 19 #[.slice (some ⟨g, 0, none⟩) 3 3] (w.alloc (.cells #[.slice A1 n1 c1, .slice A2 n2 c2, .slice A3 n3 c3] e)) (RetNat w (Nat.lcm (Nat.lcm (Nat.lcm 1 x1) x2) x3)) := by
  have b1 : Nat.lcm 1 x1 < W ^ 1 := Nat.lt_of_le_of_lt (lcm_le _ _) (by rw [Nat.one_mul, Nat.pow_one]; exact l1)
  have b2 : Nat.lcm (Nat.lcm 1 x1) x2 < W ^ 2 := lcm_fit (n := 1) (m := 1) b1 (by rw [Nat.pow_one]; exact l2)
  have b3 : Nat.lcm (Nat.lcm (Nat.lcm 1 x1) x2) x3 < W ^ 3 := lcm_fit (n := 2) (m := 1) b2 (by rw [Nat.pow_one]; exact l3)
  have e1 : W ^ 1 ≤ W ^ 3 := Nat.pow_le_pow_right W_pos (by decide)
  have e2 : W ^ 2 ≤ W ^ 3 := Nat.pow_le_pow_right W_pos (by decide)
  have e0 : W ≤ W ^ 3 := by rw [Nat.pow_one] at e1; exact e1
  refine (gcd_Least _ 3 3 (fun j => [x1, x2, x3].getD j 0) 3 _ (nums_lit3 _ _ _ _ _ _ _ _ _ _ _ _ w g e hg h1 h2 h3) (by decide) (by decide) (Lib.hid fun j hj => ?_) (by decide) (Lib.hid fun j hj => ?_)).mono ?_
  · rcases j with _ | _ | _ | _ | j
    · show 1 < W ^ 3
      decide
    · exact Nat.lt_of_lt_of_le b1 e1
    · exact Nat.lt_of_lt_of_le b2 e2
    · exact b3
    · omega
  · rcases j with _ | _ | _ | j
    · exact Nat.lt_of_lt_of_le l1 e0
    · exact Nat.lt_of_lt_of_le l2 e0
    · exact Nat.lt_of_lt_of_le l3 e0
    · omega
  · rintro e' w' ⟨A, n, c, rfl, h, hb⟩
    exact ⟨A, n, c, rfl, h, nx (nxa (Below.refl _ _) _) hb⟩
theorem nums_nil (w : World) (X : Nat → Nat) : Nums w none 0 X := fun h => absurd h (by omega)
theorem gcd_All_nil (w : World) : Calls Try.prog 18 #[.slice none 0 0] w (RetNat w 0) :=
  gcd_All none 0 0 (fun _ => 0) 1 w (nums_nil w _) (by decide) (by decide) (Lib.hid (by intro j hj; obtain rfl : j = 0 := (by omega); show 0 < W ^ 1; decide)) (by decide) (Lib.hid fun j hj => absurd hj (by omega))
theorem gcd_Least_nil (w : World) : Calls Try.prog 19 #[.slice none 0 0] w (RetNat w 1) :=
  gcd_Least none 0 0 (fun _ => 0) 1 w (nums_nil w _) (by decide) (by decide) (Lib.hid (by intro j hj; obtain rfl : j = 0 := (by omega); show 1 < W ^ 1; decide)) (by decide) (Lib.hid fun j hj => absurd hj (by omega))
set_option maxHeartbeats 4000000 in
theorem awake5 (w : World) :
    Calls Try.prog 9 #[] w (Ret w (.bool true)) := by
  go_enter Try.func9, Try.ntmps9
  go_wp2_with fail
  refine (nat_Of_lit [12] _ _ _ (by first | rfl | simp) (by decide) (by decide)).mono ?_
  rintro e w1 ⟨A1, n1, c1, rfl, h1, hb1, m1⟩
  have q1 : n1 ≤ 1 := m1
  go_wp2_with fail
  refine (nat_Of_lit [18] _ _ _ (by first | rfl | simp) (by decide) (by decide)).mono ?_
  rintro e w2 ⟨A2, n2, c2, rfl, h2, hb2, m2⟩
  have q2 : n2 ≤ 1 := m2
  go_wp2_with fail
  refine (gcd_Reduce _ _ _ _ _ _ _ _ _ (h1.to bW) (h2.to bW) (by omega) (by omega)).mono ?_
  rintro e w3 ⟨A3, n3, c3, A3', n3', c3', rfl, h3, h3', hb3⟩
  have q3 := h3.le_of _ (Nat.lt_of_le_of_lt (Nat.div_le_self _ _) h1.lt)
  have q3' := h3'.le_of _ (Nat.lt_of_le_of_lt (Nat.div_le_self _ _) h2.lt)
  obtain rfl : n3 = 1 := h3.len_is 0 (by decide) (by decide)
  obtain rfl : n3' = 1 := h3'.len_is 0 (by decide) (by decide)
  go_wp2_with fail
  have X1 := Blk1.newAt w3 (w3.heap.size) 25 (.slice A3 1 c3) (by first | rfl | simp)
  have X2 := Blk1.newAt (w3.alloc (.cells #[.slice A3 1 c3] 25)) (w3.heap.size + 1) 25 (.slice A3' 1 c3') (by first | rfl | simp)
  replace X1 := (show Blk1 ((w3.alloc (.cells #[.slice A3 1 c3] 25)).alloc (.cells #[.slice A3' 1 c3'] 25)) _ _ _ from X1.to bW)
  have hbwe1 : Below w3.heap.size w3 ((w3.alloc (.cells #[.slice A3 1 c3] 25)).alloc (.cells #[.slice A3' 1 c3'] 25)) := bW
  generalize ((w3.alloc (.cells #[.slice A3 1 c3] 25)).alloc (.cells #[.slice A3' 1 c3'] 25)) = we1 at X1 X2 hbwe1  ⊢
  refine (nat_Of none 0 0 0 _ (Dig.nil .u64 W _ none (by decide)) (by decide)).mono ?_
  rintro e w4 ⟨A4, n4, c4, rfl, h4, hb4, m4⟩
  have q4 : n4 ≤ 0 := m4
  go_wp2_with fail
  refine (nat_Of_lit [7] _ _ _ (by first | rfl | simp) (by decide) (by decide)).mono ?_
  rintro e w5 ⟨A5, n5, c5, rfl, h5, hb5, m5⟩
  have q5 : n5 ≤ 1 := m5
  go_wp2_with fail
  refine (gcd_Reduce _ _ _ _ _ _ _ _ _ (h4.to bW) (h5.to bW) (by omega) (by omega)).mono ?_
  rintro e w6 ⟨A6, n6, c6, A6', n6', c6', rfl, h6, h6', hb6⟩
  have q6 := h6.le_of _ (Nat.lt_of_le_of_lt (Nat.div_le_self _ _) h4.lt)
  have q6' := h6'.le_of _ (Nat.lt_of_le_of_lt (Nat.div_le_self _ _) h5.lt)
  obtain rfl : n6 = 0 := h6.zero_iff.1 rfl
  obtain rfl : n6' = 1 := h6'.len_is 0 (by decide) (by decide)
  go_wp2_with fail
  have X3 := Blk1.newAt w6 (w6.heap.size) 25 (.slice A6 0 c6) (by first | rfl | simp)
  have X4 := Blk1.newAt (w6.alloc (.cells #[.slice A6 0 c6] 25)) (w6.heap.size + 1) 25 (.slice A6' 1 c6') (by first | rfl | simp)
  replace X3 := (show Blk1 ((w6.alloc (.cells #[.slice A6 0 c6] 25)).alloc (.cells #[.slice A6' 1 c6'] 25)) _ _ _ from X3.to bW)
  have hbwe2 : Below w6.heap.size w6 ((w6.alloc (.cells #[.slice A6 0 c6] 25)).alloc (.cells #[.slice A6' 1 c6'] 25)) := bW
  have HSwe2 := Lib.hid (show ((w6.alloc (.cells #[.slice A6 0 c6] 25)).alloc (.cells #[.slice A6' 1 c6'] 25)).heap.size = w6.heap.size + 1 + 1 by first | rfl | simp)
  generalize ((w6.alloc (.cells #[.slice A6 0 c6] 25)).alloc (.cells #[.slice A6' 1 c6'] 25)) = we2 at X3 X4 hbwe2 HSwe2 ⊢
  refine (nat_Of_lit [12] _ _ _ (by first | rfl | exact HSwe2.out | simp) (by decide) (by decide)).mono ?_
  rintro e w7 ⟨A7, n7, c7, rfl, h7, hb7, m7⟩
  have q7 : n7 ≤ 1 := m7
  go_wp2_with fail
  refine (nat_Of_lit [18] _ _ _ (by first | rfl | simp) (by decide) (by decide)).mono ?_
  rintro e w8 ⟨A8, n8, c8, rfl, h8, hb8, m8⟩
  have q8 : n8 ≤ 1 := m8
  go_wp2_with fail
  refine (gcd_Of _ _ _ _ _ _ _ _ _ (h7.to bW) (h8.to bW) (by omega) (by omega)).mono ?_
  rintro e w9 ⟨A9, n9, c9, rfl, h9, hb9, q9⟩
  obtain rfl : n9 = 1 := h9.len_is 0 (by decide) (by decide)
  go_wp2_with fail
  refine (law_Is_lit [6] _ _ _ _ _ _ _ (by first | rfl | simp) (h9.to bW) (by decide) (by omega) (by decide)).mono ?_
  rw [show (decide (_ = List.length _ ∧ _ = _)) = true from by decide]
  rintro e w10 ⟨rfl, hb10⟩
  go_wp2_with fail
  refine (nat_Of none 0 0 0 _ (Dig.nil .u64 W _ none (by decide)) (by decide)).mono ?_
  rintro e w11 ⟨A11, n11, c11, rfl, h11, hb11, m11⟩
  have q11 : n11 ≤ 0 := m11
  go_wp2_with fail
  refine (nat_Of_lit [5] _ _ _ (by first | rfl | simp) (by decide) (by decide)).mono ?_
  rintro e w12 ⟨A12, n12, c12, rfl, h12, hb12, m12⟩
  have q12 : n12 ≤ 1 := m12
  go_wp2_with fail
  refine (gcd_Of _ _ _ _ _ _ _ _ _ (h11.to bW) (h12.to bW) (by omega) (by omega)).mono ?_
  rintro e w13 ⟨A13, n13, c13, rfl, h13, hb13, q13⟩
  obtain rfl : n13 = 1 := h13.len_is 0 (by decide) (by decide)
  go_wp2_with fail
  refine (law_Is_lit [5] _ _ _ _ _ _ _ (by first | rfl | simp) (h13.to bW) (by decide) (by omega) (by decide)).mono ?_
  rw [show (decide (_ = List.length _ ∧ _ = _)) = true from by decide]
  rintro e w14 ⟨rfl, hb14⟩
  go_wp2_with fail
  refine (nat_Of_lit [4] _ _ _ (by first | rfl | simp) (by decide) (by decide)).mono ?_
  rintro e w15 ⟨A15, n15, c15, rfl, h15, hb15, m15⟩
  have q15 : n15 ≤ 1 := m15
  go_wp2_with fail
  refine (nat_Of_lit [6] _ _ _ (by first | rfl | simp) (by decide) (by decide)).mono ?_
  rintro e w16 ⟨A16, n16, c16, rfl, h16, hb16, m16⟩
  have q16 : n16 ≤ 1 := m16
  go_wp2_with fail
  refine (gcd_Lcm _ _ _ _ _ _ _ _ _ (h15.to bW) (h16.to bW) (by omega)).mono ?_
  rintro e w17 ⟨A17, n17, c17, rfl, h17, hb17⟩
  have q17 := h17.le_of _ (lcm_fit h15.lt h16.lt)
  obtain rfl : n17 = 1 := h17.len_is 0 (by decide) (by decide)
  go_wp2_with fail
  refine (law_Is_lit [12] _ _ _ _ _ _ _ (by first | rfl | simp) (h17.to bW) (by decide) (by omega) (by decide)).mono ?_
  rw [show (decide (_ = List.length _ ∧ _ = _)) = true from by decide]
  rintro e w18 ⟨rfl, hb18⟩
  have d1 := (show Blk1 w18 _ _ _ from X1.to bW).cell
  go_wp2_with fail
  clear d1
  refine (law_Is_lit [2] _ _ _ _ _ _ _ (by first | rfl | simp) (h3.to bW) (by decide) (by omega) (by decide)).mono ?_
  rw [show (decide (_ = List.length _ ∧ _ = _)) = true from by decide]
  rintro e w19 ⟨rfl, hb19⟩
  have d2 := (show Blk1 w19 _ _ _ from X2.to bW).cell
  go_wp2_with fail
  clear d2
  refine (law_Is_lit [3] _ _ _ _ _ _ _ (by first | rfl | simp) (h3'.to bW) (by decide) (by omega) (by decide)).mono ?_
  rw [show (decide (_ = List.length _ ∧ _ = _)) = true from by decide]
  rintro e w20 ⟨rfl, hb20⟩
  have d3 := (show Blk1 w20 _ _ _ from X3.to bW).cell
  go_wp2_with fail
  clear d3
  refine (nat_Zero _ _ _ _ _ (h6.to bW)).mono ?_
  rw [decide_eq_true (show (0 : Nat) / Nat.gcd 0 (val W [7]) = 0 from by decide)]
  rintro e w21 ⟨rfl, hb21⟩
  have d4 := (show Blk1 w21 _ _ _ from X4.to bW).cell
  go_wp2_with fail
  clear d4
  refine (law_Is_lit [1] _ _ _ _ _ _ _ (by first | rfl | simp) (h6'.to bW) (by decide) (by omega) (by decide)).mono ?_
  rw [show (decide (_ = List.length _ ∧ _ = _)) = true from by decide]
  rintro e w22 ⟨rfl, hb22⟩
  go_wp2_with fail
  refine (gcd_All_nil _).mono ?_
  rintro e w23 ⟨A23, n23, c23, rfl, h23, hb23⟩
  have q23 := h23.le_of 0 (by decide)
  go_wp2_with fail
  refine (nat_Zero _ _ _ _ _ (h23.to bW)).mono ?_
  rw [decide_eq_true (show (0 : Nat) = 0 from rfl)]
  rintro e w24 ⟨rfl, hb24⟩
  go_wp2_with fail
  refine (nat_Of_lit [2] _ _ _ (by first | rfl | simp) (by decide) (by decide)).mono ?_
  rintro e w25 ⟨A25, n25, c25, rfl, h25, hb25, m25⟩
  have q25 : n25 ≤ 1 := m25
  go_wp2_with fail
  refine (nat_Of_lit [3] _ _ _ (by first | rfl | simp) (by decide) (by decide)).mono ?_
  rintro e w26 ⟨A26, n26, c26, rfl, h26, hb26, m26⟩
  have q26 : n26 ≤ 1 := m26
  go_wp2_with fail
  refine (nat_Of_lit [4] _ _ _ (by first | rfl | simp) (by decide) (by decide)).mono ?_
  rintro e w27 ⟨A27, n27, c27, rfl, h27, hb27, m27⟩
  have q27 : n27 ≤ 1 := m27
  go_wp2_with fail
  refine (gcd_Least_lit3 _ _ _ _ _ _ _ _ _ _ _ _ _ _ _ (by first | rfl | simp) (h25.to bW) (h26.to bW) (h27.to bW) (by decide) (by decide) (by decide)).mono ?_
  rintro e w28 ⟨A28, n28, c28, rfl, h28, hb28⟩
  obtain rfl : n28 = 1 := h28.len_is 0 (by decide) (by decide)
  go_wp2_with fail
  refine (law_Is_lit [12] _ _ _ _ _ _ _ (by first | rfl | simp) (h28.to bW) (by decide) (by omega) (by decide)).mono ?_
  rw [show (decide (_ = List.length _ ∧ _ = _)) = true from by decide]
  rintro e w29 ⟨rfl, hb29⟩
  go_wp2_with fail
  go_ret
  exact ⟨rfl, bW⟩
end Go.Proofs.Ythjokpnihoigeaa
