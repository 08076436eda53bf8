/- The document's examples of layer 7. -/
import Derived.Test.YtihbpkljjmpkjaaLaw7
set_option linter.unusedVariables false
set_option linter.unusedSimpArgs false
namespace Go.Proofs.Ytihbpkljjmpkjaa
open Go.RowKit
set_option maxRecDepth 100000
set_option maxHeartbeats 4000000 in
theorem awake7 (w : World) :
    Calls Try.prog 11 #[] w (Ret w (.bool true)) := by
  go_enter Try.func11, Try.ntmps11
  go_wp2_with fail
  refine (integer_Of ((-7)) _ (by decide) (by decide)).mono ?_
  rintro e w1 ⟨A1, n1, c1, rfl, h1, hb1⟩
  have q1 := h1.le_of 1 (by decide)
  go_wp2_with fail
  refine (integer_Of (2) _ (by decide) (by decide)).mono ?_
  rintro e w2 ⟨A2, n2, c2, rfl, h2, hb2⟩
  have q2 := h2.le_of 1 (by decide)
  go_wp2_with fail
  refine (integer_Div_pos _ _ _ (-7) _ _ _ 2 _ (h1.to bW) (h2.to bW) (by omega) (by omega) (by decide)).mono ?_
  rw [show dq (-7) 2 = (-4) from by decide, show dr (-7) 2 = 1 from by decide]
  rintro e w3 ⟨A3, n3, c3, A3', n3', c3', rfl, h3, h3', hb3⟩
  go_wp2_with fail
  have X1 := Blk2.newAt w3 (w3.heap.size) 29 (.bool (bz (-4))) (.slice A3 n3 c3) (by first | rfl | simp)
  have X2 := Blk2.newAt (w3.alloc (.cells #[.bool (bz (-4)), .slice A3 n3 c3] 29)) (w3.heap.size + 1) 29 (.bool (bz 1)) (.slice A3' n3' c3') (by first | rfl | simp)
  replace X1 := (show Blk2 ((w3.alloc (.cells #[.bool (bz (-4)), .slice A3 n3 c3] 29)).alloc (.cells #[.bool (bz 1), .slice A3' n3' c3'] 29)) _ _ _ _ from X1.to bW)
  have hbwe1 : Below w3.heap.size w3 ((w3.alloc (.cells #[.bool (bz (-4)), .slice A3 n3 c3] 29)).alloc (.cells #[.bool (bz 1), .slice A3' n3' c3'] 29)) := bW
  generalize ((w3.alloc (.cells #[.bool (bz (-4)), .slice A3 n3 c3] 29)).alloc (.cells #[.bool (bz 1), .slice A3' n3' c3'] 29)) = we1 at X1 X2 hbwe1  ⊢
  refine (integer_Of (7) _ (by decide) (by decide)).mono ?_
  rintro e w4 ⟨A4, n4, c4, rfl, h4, hb4⟩
  have q4 := h4.le_of 1 (by decide)
  go_wp2_with fail
  refine (integer_Of ((-2)) _ (by decide) (by decide)).mono ?_
  rintro e w5 ⟨A5, n5, c5, rfl, h5, hb5⟩
  have q5 := h5.le_of 1 (by decide)
  go_wp2_with fail
  refine (integer_Div_pos _ _ _ 7 _ _ _ (-2) _ (h4.to bW) (h5.to bW) (by omega) (by omega) (by decide)).mono ?_
  rw [show dq 7 (-2) = (-4) from by decide, show dr 7 (-2) = (-1) from by decide]
  rintro e w6 ⟨A6, n6, c6, A6', n6', c6', rfl, h6, h6', hb6⟩
  go_wp2_with fail
  have X3 := Blk2.newAt w6 (w6.heap.size) 29 (.bool (bz (-4))) (.slice A6 n6 c6) (by first | rfl | simp)
  have X4 := Blk2.newAt (w6.alloc (.cells #[.bool (bz (-4)), .slice A6 n6 c6] 29)) (w6.heap.size + 1) 29 (.bool (bz (-1))) (.slice A6' n6' c6') (by first | rfl | simp)
  replace X3 := (show Blk2 ((w6.alloc (.cells #[.bool (bz (-4)), .slice A6 n6 c6] 29)).alloc (.cells #[.bool (bz (-1)), .slice A6' n6' c6'] 29)) _ _ _ _ from X3.to bW)
  have hbwe2 : Below w6.heap.size w6 ((w6.alloc (.cells #[.bool (bz (-4)), .slice A6 n6 c6] 29)).alloc (.cells #[.bool (bz (-1)), .slice A6' n6' c6'] 29)) := bW
  generalize ((w6.alloc (.cells #[.bool (bz (-4)), .slice A6 n6 c6] 29)).alloc (.cells #[.bool (bz (-1)), .slice A6' n6' c6'] 29)) = we2 at X3 X4 hbwe2  ⊢
  refine (integer_Of ((-9223372036854775808)) _ (by decide) (by decide)).mono ?_
  rintro e w7 ⟨A7, n7, c7, rfl, h7, hb7⟩
  have q7 := h7.le_of 1 (by decide)
  go_wp2_with fail
  refine (integer_Neg _ _ _ (-9223372036854775808) _ (h7.to bW)).mono ?_
  rw [show -(-9223372036854775808 : Int) = 9223372036854775808 from by decide]
  rintro e w8 ⟨A8, n8, c8, rfl, h8, hb8⟩
  have q8 := h8.le_of _ (show (-(-9223372036854775808)).natAbs < _ by rw [Int.natAbs_neg]; exact h7.lt)
  go_wp2_with fail
  refine (integer_Int_no _ _ _ 9223372036854775808 _ (h8.to bW) (by decide)).mono ?_
  rintro e w9 ⟨rfl, hb9⟩
  go_wp2_with fail
  refine (integer_Read ⟨#[45, 48]⟩ _ (by decide)).mono ?_
  rw [show zv ⟨#[45, 48]⟩ = 0 from by decide, decide_eq_false (show ¬ okz ⟨#[45, 48]⟩ from by decide)]
  rintro e w10 ⟨A10, n10, c10, rfl, h10, hb10⟩
  have d1 := (show Blk2 (w10.alloc (.cells #[.bool (bz 0), .slice A10 n10 c10] 29)) _ _ _ _ from X1.to bW).cell
  have d1' := (show Blk2 (w10.alloc (.cells #[.bool (bz 0), .slice A10 n10 c10] 29)) _ _ _ _ from X1.to bW).cell1
  go_wp2_with fail
  clear d1 d1'
  have X5 := Blk2.newAt w10 (w10.heap.size) 29 (.bool (bz 0)) (.slice A10 n10 c10) (by first | rfl | simp)
  have hbwe3 : Below w10.heap.size w10 (w10.alloc (.cells #[.bool (bz 0), .slice A10 n10 c10] 29)) := bW
  generalize (w10.alloc (.cells #[.bool (bz 0), .slice A10 n10 c10] 29)) = we3 at X5 hbwe3  ⊢
  refine (law7_is _ _ _ (-4) _ (h3.to bW) ((-4))).mono ?_
  rw [decide_eq_true (show isInt (-4) ∧ ((-4) : Int) = (-4) from by decide)]
  rintro e w11 ⟨rfl, hb11⟩
  have d2 := (show Blk2 w11 _ _ _ _ from X2.to bW).cell
  have d2' := (show Blk2 w11 _ _ _ _ from X2.to bW).cell1
  go_wp2_with fail
  clear d2 d2'
  refine (law7_is _ _ _ 1 _ (h3'.to bW) (1)).mono ?_
  rw [decide_eq_true (show isInt 1 ∧ (1 : Int) = 1 from by decide)]
  rintro e w12 ⟨rfl, hb12⟩
  have d3 := (show Blk2 w12 _ _ _ _ from X3.to bW).cell
  have d3' := (show Blk2 w12 _ _ _ _ from X3.to bW).cell1
  go_wp2_with fail
  clear d3 d3'
  refine (law7_is _ _ _ (-4) _ (h6.to bW) ((-4))).mono ?_
  rw [decide_eq_true (show isInt (-4) ∧ ((-4) : Int) = (-4) from by decide)]
  rintro e w13 ⟨rfl, hb13⟩
  have d4 := (show Blk2 w13 _ _ _ _ from X4.to bW).cell
  have d4' := (show Blk2 w13 _ _ _ _ from X4.to bW).cell1
  go_wp2_with fail
  clear d4 d4'
  refine (law7_is _ _ _ (-1) _ (h6'.to bW) ((-1))).mono ?_
  rw [decide_eq_true (show isInt (-1) ∧ ((-1) : Int) = (-1) from by decide)]
  rintro e w14 ⟨rfl, hb14⟩
  go_wp2_with fail
  refine (integer_Of ((-12)) _ (by decide) (by decide)).mono ?_
  rintro e w15 ⟨A15, n15, c15, rfl, h15, hb15⟩
  have q15 := h15.le_of 1 (by decide)
  go_wp2_with fail
  refine (integer_Text _ _ _ (-12) _ (h15.to bW) (by omega)).mono ?_
  rw [show ztx (-12) = [45, 49, 50] from by decide]
  rintro e w16 ⟨rfl, hb16⟩
  go_wp2_with fail
  go_ret
  exact ⟨rfl, bW⟩
end Go.Proofs.Ytihbpkljjmpkjaa
