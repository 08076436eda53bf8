/- The walk of 'IntegerInts'. -/
import Derived.Test.YtihbpkljjmpkjaaAwake7
import Derived.Test.YtihbpkljjmpkjaaTxtLaw3
set_option linter.unusedVariables false
set_option linter.unusedSimpArgs false
namespace Go.Proofs.Ytihbpkljjmpkjaa
open Go.RowKit
set_option maxRecDepth 100000
theorem ints_mul {p q : Int} (p0 : -1073741824 ≤ p) (p1 : p ≤ 1073741823) (q0 : -1073741824 ≤ q) (q1 : q ≤ 1073741823) : -1152921504606846976 ≤ p * q ∧ p * q ≤ 1152921504606846976 := by
  have h1 : (p * q).natAbs ≤ 1073741824 * 1073741824 := by rw [Int.natAbs_mul]; exact Nat.mul_le_mul (by omega) (by omega)
  omega
set_option maxHeartbeats 8000000 in
theorem law_IntegerInts (i a b : Int) (w : World)  (hi : -9223372036854775808 ≤ i) (hi' : i ≤ 9223372036854775807) (ha : -2147483648 ≤ a) (ha' : a ≤ 2147483647) (hb : -2147483648 ≤ b) (hb' : b ≤ 2147483647) :
    Calls Try.prog 7 #[.int .i64 i, .int .i32 a, .int .i32 b] w (Ret w (.bool true)) := by
  obtain ⟨p, hp⟩ : ∃ p, p = a / 2 := ⟨_, rfl⟩
  obtain ⟨q, hq⟩ : ∃ q, q = b / 2 := ⟨_, rfl⟩
  have p0 : -1073741824 ≤ p := by omega
  have p1 : p ≤ 1073741823 := by omega
  have q0 : -1073741824 ≤ q := by omega
  have q1 : q ≤ 1073741823 := by omega
  have HP := Lib.hid hp
  have HQ := Lib.hid hq
  clear hp hq
  obtain ⟨m0, m1⟩ := ints_mul p0 p1 q0 q1
  obtain ⟨d, hd, hd0⟩ : ∃ d, cmpZ p q = d ∧ (d < 0 ↔ p < q) := ⟨_, rfl, by have := @cmpZ_nonpos q p; rw [cmpZ_swap] at this; omega⟩
  have HD := Lib.hid hd
  have zq : (decide (d < 0) == decide (p < q)) = true := by rw [show decide (d < 0) = decide (p < q) from decide_eq_decide.2 hd0]; exact beq_self_eq_true _
  clear hd hd0
  go_enter Try.func7, Try.ntmps7
  go_wp2_with fail
  refine (awake7 _).mono ?_
  rintro e w1 ⟨rfl, hb1⟩
  go_wp2_with fail
  rw [← HP.out, ← HQ.out]
  refine (integer_Of (p) _ (by omega) (by omega)).mono ?_
  rintro e w2 ⟨A2, n2, c2, rfl, h2, hb2⟩
  have q2 := h2.le_of 1 (by rw [Nat.pow_one]; unfold W; omega)
  go_wp2_with fail
  refine (integer_Of (q) _ (by omega) (by omega)).mono ?_
  rintro e w3 ⟨A3, n3, c3, rfl, h3, hb3⟩
  have q3 := h3.le_of 1 (by rw [Nat.pow_one]; unfold W; omega)
  go_wp2_with fail
  have X1 := Blk2.newAt w3 (w3.heap.size) 29 (.bool (bz p)) (.slice A2 n2 c2) (by first | rfl | simp)
  have X2 := Blk2.newAt (w3.alloc (.cells #[.bool (bz p), .slice A2 n2 c2] 29)) (w3.heap.size + 1) 29 (.bool (bz q)) (.slice A3 n3 c3) (by first | rfl | simp)
  replace X1 := (show Blk2 ((w3.alloc (.cells #[.bool (bz p), .slice A2 n2 c2] 29)).alloc (.cells #[.bool (bz q), .slice A3 n3 c3] 29)) _ _ _ _ from X1.to bW)
  have hbwe1 : Below w3.heap.size w3 ((w3.alloc (.cells #[.bool (bz p), .slice A2 n2 c2] 29)).alloc (.cells #[.bool (bz q), .slice A3 n3 c3] 29)) := bW
  generalize ((w3.alloc (.cells #[.bool (bz p), .slice A2 n2 c2] 29)).alloc (.cells #[.bool (bz q), .slice A3 n3 c3] 29)) = we1 at X1 X2 hbwe1  ⊢
  refine (integer_Of (i) _ (by omega) (by omega)).mono ?_
  rintro e w4 ⟨A4, n4, c4, rfl, h4, hb4⟩
  have q4 := h4.le_of 1 (by rw [Nat.pow_one]; unfold W; omega)
  go_wp2_with fail
  refine (law7_is _ _ _ i _ (h4.to bW) (i)).mono ?_
  rw [decide_eq_true (show isInt (i) ∧ (i : Int) = i from ⟨⟨by omega, by omega⟩, rfl⟩)]
  rintro e w5 ⟨rfl, hb5⟩
  have d1 := (show Blk2 w5 _ _ _ _ from X1.to bW).cell
  have d1' := (show Blk2 w5 _ _ _ _ from X1.to bW).cell1
  have d2 := (show Blk2 w5 _ _ _ _ from X2.to bW).cell
  have d2' := (show Blk2 w5 _ _ _ _ from X2.to bW).cell1
  go_wp2_with fail
  clear d1 d1' d2 d2'
  refine (integer_Add _ _ _ p _ _ _ q _ (h2.to bW) (h3.to bW) (by omega) (by omega)).mono ?_
  rintro e w6 ⟨A6, n6, c6, rfl, h6, hb6⟩
  have q6 := h6.le_of _ (zadd_lt h2.lt h3.lt)
  go_wp2_with fail
  refine (law7_is _ _ _ (p + q) _ (h6.to bW) (p + q)).mono ?_
  rw [decide_eq_true (show isInt (p + q) ∧ (p + q : Int) = p + q from ⟨⟨by omega, by omega⟩, rfl⟩)]
  rintro e w7 ⟨rfl, hb7⟩
  have d3 := (show Blk2 w7 _ _ _ _ from X1.to bW).cell
  have d3' := (show Blk2 w7 _ _ _ _ from X1.to bW).cell1
  have d4 := (show Blk2 w7 _ _ _ _ from X2.to bW).cell
  have d4' := (show Blk2 w7 _ _ _ _ from X2.to bW).cell1
  go_wp2_with fail
  clear d3 d3' d4 d4'
  refine (integer_Sub _ _ _ p _ _ _ q _ (h2.to bW) (h3.to bW) (by omega) (by omega)).mono ?_
  rintro e w8 ⟨A8, n8, c8, rfl, h8, hb8⟩
  have q8 := h8.le_of _ (zsub_lt h2.lt h3.lt)
  go_wp2_with fail
  refine (law7_is _ _ _ (p - q) _ (h8.to bW) (p - q)).mono ?_
  rw [decide_eq_true (show isInt (p - q) ∧ (p - q : Int) = p - q from ⟨⟨by omega, by omega⟩, rfl⟩)]
  rintro e w9 ⟨rfl, hb9⟩
  have d5 := (show Blk2 w9 _ _ _ _ from X1.to bW).cell
  have d5' := (show Blk2 w9 _ _ _ _ from X1.to bW).cell1
  have d6 := (show Blk2 w9 _ _ _ _ from X2.to bW).cell
  have d6' := (show Blk2 w9 _ _ _ _ from X2.to bW).cell1
  go_wp2_with fail
  clear d5 d5' d6 d6'
  refine (integer_Mul _ _ _ p _ _ _ q _ (h2.to bW) (h3.to bW) (by omega) (by omega)).mono ?_
  rintro e w10 ⟨A10, n10, c10, rfl, h10, hb10⟩
  have q10 := h10.le_of _ (zmul_lt h2.lt h3.lt)
  go_wp2_with fail
  refine (law7_is _ _ _ (p * q) _ (h10.to bW) (p * q)).mono ?_
  rw [decide_eq_true (show isInt (p * q) ∧ (p * q : Int) = p * q from ⟨⟨by omega, by omega⟩, rfl⟩)]
  rintro e w11 ⟨rfl, hb11⟩
  have d7 := (show Blk2 w11 _ _ _ _ from X1.to bW).cell
  have d7' := (show Blk2 w11 _ _ _ _ from X1.to bW).cell1
  have d8 := (show Blk2 w11 _ _ _ _ from X2.to bW).cell
  have d8' := (show Blk2 w11 _ _ _ _ from X2.to bW).cell1
  go_wp2_with fail
  clear d7 d7' d8 d8'
  refine (integer_Cmp _ _ _ p _ _ _ q _ (h2.to bW) (h3.to bW)).mono ?_
  rw [HD.out]
  rintro e w12 ⟨rfl, hb12⟩
  go_wp2_with fail
  go_ret
  exact ⟨rfl, bW⟩
end Go.Proofs.Ytihbpkljjmpkjaa
