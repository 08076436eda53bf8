/- Plain law: a number shifted up till its highest bit is 1. -/
import Derived.Test.YtflleaifmeiikaaQuot
set_option linter.unusedVariables false
namespace Go.Proofs.Ytflleaifmeiikaa
theorem norm_top {y m : Nat} (h1 : y < W ^ (m + 1)) (h2 : W ^ m ≤ y) :
    lead (dg W m y) ≤ 63 ∧ y * 2 ^ lead (dg W m y) < W ^ (m + 1) ∧ 9223372036854775808 * W ^ m ≤ y * 2 ^ lead (dg W m y) := by
  have hp : 0 < W ^ m := Nat.pow_pos W_pos
  have ht := top_digit h1
  have htw := dg_lt W_pos m y
  have hne : dg W m y ≠ 0 := by rw [ht]; have := Nat.div_pos h2 hp; omega
  obtain ⟨b1, b2, b3, b4⟩ := lead_bounds hne htw
  have e1 : y / W ^ m * W ^ m ≤ y := Nat.div_mul_le_self _ _
  have e2 : y < (y / W ^ m + 1) * W ^ m := by rw [Nat.mul_comm]; exact Nat.lt_mul_div_succ _ hp
  rw [← ht] at e1 e2
  have hb := blen_lt (dg W m y)
  unfold lead
  generalize blen (dg W m y) = b at *
  generalize dg W m y = t at *
  have hs : 0 < 2 ^ (64 - b) := Nat.pow_pos (by decide)
  refine ⟨by omega, ?_, ?_⟩
  · have c1 : y * 2 ^ (64 - b) < (t + 1) * W ^ m * 2 ^ (64 - b) := Nat.mul_lt_mul_of_pos_right e2 hs
    have c2 : (t + 1) * 2 ^ (64 - b) ≤ 2 ^ b * 2 ^ (64 - b) := Nat.mul_le_mul_right _ hb
    rw [← Nat.pow_add, show b + (64 - b) = 64 by omega, ← W_eq] at c2
    have c3 : (t + 1) * 2 ^ (64 - b) * W ^ m ≤ W * W ^ m := Nat.mul_le_mul_right _ c2
    rw [Nat.pow_succ, Nat.mul_comm (W ^ m) W]
    rw [Nat.mul_right_comm] at c1
    omega
  · have c1 : t * W ^ m * 2 ^ (64 - b) ≤ y * 2 ^ (64 - b) := Nat.mul_le_mul_right _ e1
    have c2 : 9223372036854775808 * W ^ m ≤ t * 2 ^ (64 - b) * W ^ m := Nat.mul_le_mul_right _ b4
    rw [Nat.mul_right_comm] at c1
    omega
end Go.Proofs.Ytflleaifmeiikaa
