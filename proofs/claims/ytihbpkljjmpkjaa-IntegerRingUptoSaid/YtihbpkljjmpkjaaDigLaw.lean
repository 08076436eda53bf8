/- Plain law of bytes: a word's bytes, digits the other way round one by one, words made of bytes. No program in sight. -/
import Derived.Test.YtihbpkljjmpkjaaRev
import Derived.Test.YtihbpkljjmpkjaaKB
set_option linter.unusedVariables false
set_option linter.unusedSimpArgs false
namespace Go.Proofs.Ytihbpkljjmpkjaa
theorem rv_succ {b : Nat} : ∀ (k x : Nat), rv b (k + 1) x = rv b k x * b + dg b k x
  | 0, x => by simp [rv, dg]
  | k + 1, x => by
    rw [rv, rv_succ k (x / b), dg_div, rv, Nat.pow_succ, Nat.add_mul]
    rw [Nat.mul_assoc (x % b)]
    omega
theorem pow256 (k : Nat) : 256 ^ k = W ^ (k / 8) * 2 ^ (8 * (k % 8)) := by
  rw [W_pow, ← Nat.pow_add, show 256 = 2 ^ 8 by decide, ← Nat.pow_mul]
  congr 1
  omega
theorem byte_at (x k : Nat) : dg W (k / 8) x / 2 ^ (8 * (k % 8)) % 256 = dg 256 k x := by
  unfold dg
  rw [pow256, ← Nat.div_div_eq_div_mul]
  generalize x / W ^ (k / 8) = y
  have e2 : W = 2 ^ (8 * (k % 8)) * (256 * 2 ^ (56 - 8 * (k % 8))) := by
    rw [show 256 = 2 ^ 8 by decide, ← Nat.pow_add, ← Nat.pow_add, W_eq]; congr 1; omega
  rw [e2, Nat.mod_mul_right_div_self, Nat.mod_mul_right_mod]
theorem words_fit (n : Nat) : 256 ^ n ≤ W ^ ((n + 7) / 8) := by
  rw [W_pow, show 256 = 2 ^ 8 by decide, ← Nat.pow_mul]
  exact Nat.pow_le_pow_right (by decide) (by omega)
/-- one more byte laid into a row of words -/
theorem byte_in {Y k d : Nat} (hY : Y < 256 ^ k) (hd : d < 256) :
    dg W (k / 8) Y < 2 ^ (8 * (k % 8)) ∧ dg W (k / 8) Y ||| d * 2 ^ (8 * (k % 8)) = dg W (k / 8) Y + d * 2 ^ (8 * (k % 8)) ∧ dg W (k / 8) Y + d * 2 ^ (8 * (k % 8)) < W ∧
    put W (k / 8) Y (dg W (k / 8) Y + d * 2 ^ (8 * (k % 8))) = Y + d * 256 ^ k := by
  have hp := pow256 k
  have hs : 2 ^ (8 * (k % 8)) * 256 ≤ W := by
    rw [show 256 = 2 ^ 8 by decide, ← Nat.pow_add, W_eq]; exact Nat.pow_le_pow_right (by decide) (by omega)
  have hW1 : W ^ (k / 8) * 2 ^ (8 * (k % 8)) ≤ W ^ (k / 8 + 1) := by
    rw [Nat.pow_succ]; exact Nat.mul_le_mul_left _ (by omega)
  have hlt : Y < W ^ (k / 8 + 1) := by omega
  have hdg : dg W (k / 8) Y = Y / W ^ (k / 8) := top_digit hlt
  have h1 : dg W (k / 8) Y < 2 ^ (8 * (k % 8)) := by
    rw [hdg]; exact Nat.div_lt_of_lt_mul (by rw [← hp]; exact hY)
  have hadd : dg W (k / 8) Y + d * 2 ^ (8 * (k % 8)) < 2 ^ (8 * (k % 8)) * 256 := by
    have h2 : (d + 1) * 2 ^ (8 * (k % 8)) ≤ 256 * 2 ^ (8 * (k % 8)) := Nat.mul_le_mul_right _ hd
    rw [Nat.add_mul, Nat.one_mul, Nat.mul_comm 256] at h2
    omega
  refine ⟨h1, ?_, by omega, ?_⟩
  · rw [Nat.or_comm, Nat.mul_comm d, ← Nat.two_pow_add_eq_or_of_lt h1, Nat.add_comm]
  · unfold put
    rw [Nat.div_eq_of_lt hlt, Nat.zero_mul, Nat.add_zero, Nat.add_mul, ← Nat.add_assoc]
    have h3 := low_succ W (k / 8) Y
    rw [Nat.mod_eq_of_lt hlt] at h3
    rw [← h3, hp, Nat.mul_assoc, Nat.mul_comm (2 ^ (8 * (k % 8)))]
end Go.Proofs.Ytihbpkljjmpkjaa
