/- Plain law of texts of digits: digits the other way round; digits told as letters; a number's length in digits. No program in sight. -/
import Derived.Test.YtihbpkljjmpkjaaKE
set_option linter.unusedVariables false
set_option linter.unusedSimpArgs false
namespace Go.Proofs.Ytihbpkljjmpkjaa
/-- n digits the other way round -/
def rv (b : Nat) : Nat → Nat → Nat
  | 0, _ => 0
  | n + 1, y => rv b n (y / b) + y % b * b ^ n
theorem rv_lt {b : Nat} (hb : 0 < b) : ∀ n y, rv b n y < b ^ n
  | 0, _ => by simp [rv]
  | n + 1, y => by
    rw [rv]
    exact add_lt_succ (rv_lt hb n (y / b)) (Nat.mod_lt _ hb)
theorem dg_div (b j y : Nat) : dg b j (y / b) = dg b (j + 1) y := by
  unfold dg
  rw [Nat.div_div_eq_div_mul, Nat.pow_succ, Nat.mul_comm b]
theorem dg_rv {b : Nat} (hb : 0 < b) : ∀ {n y j : Nat}, j < n → dg b j (rv b n y) = dg b (n - 1 - j) y
  | 0, _, _, h => absurd h (by omega)
  | n + 1, y, j, h => by
    rw [rv]
    rcases Nat.lt_or_ge j n with h1 | h1
    · rw [dg_add_hi hb h1, dg_rv hb h1, dg_div]
      congr 1; omega
    · obtain rfl : j = n := by omega
      rw [dg_add_at (rv_lt hb j _) (Nat.mod_lt _ hb), show j + 1 - 1 - j = 0 by omega]
      simp [dg]
theorem rv_rv {b : Nat} (hb : 0 < b) {n y : Nat} (hy : y < b ^ n) : rv b n (rv b n y) = y := by
  apply dg_ext (rv_lt hb _ _) hy
  intro j hj
  rw [dg_rv hb hj, dg_rv hb (by omega)]
  congr 1; omega
/-- digits of x to the base b, n of them, each with a number added, as digits to a greater base -/
def asc (B b a : Nat) : Nat → Nat → Nat
  | 0, _ => 0
  | n + 1, x => asc B b a n x + (a + dg b n x) * B ^ n
theorem asc_lt {B b a : Nat} (hb : 0 < b) (h : a + b ≤ B) : ∀ n x, asc B b a n x < B ^ n
  | 0, _ => by simp [asc]
  | n + 1, x => by
    rw [asc]
    exact add_lt_succ (asc_lt hb h n x) (by have := dg_lt hb n x; omega)
theorem dg_asc {B b a : Nat} (hb : 0 < b) (h : a + b ≤ B) : ∀ {n x j : Nat}, j < n → dg B j (asc B b a n x) = a + dg b j x
  | 0, _, _, hj => absurd hj (by omega)
  | n + 1, x, j, hj => by
    rw [asc]
    have hd := dg_lt hb n x
    rcases Nat.lt_or_ge j n with h1 | h1
    · rw [dg_add_hi (by omega) h1, dg_asc hb h h1]
    · obtain rfl : j = n := by omega
      exact dg_add_at (asc_lt hb h j x) (by omega)
theorem asc_up {B b a : Nat} (n : Nat) : ∀ m x y, (∀ j, j < m → dg b (n + j) x = dg b j y) → asc B b a (n + m) x = asc B b a n x + asc B b a m y * B ^ n
  | 0, x, y, _ => by simp [asc]
  | m + 1, x, y, h => by
    rw [show n + (m + 1) = n + m + 1 from rfl, asc, asc_up n m x y (fun j hj => h j (by omega)), asc, h m (by omega), Nat.pow_add, Nat.mul_comm (B ^ n), ← Nat.mul_assoc, Nat.add_mul (asc B b a m y), Nat.add_assoc]
/-- how many digits a number has: 0 has none -/
def IsLen (b x n : Nat) : Prop := x < b ^ n ∧ (0 < n → b ^ (n - 1) ≤ x)
theorem isLen_unique {b x n m : Nat} (hb : 2 ≤ b) (h : IsLen b x n) (h' : IsLen b x m) : n = m := by
  have key : ∀ {i j : Nat}, IsLen b x i → IsLen b x j → i ≤ j := by
    intro i j hi hj
    rcases Nat.eq_zero_or_pos i with h0 | h0
    · omega
    · rcases Nat.lt_or_ge j i with h1 | h1
      · have := Nat.pow_le_pow_right (show 0 < b by omega) (show j ≤ i - 1 by omega)
        have := hi.2 h0
        have := hj.1
        omega
      · exact h1
  exact Nat.le_antisymm (key h h') (key h' h)
theorem isLen_exists {b : Nat} (hb : 2 ≤ b) (x : Nat) : ∃ n, IsLen b x n := by
  have hx : ∃ m, x < b ^ m := ⟨x, Nat.lt_pow_self (by omega)⟩
  obtain ⟨m, hm⟩ := hx
  induction m with
  | zero => exact ⟨0, hm, fun h => absurd h (by omega)⟩
  | succ m ih =>
    rcases Nat.lt_or_ge x (b ^ m) with h | h
    · exact ih h
    · exact ⟨m + 1, hm, fun _ => by simpa using h⟩
theorem isLen_zero (b : Nat) : IsLen b 0 0 := ⟨by simp, fun h => absurd h (by omega)⟩
theorem isLen_pos {b x n : Nat} (h : IsLen b x n) (hx : 0 < x) : 0 < n := by
  rcases Nat.eq_zero_or_pos n with h0 | h0
  · subst h0; have := h.1; simp at this; omega
  · exact h0
/-- the top digit is not 0 -/
theorem isLen_top {b x n : Nat} (hb : 0 < b) (h : IsLen b x (n + 1)) : dg b n x ≠ 0 := by
  have h1 := h.2 (by omega)
  simp only [Nat.add_sub_cancel] at h1
  have hp : 0 < b ^ n := Nat.pow_pos hb
  have h2 : dg b n x = x / b ^ n := by
    unfold dg
    rw [Nat.mod_eq_of_lt]
    apply Nat.div_lt_of_lt_mul
    rw [← Nat.pow_succ]; exact h.1
  rw [h2]
  have := Nat.div_pos h1 hp
  omega
theorem isLen_of_top {b x n : Nat} (hb : 0 < b) (h : x < b ^ (n + 1)) (ht : dg b n x ≠ 0) : IsLen b x (n + 1) := by
  refine ⟨h, fun _ => ?_⟩
  simp only [Nat.add_sub_cancel]
  rcases Nat.lt_or_ge x (b ^ n) with h1 | h1
  · exact absurd (dg_of_lt h1) ht
  · exact h1
end Go.Proofs.Ytihbpkljjmpkjaa
