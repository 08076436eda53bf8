/- Plain law of multiplication: a word added into a number's digits; the school's way row by row; cut in two. No program in sight. -/
import Derived.Test.YtflleaifmeiikaaWordLaw
set_option linter.unusedVariables false
set_option linter.unusedSimpArgs false
namespace Go.Proofs.Ytflleaifmeiikaa
theorem put_add (b i x d : Nat) : put b i x d + dg b i x * b ^ i = x + d * b ^ i := by
  have h := put_split b i x
  unfold put
  omega
theorem up_put {b i x d : Nat} (hb : 0 < b) (hd : d < b) : up b (i + 1) (put b i x d) = up b (i + 1) x := by
  have hs := add_lt_succ (low_lt hb i x) hd
  unfold put up
  rw [Nat.add_mul_div_right _ _ (Nat.pow_pos hb), Nat.div_eq_of_lt hs, Nat.zero_add]
theorem dg_of_up {b i x y : Nat} (h : up b i x = up b i y) : dg b i x = dg b i y := by
  rw [← up_mod, ← up_mod, h]
theorem up_succ_of {b i x y : Nat} (h : up b i x = up b i y) : up b (i + 1) x = up b (i + 1) y := by
  rw [← up_succ, ← up_succ, h]
theorem up_eq_zero {b i x : Nat} (h : x < b ^ i) : up b i x = 0 := Nat.div_eq_of_lt h
theorem lt_of_up_zero {b i x : Nat} (hb : 0 < b) (h : up b i x = 0) : x < b ^ i := by
  unfold up at h
  rcases Nat.lt_or_ge x (b ^ i) with h0 | h0
  · exact h0
  · have := Nat.div_pos h0 (Nat.pow_pos hb); omega
/-- one place of a row: D times a digit of y, and what goes over, added into place i + k -/
theorem school_step {i k O ov P D y : Nat} (hD : D < W) (hov : ov < W) (h : O + ov * W ^ (i + k) = P + D * low W k y * W ^ i) (hu : up W (i + k) O = up W (i + k) P) :
    put W (i + k) O (maLo D (dg W k y) (dg W (i + k) O) ov) + maHi D (dg W k y) (dg W (i + k) O) ov * W ^ (i + (k + 1)) = P + D * low W (k + 1) y * W ^ i ∧
    up W (i + (k + 1)) (put W (i + k) O (maLo D (dg W k y) (dg W (i + k) O) ov)) = up W (i + (k + 1)) P := by
  have hs := ma_split D (dg W k y) (dg W (i + k) O) ov
  have hl := maLo_lt D (dg W k y) (dg W (i + k) O) ov
  generalize maLo D (dg W k y) (dg W (i + k) O) ov = lo at *
  generalize maHi D (dg W k y) (dg W (i + k) O) ov = hi at *
  refine ⟨?_, ?_⟩
  · have hp := put_add W (i + k) O lo
    have hm := congrArg (· * W ^ (i + k)) hs
    simp only [Nat.add_mul] at hm
    have e1 : hi * W ^ (i + (k + 1)) = W * hi * W ^ (i + k) := by
      rw [← Nat.add_assoc, Nat.pow_succ, Nat.mul_comm W hi, Nat.mul_assoc, Nat.mul_comm W]
    have e2 : D * low W (k + 1) y * W ^ i = D * low W k y * W ^ i + D * dg W k y * W ^ (i + k) := by
      rw [← low_next, Nat.mul_add, Nat.add_mul, Nat.pow_add, Nat.mul_comm (W ^ i) (W ^ k)]
      simp only [Nat.mul_assoc]
    rw [e1, e2]
    omega
  · rw [show i + (k + 1) = i + k + 1 from rfl, up_put W_pos hl]
    exact up_succ_of hu
/-- a row's end: what goes over is laid above -/
theorem school_end {i m O ov P D y : Nat} (hP : P < W ^ (i + m)) (hov : ov < W) (hy : y < W ^ m) (h : O + ov * W ^ (i + m) = P + D * low W m y * W ^ i) (hu : up W (i + m) O = up W (i + m) P) :
    put W (i + m) O ov = P + D * y * W ^ i := by
  rw [low_all hy] at h
  rw [up_eq_zero hP] at hu
  have hO := lt_of_up_zero W_pos hu
  rw [put_top hO, h]
theorem school_next {i x y : Nat} : low W i x * y + dg W i x * y * W ^ i = low W (i + 1) x * y := by
  rw [← low_next, Nat.add_mul]
  simp only [Nat.mul_assoc, Nat.mul_comm y]
theorem school_row_lt {i m x y : Nat} (hy : y < W ^ m) : low W i x * y < W ^ (i + m) := by
  rw [Nat.pow_add]
  have h1 := low_bound W_pos i x
  exact Nat.lt_of_le_of_lt (Nat.mul_le_mul_right _ (Nat.le_of_lt h1)) (Nat.mul_lt_mul_of_pos_left hy (Nat.pow_pos W_pos))
theorem mul_lt_pow {x y n m : Nat} (hx : x < W ^ n) (hy : y < W ^ m) : x * y < W ^ (n + m) := by
  rw [Nat.pow_add]
  exact Nat.lt_of_le_of_lt (Nat.mul_le_mul_right _ (Nat.le_of_lt hx)) (Nat.mul_lt_mul_of_pos_left hy (by omega))
/-- a number by a word -/
theorem byword_step (k x m add : Nat) : (dg W k x * m + (low W k x * m + add) / W ^ k + 0) % W = dg W k (x * m + add) ∧ (dg W k x * m + (low W k x * m + add) / W ^ k + 0) / W = (low W (k + 1) x * m + add) / W ^ (k + 1) := by
  have hp : 0 < W ^ k := Nat.pow_pos W_pos
  have e1 : low W (k + 1) x * m + add = (low W k x * m + add) + W ^ k * (dg W k x * m) := by
    rw [← low_next, Nat.add_mul, Nat.mul_comm (dg W k x) (W ^ k), Nat.mul_assoc]; omega
  have e2 : x * m + add = (low W k x * m + add) + W ^ k * (up W k x * m) := by
    have h : x = low W k x + W ^ k * up W k x := (Nat.mod_add_div x (W ^ k)).symm
    conv => lhs; rw [h]
    rw [Nat.add_mul, Nat.mul_assoc]; omega
  rw [Nat.add_zero, Nat.add_comm (dg W k x * m)]
  constructor
  · rw [e2]
    unfold dg
    rw [Nat.add_mul_div_left _ _ hp]
    have h : up W k x = dg W k x + W * up W (k + 1) x := by
      unfold dg; rw [← up_succ]; exact (Nat.mod_add_div _ _).symm
    unfold dg at h
    rw [h, Nat.add_mul, Nat.mul_assoc, ← Nat.add_assoc, Nat.add_mul_mod_self_left]
  · rw [e1, Nat.pow_succ, ← Nat.div_div_eq_div_mul, Nat.add_mul_div_left _ _ hp]
theorem byword_over {k x m add : Nat} (hm : m < W) (ha : add < W) : (low W k x * m + add) / W ^ k < W := by
  have hp : 0 < W ^ k := Nat.pow_pos W_pos
  have h1 := low_bound W_pos k x
  apply Nat.div_lt_of_lt_mul
  have h2 : (low W k x + 1) * m ≤ W ^ k * m := Nat.mul_le_mul_right _ h1
  have h3 : W ^ k * (m + 1) ≤ W ^ k * W := Nat.mul_le_mul_left _ hm
  rw [Nat.add_mul] at h2
  rw [Nat.mul_add] at h3
  rcases Nat.eq_zero_or_pos m with h0 | h0
  · subst h0
    have : W ^ k * 1 ≤ W ^ k * W := Nat.mul_le_mul_left _ (by decide)
    have : 1 * W ≤ W ^ k * W := Nat.mul_le_mul_right _ hp
    omega
  · rcases Nat.eq_zero_or_pos k with hk | hk
    · subst hk
      rw [low_nought]; simp; omega
    · have : W ^ 1 ≤ W ^ k := Nat.pow_le_pow_right W_pos hk
      rw [Nat.pow_one] at this
      omega
/-- cut in two: three products for four -/
theorem kara (x0 x1 y0 y1 B : Nat) : x0 * y0 + (((x0 + x1) * (y0 + y1) - (x0 * y0 + x1 * y1)) * B + x1 * y1 * (B * B)) = (x0 + x1 * B) * (y0 + y1 * B) := by
  have e : (x0 + x1) * (y0 + y1) - (x0 * y0 + x1 * y1) = x0 * y1 + x1 * y0 := by
    rw [Nat.add_mul, Nat.mul_add, Nat.mul_add]; omega
  rw [e]
  simp only [Nat.mul_add, Nat.mul_assoc, Nat.mul_comm, Nat.mul_left_comm]
  omega
theorem kara_le (x0 x1 y0 y1 : Nat) : x0 * y0 + x1 * y1 ≤ (x0 + x1) * (y0 + y1) := by
  rw [Nat.add_mul, Nat.mul_add, Nat.mul_add]; omega
theorem kara_mid (x0 x1 y0 y1 B : Nat) : ((x0 + x1) * (y0 + y1) - (x0 * y0 + x1 * y1)) * B ≤ (x0 + x1 * B) * (y0 + y1 * B) := by
  rw [← kara]; omega
theorem kara_hi (x0 x1 y0 y1 B : Nat) : x1 * y1 * (B * B) ≤ (x0 + x1 * B) * (y0 + y1 * B) := by
  rw [← kara]; omega
end Go.Proofs.Ytflleaifmeiikaa
