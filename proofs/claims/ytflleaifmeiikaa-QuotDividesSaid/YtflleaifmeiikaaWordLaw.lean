/- The plain law of words of 64 bits: what the code's operations on uint64 come to, as numbers. No program in sight. -/
import Derived.Test.YtflleaifmeiikaaNum
namespace Go.Proofs.Ytflleaifmeiikaa

/-! ### the operations as numbers -/
theorem wrap_nat (n : Nat) : IntKind.u64.wrap (n : Int) = ((n % W : Nat) : Int) := by
  rw [IntKind.wrap_u64]; unfold W; omega
theorem wrap_add (a b : Nat) : IntKind.u64.wrap ((a : Int) + (b : Int)) = (((a + b) % W : Nat) : Int) := by
  rw [← Int.natCast_add]; exact wrap_nat _
theorem wrap_mul (a b : Nat) : IntKind.u64.wrap ((a : Int) * (b : Int)) = (((a * b) % W : Nat) : Int) := by
  rw [← Int.natCast_mul]; exact wrap_nat _
theorem wrap_sub (a b : Nat) (hb : b < W) : IntKind.u64.wrap ((a : Int) - (b : Int)) = (((a + (W - b)) % W : Nat) : Int) := by
  rw [IntKind.wrap_u64]; unfold W at *; omega
theorem div_nat (a b : Nat) : (a : Int) / (b : Int) = ((a / b : Nat) : Int) := (Int.natCast_ediv a b).symm
theorem umax : IntKind.u64.max = ((W - 1 : Nat) : Int) := by decide
theorem and_nat (a b : Nat) (ha : a < W) (hb : b < W) : bits .and .u64 (a : Int) (b : Int) = ((a &&& b : Nat) : Int) := u64_and_nat a b ha hb
theorem or_nat (a b : Nat) (ha : a < W) (hb : b < W) : bits .or .u64 (a : Int) (b : Int) = ((a ||| b : Nat) : Int) := u64_or_nat a b ha hb
theorem xor_nat (a b : Nat) (ha : a < W) (hb : b < W) : bits .xor .u64 (a : Int) (b : Int) = ((a ^^^ b : Nat) : Int) := u64_xor_nat a b ha hb
theorem andNot_nat (a b : Nat) (ha : a < W) (hb : b < W) : bits .andNot .u64 (a : Int) (b : Int) = ((a &&& (W - 1 - b) : Nat) : Int) := u64_andNot_nat a b ha hb
theorem and_one (c : Nat) : c &&& 1 = c % 2 := Nat.and_one_is_mod c
theorem and_low (c : Nat) : c &&& 4294967295 = c % 4294967296 := Nat.and_two_pow_sub_one_eq_mod c 32
theorem and_lt (a b : Nat) (ha : a < W) : a &&& b < W := Nat.lt_of_le_of_lt Nat.and_le_left ha
theorem or_lt (a b : Nat) (ha : a < W) (hb : b < W) : a ||| b < W := by rw [W_eq] at *; exact Nat.or_lt_two_pow ha hb
theorem xor_lt (a b : Nat) (ha : a < W) (hb : b < W) : a ^^^ b < W := by rw [W_eq] at *; exact Nat.xor_lt_two_pow ha hb

/-! ### the highest bit -/
theorem top_bit (v : Nat) (hv : v < W) : v / 9223372036854775808 = (v.testBit 63).toNat := by
  have h : v.testBit 63 = decide (9223372036854775808 ≤ v) := by
    by_cases h : 9223372036854775808 ≤ v
    · rw [Nat.testBit_eq_decide_div_mod_eq]
      have : v / 2 ^ 63 = 1 := by unfold W at hv; omega
      rw [this]; simp [h]
    · rw [Nat.testBit_lt_two_pow (by omega)]; simp [h]
  rw [h]
  unfold W at hv
  by_cases h : 9223372036854775808 ≤ v <;> simp [h] <;> omega
theorem test_top (v : Nat) (hv : v < W) : v.testBit 63 = decide (9223372036854775808 ≤ v) := by
  have h := top_bit v hv
  unfold W at hv
  cases hb : v.testBit 63 <;> rw [hb] at h <;> simp at h ⊢ <;> omega
theorem test_not (v : Nat) (hv : v < W) : (W - 1 - v).testBit 63 = !v.testBit 63 := by
  rw [test_top _ (by unfold W at *; omega), test_top _ hv]
  unfold W at *
  by_cases h : 9223372036854775808 ≤ v <;> simp [h] <;> omega

/-! ### Add -/
def addLo (x y c : Nat) : Nat := (x + y + c % 2) % W
def addHi (x y c : Nat) : Nat := (x + y + c % 2) / W
theorem addLo_lt (x y c : Nat) : addLo x y c < W := Nat.mod_lt _ W_pos
theorem addHi_le {x y : Nat} (c : Nat) (hx : x < W) (hy : y < W) : addHi x y c ≤ 1 := by unfold addHi W at *; omega
theorem add_split (x y c : Nat) : x + y + c % 2 = addLo x y c + W * addHi x y c := by unfold addLo addHi; exact (Nat.mod_add_div _ _).symm
theorem add_lo (x y c : Nat) (hc : c < W) : IntKind.u64.wrap (IntKind.u64.wrap ((x : Int) + (y : Int)) + bits .and .u64 (c : Int) 1) = ((addLo x y c : Nat) : Int) := by
  rw [wrap_add, show (1 : Int) = ((1 : Nat) : Int) from rfl, and_nat c 1 hc (by decide), and_one, wrap_add]
  unfold addLo
  congr 1
  unfold W
  omega
theorem carry_bit (x y s : Nat) (hx : x < W) (hy : y < W) (hs : s < W) : ((x &&& y) ||| ((x ||| y) &&& (W - 1 - s))) / 9223372036854775808 = if 9223372036854775808 ≤ x then (if 9223372036854775808 ≤ y then 1 else if 9223372036854775808 ≤ s then 0 else 1) else if 9223372036854775808 ≤ y then (if 9223372036854775808 ≤ s then 0 else 1) else 0 := by
  rw [top_bit _ (or_lt _ _ (and_lt _ _ hx) (and_lt _ _ (or_lt _ _ hx hy)))]
  rw [Nat.testBit_or, Nat.testBit_and, Nat.testBit_and, Nat.testBit_or, test_not _ hs, test_top _ hx, test_top _ hy, test_top _ hs]
  by_cases h1 : 9223372036854775808 ≤ x <;> by_cases h2 : 9223372036854775808 ≤ y <;> by_cases h3 : 9223372036854775808 ≤ s <;> simp [h1, h2, h3]
theorem add_hi (x y c : Nat) (hx : x < W) (hy : y < W) (hc : c < W) :
    bits .or .u64 (bits .and .u64 (x : Int) (y : Int)) (bits .andNot .u64 (bits .or .u64 (x : Int) (y : Int)) (IntKind.u64.wrap (IntKind.u64.wrap ((x : Int) + (y : Int)) + bits .and .u64 (c : Int) 1))) / 9223372036854775808 = ((addHi x y c : Nat) : Int) := by
  have hs := addLo_lt x y c
  rw [add_lo x y c hc, and_nat _ _ hx hy, or_nat _ _ hx hy, andNot_nat _ _ (or_lt _ _ hx hy) hs, or_nat _ _ (and_lt _ _ hx) (and_lt _ _ (or_lt _ _ hx hy))]
  rw [show (9223372036854775808 : Int) = ((9223372036854775808 : Nat) : Int) from rfl, div_nat, carry_bit x y _ hx hy hs]
  congr 1
  unfold addHi addLo W at *
  by_cases h1 : 9223372036854775808 ≤ x <;> by_cases h2 : 9223372036854775808 ≤ y <;> simp only [h1, h2, if_true, if_false] <;> (try split) <;> omega

/-! ### Sub -/
def subLo (x y c : Nat) : Nat := (x + (W - y) + (W - c % 2)) % W
def subHi (x y c : Nat) : Nat := if x < y + c % 2 then 1 else 0
theorem subLo_lt (x y c : Nat) : subLo x y c < W := Nat.mod_lt _ W_pos
theorem subHi_le (x y c : Nat) : subHi x y c ≤ 1 := by unfold subHi; split <;> omega
theorem sub_split (x y c : Nat) (hx : x < W) (hy : y < W) : x + W * subHi x y c = subLo x y c + y + c % 2 := by
  unfold subLo subHi W at *; split <;> omega
theorem sub_lo (x y c : Nat) (hy : y < W) (hc : c < W) : IntKind.u64.wrap (IntKind.u64.wrap ((x : Int) - (y : Int)) - bits .and .u64 (c : Int) 1) = ((subLo x y c : Nat) : Int) := by
  rw [wrap_sub _ _ hy, show (1 : Int) = ((1 : Nat) : Int) from rfl, and_nat c 1 hc (by decide), and_one, wrap_sub _ _ (by unfold W; omega)]
  unfold subLo
  congr 1
  unfold W
  omega
theorem borrow (x y d : Nat) (hx : x < W) (hy : y < W) (hd : d < W) : (((W - 1) ^^^ x) &&& y ||| ((W - 1) ^^^ (x ^^^ y)) &&& d) / 9223372036854775808 = if 9223372036854775808 ≤ x then (if 9223372036854775808 ≤ y then (if 9223372036854775808 ≤ d then 1 else 0) else 0) else if 9223372036854775808 ≤ y then 1 else (if 9223372036854775808 ≤ d then 1 else 0) := by
  have hm : W - 1 < W := by decide
  rw [top_bit _ (or_lt _ _ (and_lt _ _ (xor_lt _ _ hm hx)) (and_lt _ _ (xor_lt _ _ hm (xor_lt _ _ hx hy))))]
  rw [Nat.testBit_or, Nat.testBit_and, Nat.testBit_and, Nat.testBit_xor, Nat.testBit_xor, Nat.testBit_xor, test_top _ hm, test_top _ hx, test_top _ hy, test_top _ hd]
  have h0 : 9223372036854775808 ≤ W - 1 := by decide
  by_cases h1 : 9223372036854775808 ≤ x <;> by_cases h2 : 9223372036854775808 ≤ y <;> by_cases h3 : 9223372036854775808 ≤ d <;> simp [h0, h1, h2, h3]
theorem sub_hi (x y c : Nat) (hx : x < W) (hy : y < W) (hc : c < W) :
    bits .or .u64 (bits .and .u64 (bits .xor .u64 IntKind.u64.max (x : Int)) (y : Int)) (bits .and .u64 (bits .xor .u64 IntKind.u64.max (bits .xor .u64 (x : Int) (y : Int))) (IntKind.u64.wrap (IntKind.u64.wrap ((x : Int) - (y : Int)) - bits .and .u64 (c : Int) 1))) / 9223372036854775808 = ((subHi x y c : Nat) : Int) := by
  have hs := subLo_lt x y c
  have hm : W - 1 < W := by decide
  rw [sub_lo x y c hy hc, umax, xor_nat _ _ hm hx, xor_nat _ _ hx hy, xor_nat _ _ hm (xor_lt _ _ hx hy), and_nat _ _ (xor_lt _ _ hm hx) hy, and_nat _ _ (xor_lt _ _ hm (xor_lt _ _ hx hy)) hs, or_nat _ _ (and_lt _ _ (xor_lt _ _ hm hx)) (and_lt _ _ (xor_lt _ _ hm (xor_lt _ _ hx hy)))]
  rw [show (9223372036854775808 : Int) = ((9223372036854775808 : Nat) : Int) from rfl, div_nat, borrow x y _ hx hy hs]
  congr 1
  unfold subHi subLo W at *
  by_cases h1 : 9223372036854775808 ≤ x <;> by_cases h2 : 9223372036854775808 ≤ y <;> simp only [h1, h2, if_true, if_false] <;> (repeat' split) <;> omega

/-! ### Mul -/
def mulHi (x y : Nat) : Nat := x * y / W
def mulLo (x y : Nat) : Nat := x * y % W
theorem mulLo_lt (x y : Nat) : mulLo x y < W := Nat.mod_lt _ W_pos
theorem mulHi_lt {x y : Nat} (hx : x < W) (hy : y < W) : mulHi x y < W := by
  unfold mulHi
  rcases Nat.eq_zero_or_pos y with rfl | h
  · simpa using W_pos
  · exact Nat.div_lt_of_lt_mul (Nat.lt_of_lt_of_le (Nat.mul_lt_mul_of_pos_right hx h) (Nat.mul_le_mul_left _ (Nat.le_of_lt hy)))
theorem mul_split (x y : Nat) : x * y = mulLo x y + W * mulHi x y := (Nat.mod_add_div _ _).symm
theorem mul_lo (x y : Nat) : IntKind.u64.wrap ((x : Int) * (y : Int)) = ((mulLo x y : Nat) : Int) := wrap_mul x y
theorem mul_hi (x y : Nat) (hx : x < W) (hy : y < W) :
    IntKind.u64.wrap (IntKind.u64.wrap (IntKind.u64.wrap ((x : Int) / 4294967296 * ((y : Int) / 4294967296)) + IntKind.u64.wrap (IntKind.u64.wrap ((x : Int) / 4294967296 * bits .and .u64 (y : Int) 4294967295) + IntKind.u64.wrap (bits .and .u64 (x : Int) 4294967295 * bits .and .u64 (y : Int) 4294967295) / 4294967296) / 4294967296) +
      IntKind.u64.wrap (bits .and .u64 (IntKind.u64.wrap (IntKind.u64.wrap ((x : Int) / 4294967296 * bits .and .u64 (y : Int) 4294967295) + IntKind.u64.wrap (bits .and .u64 (x : Int) 4294967295 * bits .and .u64 (y : Int) 4294967295) / 4294967296)) 4294967295 + IntKind.u64.wrap (bits .and .u64 (x : Int) 4294967295 * ((y : Int) / 4294967296))) / 4294967296) = ((mulHi x y : Nat) : Int) := by
  have hl : 4294967295 < W := by decide
  have e1 : ∀ z : Nat, z < W → bits .and .u64 (z : Int) 4294967295 = ((z % 4294967296 : Nat) : Int) := fun z hz => by
    rw [show (4294967295 : Int) = ((4294967295 : Nat) : Int) from rfl, and_nat z _ hz hl, and_low]
  have e2 : ∀ z : Nat, (z : Int) / 4294967296 = ((z / 4294967296 : Nat) : Int) := fun z => div_nat z 4294967296
  obtain ⟨b1, b2, b3, b4⟩ := Lib.mul64_hi x y hx hy
  rw [show (18446744073709551616 : Nat) = W from rfl] at b1 b2 b3
  have c1 := Lib.half_mul_le (a := x / 4294967296) (b := y / 4294967296) (by unfold W at *; omega) (by unfold W at *; omega)
  have c2 := Lib.half_mul_le (a := x / 4294967296) (b := y % 4294967296) (by unfold W at *; omega) (by omega)
  have c3 := Lib.half_mul_le (a := x % 4294967296) (b := y / 4294967296) (by omega) (by unfold W at *; omega)
  rw [e1 x hx, e1 y hy, e2 x, e2 y]
  rw [wrap_mul (x % 4294967296) (y % 4294967296), Nat.mod_eq_of_lt (a := x % 4294967296 * (y % 4294967296)) b1, e2, wrap_mul (x / 4294967296) (y % 4294967296), Nat.mod_eq_of_lt (a := x / 4294967296 * (y % 4294967296)) (by unfold W; omega)]
  rw [wrap_add, Nat.mod_eq_of_lt (a := x / 4294967296 * (y % 4294967296) + _) b2, e2, e1 _ b2, wrap_mul, wrap_mul, Nat.mod_eq_of_lt (a := x / 4294967296 * (y / 4294967296)) (by unfold W; omega), Nat.mod_eq_of_lt (a := x % 4294967296 * (y / 4294967296)) (by unfold W; omega)]
  rw [wrap_add, wrap_add, Nat.mod_eq_of_lt (a := _ % 4294967296 + x % 4294967296 * (y / 4294967296)) b3, e2, wrap_add]
  congr 1
  have hm := mulHi_lt hx hy
  unfold mulHi at hm ⊢
  have b4' := b4
  rw [show (18446744073709551616 : Nat) = W from rfl] at b4'
  rw [← b4'] at hm ⊢
  generalize x / 4294967296 * (y / 4294967296) = p at *
  generalize x / 4294967296 * (y % 4294967296) + x % 4294967296 * (y % 4294967296) / 4294967296 = q at *
  rw [Nat.mod_eq_of_lt (a := p + q / 4294967296) (by omega), Nat.mod_eq_of_lt hm]

/-! ### MulAdd -/
def maHi (x y a b : Nat) : Nat := (x * y + a + b) / W
def maLo (x y a b : Nat) : Nat := (x * y + a + b) % W
theorem maLo_lt (x y a b : Nat) : maLo x y a b < W := Nat.mod_lt _ W_pos
theorem ma_split (x y a b : Nat) : x * y + a + b = maLo x y a b + W * maHi x y a b := (Nat.mod_add_div _ _).symm
theorem ma_lt {x y a b : Nat} (hx : x < W) (hy : y < W) (ha : a < W) (hb : b < W) : x * y + a + b < W * W := by
  have h : x * y ≤ (W - 1) * (W - 1) := Nat.mul_le_mul (by omega) (by omega)
  have e : (W - 1) * (W - 1) + 2 * (W - 1) + 1 = W * W := by decide
  omega
theorem maHi_lt {x y a b : Nat} (hx : x < W) (hy : y < W) (ha : a < W) (hb : b < W) : maHi x y a b < W := Nat.div_lt_of_lt_mul (ma_lt hx hy ha hb)
theorem ma_lo (x y a b : Nat) : addLo (addLo (mulLo x y) a 0) b 0 = maLo x y a b := by
  unfold addLo mulLo maLo
  simp [Nat.add_mod]
theorem ma_hi (x y a b : Nat) (hx : x < W) (hy : y < W) (ha : a < W) (hb : b < W) : ((mulHi x y + addHi (mulLo x y) a 0) % W + addHi (addLo (mulLo x y) a 0) b 0) % W = maHi x y a b := by
  have h1 := mul_split x y
  have h2 := add_split (mulLo x y) a 0
  have h3 := add_split (addLo (mulLo x y) a 0) b 0
  have h4 := ma_split x y a b
  have h5 := maLo_lt x y a b
  have h6 := maHi_lt hx hy ha hb
  rw [ma_lo] at h3
  generalize maLo x y a b = l at *
  generalize maHi x y a b = h at *
  generalize mulHi x y = m at *
  generalize addHi (mulLo x y) a 0 = p at *
  generalize addHi (addLo (mulLo x y) a 0) b 0 = q at *
  have : W * h = W * (m + p + q) := by
    rw [Nat.mul_add, Nat.mul_add]; omega
  have := Nat.eq_of_mul_eq_mul_left W_pos this
  subst this
  rw [Nat.mod_eq_of_lt (a := m + p) (by omega), Nat.mod_eq_of_lt h6]

/-! ### lengths -/
def blen (x : Nat) : Nat := if x = 0 then 0 else Nat.log2 x + 1
theorem blen_zero : blen 0 = 0 := rfl
theorem blen_lt (x : Nat) : x < 2 ^ blen x := by
  unfold blen; split
  · omega
  · exact Nat.lt_log2_self
theorem blen_le {x : Nat} (h : x ≠ 0) : 2 ^ (blen x - 1) ≤ x := by
  unfold blen; rw [if_neg h]; exact Nat.log2_self_le h
theorem blen_pos {x : Nat} (h : x ≠ 0) : 0 < blen x := by unfold blen; rw [if_neg h]; omega
theorem blen_unique {x k : Nat} (h1 : x < 2 ^ k) (h2 : k ≠ 0 → 2 ^ (k - 1) ≤ x) : blen x = k := by
  by_cases hk : k = 0
  · subst hk; have : x = 0 := by omega
    subst this; rfl
  · have h2 := h2 hk
    have hx : x ≠ 0 := by have := Nat.pow_pos (a := 2) (n := k - 1) (by omega); omega
    have a1 := blen_lt x
    have a2 := blen_le hx
    have a3 := blen_pos hx
    rcases Nat.lt_trichotomy (blen x) k with h | h | h
    · have := Nat.pow_le_pow_right (n := 2) (by omega) (show blen x ≤ k - 1 by omega); omega
    · exact h
    · have := Nat.pow_le_pow_right (n := 2) (by omega) (show k ≤ blen x - 1 by omega); omega
theorem blen_le_of_lt {x k : Nat} (h : x < 2 ^ k) : blen x ≤ k := by
  rcases Nat.lt_or_ge k (blen x) with h1 | h1
  · have hx : x ≠ 0 := by rintro rfl; simp [blen] at h1
    have := blen_le hx
    have := Nat.pow_le_pow_right (n := 2) (by omega) (show k ≤ blen x - 1 by omega)
    omega
  · exact h1
theorem blen_shift {x k : Nat} (h : x / 2 ^ k ≠ 0) : blen x = k + blen (x / 2 ^ k) := by
  have hp : 0 < 2 ^ k := Nat.pow_pos (by omega)
  refine blen_unique ?_ ?_
  · rw [Nat.pow_add]
    exact (Nat.div_lt_iff_lt_mul hp).1 (blen_lt _) |> fun h => by rw [Nat.mul_comm]; exact h
  · intro _
    have h2 := blen_pos h
    have h3 := blen_le h
    rw [show k + blen (x / 2 ^ k) - 1 = k + (blen (x / 2 ^ k) - 1) by omega, Nat.pow_add, Nat.mul_comm]
    exact (Nat.le_div_iff_mul_le hp).1 h3
end Go.Proofs.Ytflleaifmeiikaa
