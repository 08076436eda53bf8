/- Plain arithmetic of digits: the value of a number, its digit at a place, a digit replaced. No program in sight.
   The plain law of words of 64 bits: what the code's operations on uint64 come to, as numbers. No program in sight.
   The plain law of words, second part: lengths, trailing noughts, division by half words. No program in sight.
   The walks of package word: what each function returns, as numbers.
   Words for memory: a slice that reads as the digits of a number; a row of the call's own that does. No function of the program in sight. -/
import Derived.Laws.BitsAllLaws
import Derived.Laws.BitsLemmas
import Derived.Lib.Mul64
import Derived.WalkKit
import Derived.WalkLawsBesides
import Derived.WalkSpells
import Derived.Below
import Derived.Deep.Draws
import Derived.Deep.QuietTactic
import Derived.BigQuiet
import Derived.Lib.Hide
import Derived.Outline
import Derived.Laws.OwnMore
import Derived.OwnWalk
import Derived.Deep.AppendLies
import Derived.Maps.AppendAt
import Derived.Laws.Rows
import Derived.KernelRfl
import Derived.Test.YtflleaifmeiikaaRows
namespace Go.Proofs.Ytflleaifmeiikaa
def W : Nat := 18446744073709551616
theorem W_eq : W = 2 ^ 64 := by decide
theorem W_pos : 0 < W := by decide
def dg (b j x : Nat) : Nat := x / b ^ j % b
theorem dg_lt {b : Nat} (hb : 0 < b) (j x : Nat) : dg b j x < b := Nat.mod_lt _ hb
theorem dg_of_lt {b j x : Nat} (h : x < b ^ j) : dg b j x = 0 := by unfold dg; rw [Nat.div_eq_of_lt h]; exact Nat.zero_mod _
theorem dg_zero (b j : Nat) : dg b j 0 = 0 := by simp [dg]
theorem low_succ (b j x : Nat) : x % b ^ (j + 1) = x % b ^ j + dg b j x * b ^ j := by
  rw [Nat.mod_pow_succ, Nat.mul_comm]; rfl
theorem low_zero (b x : Nat) : x % b ^ 0 = 0 := by simp [Nat.mod_one]
/-- digits above a place do not touch those below it -/
theorem dg_add_hi {b : Nat} (hb : 0 < b) {i j x d : Nat} (hj : j < i) : dg b j (x + d * b ^ i) = dg b j x := by
  unfold dg
  obtain ⟨k, rfl⟩ : ∃ k, i = j + 1 + k := ⟨i - (j + 1), by omega⟩
  have h1 : d * b ^ (j + 1 + k) = b ^ j * (b * (d * b ^ k)) := by
    rw [Nat.pow_add, Nat.pow_succ]; simp only [Nat.mul_assoc, Nat.mul_left_comm]
  rw [h1, Nat.add_mul_div_left _ _ (Nat.pow_pos hb), Nat.add_mul_mod_self_left]
theorem dg_add_at {b : Nat} {i x d : Nat} (hx : x < b ^ i) (hd : d < b) : dg b i (x + d * b ^ i) = d := by
  unfold dg
  have hb : 0 < b ^ i := by omega
  rw [Nat.add_mul_div_right _ _ hb, Nat.div_eq_of_lt hx, Nat.zero_add, Nat.mod_eq_of_lt hd]
theorem dg_mod {b : Nat} (hb : 0 < b) {i j x : Nat} (hj : j < i) : dg b j (x % b ^ i) = dg b j x := by
  have h := Nat.mod_add_div x (b ^ i)
  have h2 : dg b j (x % b ^ i + x / b ^ i * b ^ i) = dg b j (x % b ^ i) := dg_add_hi hb hj
  rw [← h2, Nat.mul_comm (x / b ^ i), h]
theorem low_lt {b : Nat} (hb : 0 < b) (i x : Nat) : x % b ^ i < b ^ i := Nat.mod_lt _ (Nat.pow_pos hb)
theorem add_lt_succ {b i x d : Nat} (hx : x < b ^ i) (hd : d < b) : x + d * b ^ i < b ^ (i + 1) := by
  rw [Nat.pow_succ, Nat.mul_comm (b ^ i)]
  have : (d + 1) * b ^ i ≤ b * b ^ i := Nat.mul_le_mul_right _ hd
  rw [Nat.add_mul] at this
  omega
theorem pow_le {b : Nat} (hb : 0 < b) {i j : Nat} (h : i ≤ j) : b ^ i ≤ b ^ j := Nat.pow_le_pow_right hb h
theorem dg_ext {b n : Nat} : ∀ {x y : Nat}, x < b ^ n → y < b ^ n → (∀ j, j < n → dg b j x = dg b j y) → x = y := by
  intro x y hx hy h
  have : ∀ i, i ≤ n → x % b ^ i = y % b ^ i := by
    intro i
    induction i with
    | zero => intro _; simp [Nat.mod_one]
    | succ i ih => intro hi; rw [low_succ, low_succ, ih (by omega), h i (by omega)]
  have := this n (Nat.le_refl _)
  rwa [Nat.mod_eq_of_lt hx, Nat.mod_eq_of_lt hy] at this
/-- the value of a list of digits -/
def val (b : Nat) : List Nat → Nat
  | [] => 0
  | d :: l => d + b * val b l
theorem val_lt {b : Nat} (hb : 0 < b) : ∀ {l : List Nat}, (∀ d ∈ l, d < b) → val b l < b ^ l.length
  | [], _ => by simp [val]
  | d :: l, h => by
    have h1 := val_lt hb (l := l) (fun x hx => h x (by simp [hx]))
    have h2 := h d (by simp)
    have h3 : b * (val b l + 1) ≤ b * b ^ l.length := Nat.mul_le_mul_left _ h1
    rw [val, List.length_cons, Nat.pow_succ, Nat.mul_comm (b ^ l.length)]
    rw [Nat.mul_add] at h3
    omega
theorem dg_val {b : Nat} (hb : 0 < b) : ∀ {l : List Nat} {j : Nat}, (∀ d ∈ l, d < b) → j < l.length → dg b j (val b l) = l.getD j 0
  | [], _, _, hj => by simp at hj
  | d :: l, 0, h, _ => by
    have h2 := h d (by simp)
    simp [dg, val, Nat.mod_eq_of_lt h2]
  | d :: l, j + 1, h, hj => by
    have h2 := h d (by simp)
    have ih := dg_val hb (l := l) (j := j) (fun x hx => h x (by simp [hx])) (by simpa using hj)
    have e : dg b (j + 1) (val b (d :: l)) = dg b j (val b l) := by
      show (d + b * val b l) / b ^ (j + 1) % b = val b l / b ^ j % b
      rw [Nat.pow_succ, Nat.mul_comm (b ^ j), ← Nat.div_div_eq_div_mul, Nat.add_mul_div_left _ _ hb, Nat.div_eq_of_lt h2, Nat.zero_add]
    rw [e, ih]; rfl
/-- the digit at one place replaced -/
def put (b i x d : Nat) : Nat := x % b ^ i + d * b ^ i + x / b ^ (i + 1) * b ^ (i + 1)
theorem put_split (b i x : Nat) : x = x % b ^ i + dg b i x * b ^ i + x / b ^ (i + 1) * b ^ (i + 1) := by
  have h1 := Nat.mod_add_div x (b ^ (i + 1))
  rw [low_succ, Nat.mul_comm (b ^ (i + 1))] at h1
  omega
theorem dg_put {b : Nat} (hb : 0 < b) {i j x d : Nat} (hd : d < b) : dg b j (put b i x d) = if j = i then d else dg b j x := by
  unfold put
  have hl := low_lt hb i x
  by_cases h : j < i
  · rw [if_neg (by omega), dg_add_hi hb (by omega), dg_add_hi hb h, dg_mod hb h]
  · by_cases h2 : j = i
    · subst h2
      rw [if_pos rfl, dg_add_hi hb (by omega), dg_add_at hl hd]
    · rw [if_neg h2]
      have hs := add_lt_succ hl hd
      generalize x % b ^ i + d * b ^ i = y at hs
      obtain ⟨k, rfl⟩ : ∃ k, j = i + 1 + k := ⟨j - (i + 1), by omega⟩
      unfold dg
      generalize i + 1 = m at *
      rw [Nat.pow_add, ← Nat.div_div_eq_div_mul, ← Nat.div_div_eq_div_mul, Nat.add_mul_div_right _ _ (Nat.pow_pos hb), Nat.div_eq_of_lt hs, Nat.zero_add]
theorem put_lt {b : Nat} (hb : 0 < b) {i n x d : Nat} (hi : i < n) (hx : x < b ^ n) (hd : d < b) : put b i x d < b ^ n := by
  unfold put
  have hs := add_lt_succ (low_lt hb i x) hd
  obtain ⟨k, rfl⟩ : ∃ k, n = i + 1 + k := ⟨n - (i + 1), by omega⟩
  generalize x % b ^ i + d * b ^ i = y at *
  generalize i + 1 = m at *
  rw [Nat.pow_add] at hx ⊢
  have h1 : x / b ^ m < b ^ k := Nat.div_lt_of_lt_mul hx
  have h2 : (x / b ^ m + 1) * b ^ m ≤ b ^ k * b ^ m := Nat.mul_le_mul_right _ h1
  rw [Nat.add_mul, Nat.mul_comm (b ^ k)] at h2
  omega
/-- a fresh top digit -/
theorem put_top {b i x d : Nat} (hx : x < b ^ i) : put b i x d = x + d * b ^ i := by
  unfold put
  have hb : 0 < b ^ i := by omega
  have h : x / b ^ (i + 1) = 0 := by
    rw [Nat.pow_succ, ← Nat.div_div_eq_div_mul, Nat.div_eq_of_lt hx, Nat.zero_div]
  rw [Nat.mod_eq_of_lt hx, h]; simp

/-! ### the digits from a place on, and those below it (names that simp does not look behind) -/
def up (b k x : Nat) : Nat := x / b ^ k
def low (b k x : Nat) : Nat := x % b ^ k
theorem up_zero (b x : Nat) : up b 0 x = x := by simp [up]
theorem low_nought (b x : Nat) : low b 0 x = 0 := by simp [low, Nat.mod_one]
theorem up_mod (b k x : Nat) : up b k x % b = dg b k x := rfl
theorem up_succ (b k x : Nat) : up b k x / b = up b (k + 1) x := by unfold up; rw [Nat.pow_succ, Nat.div_div_eq_div_mul]
theorem up_le (b k x : Nat) : up b k x ≤ x := Nat.div_le_self _ _
theorem up_up (b i k x : Nat) : up b i (up b k x) = up b (k + i) x := by unfold up; rw [Nat.pow_add, Nat.div_div_eq_div_mul]
theorem dg_up (b i k x : Nat) : dg b i (up b k x) = dg b (k + i) x := by
  show up b i (up b k x) % b = up b (k + i) x % b
  rw [up_up]
theorem low_next (b k x : Nat) : low b k x + dg b k x * b ^ k = low b (k + 1) x := (low_succ b k x).symm
theorem low_bound {b : Nat} (hb : 0 < b) (k x : Nat) : low b k x < b ^ k := low_lt hb k x
theorem low_all {b k x : Nat} (h : x < b ^ k) : low b k x = x := Nat.mod_eq_of_lt h
theorem low_up_succ (b k m x : Nat) : low b (m + 1) (up b k x) = dg b k x + b * low b m (up b (k + 1) x) := by
  unfold low up dg
  rw [Nat.pow_succ, Nat.mul_comm (b ^ m), Nat.mod_mul, Nat.pow_succ, Nat.div_div_eq_div_mul]
theorem low_add_up (b k x : Nat) : low b k x + up b k x * b ^ k = x := Nat.mod_add_div' x (b ^ k)
theorem low_low {b k m x : Nat} (h : k ≤ m) : low b k (low b m x) = low b k x := by
  unfold low
  exact Nat.mod_mod_of_dvd x (Nat.pow_dvd_pow b h)
theorem le_W {x : Nat} (h : x < W) : x ≤ 18446744073709551615 := by unfold W at h; omega
/-- the carry into place k of a sum -/
def carry (b k x y : Nat) : Nat := (low b k x + low b k y) / b ^ k
theorem carry_zero (b x y : Nat) : carry b 0 x y = 0 := by unfold carry; rw [low_nought, low_nought]; simp
theorem carry_le {b : Nat} (hb : 0 < b) (k x y : Nat) : carry b k x y ≤ 1 := by
  unfold carry
  have h1 := low_bound hb k x
  have h2 := low_bound hb k y
  have hp : 0 < b ^ k := Nat.pow_pos hb
  have : (low b k x + low b k y) / b ^ k < 2 := (Nat.div_lt_iff_lt_mul hp).2 (by omega)
  omega
theorem carry_step {b : Nat} (hb : 0 < b) (k x y : Nat) :
    (carry b k x y + dg b k x + dg b k y) / b = carry b (k + 1) x y ∧ (carry b k x y + dg b k x + dg b k y) % b = dg b k (x + y) := by
  have hp : 0 < b ^ k := Nat.pow_pos hb
  have e : low b (k + 1) x + low b (k + 1) y = (low b k x + low b k y) % b ^ k + b ^ k * (carry b k x y + dg b k x + dg b k y) := by
    have h := Nat.mod_add_div (low b k x + low b k y) (b ^ k)
    rw [← low_next, ← low_next, Nat.mul_add, Nat.mul_add, Nat.mul_comm (dg b k x), Nat.mul_comm (dg b k y)]
    unfold carry
    omega
  have h1 : (low b (k + 1) x + low b (k + 1) y) / b ^ k = carry b k x y + dg b k x + dg b k y := by
    rw [e, Nat.add_mul_div_left _ _ hp, Nat.div_eq_of_lt (Nat.mod_lt _ hp), Nat.zero_add]
  refine ⟨?_, ?_⟩
  · unfold carry at *
    rw [← h1, Nat.div_div_eq_div_mul, ← Nat.pow_succ]
  · rw [← h1]
    have : low b (k + 1) (x + y) = low b (k + 1) (low b (k + 1) x + low b (k + 1) y) := by
      unfold low; rw [Nat.add_mod]
    have h2 : dg b k (x + y) = dg b k (low b (k + 1) x + low b (k + 1) y) := by
      rw [← dg_mod hb (Nat.lt_succ_self k), ← dg_mod hb (Nat.lt_succ_self k) (x := low b (k + 1) x + low b (k + 1) y)]
      exact congrArg _ this
    rw [h2]; rfl
end Go.Proofs.Ytflleaifmeiikaa
namespace Go.Proofs.Ytflleaifmeiikaa

/-! ### the operations as numbers -/
theorem wrap_nat (n : Nat) : IntKind.u64.wrap (n : Int) = ((n % W : Nat) : Int) := by
  rw [IntKind.wrap_u64]; unfold W; omega
theorem wrap_add (a b : Nat) : IntKind.u64.wrap ((a : Int) + (b : Int)) = (((a + b) % W : Nat) : Int) := by
  rw [← Int.natCast_add]; exact wrap_nat _
theorem wrap_mul (a b : Nat) : IntKind.u64.wrap ((a : Int) * (b : Int)) = (((a * b) % W : Nat) : Int) := by
  rw [← Int.natCast_mul]; exact wrap_nat _
theorem wrap_sub (a b : Nat) (hb : b < W) : IntKind.u64.wrap ((a : Int) - (b : Int)) = (((a + (W - b)) % W : Nat) : Int) := by
  rw [IntKind.wrap_u64]; unfold W at *; omega
theorem div_nat (a b : Nat) : (a : Int) / (b : Int) = ((a / b : Nat) : Int) := (Int.natCast_ediv a b).symm
theorem umax : IntKind.u64.max = ((W - 1 : Nat) : Int) := by decide
theorem and_nat (a b : Nat) (ha : a < W) (hb : b < W) : bits .and .u64 (a : Int) (b : Int) = ((a &&& b : Nat) : Int) := u64_and_nat a b ha hb
theorem or_nat (a b : Nat) (ha : a < W) (hb : b < W) : bits .or .u64 (a : Int) (b : Int) = ((a ||| b : Nat) : Int) := u64_or_nat a b ha hb
theorem xor_nat (a b : Nat) (ha : a < W) (hb : b < W) : bits .xor .u64 (a : Int) (b : Int) = ((a ^^^ b : Nat) : Int) := u64_xor_nat a b ha hb
theorem andNot_nat (a b : Nat) (ha : a < W) (hb : b < W) : bits .andNot .u64 (a : Int) (b : Int) = ((a &&& (W - 1 - b) : Nat) : Int) := u64_andNot_nat a b ha hb
theorem and_one (c : Nat) : c &&& 1 = c % 2 := Nat.and_one_is_mod c
theorem and_low (c : Nat) : c &&& 4294967295 = c % 4294967296 := Nat.and_two_pow_sub_one_eq_mod c 32
theorem and_lt (a b : Nat) (ha : a < W) : a &&& b < W := Nat.lt_of_le_of_lt Nat.and_le_left ha
theorem or_lt (a b : Nat) (ha : a < W) (hb : b < W) : a ||| b < W := by rw [W_eq] at *; exact Nat.or_lt_two_pow ha hb
theorem xor_lt (a b : Nat) (ha : a < W) (hb : b < W) : a ^^^ b < W := by rw [W_eq] at *; exact Nat.xor_lt_two_pow ha hb

/-! ### the highest bit -/
theorem top_bit (v : Nat) (hv : v < W) : v / 9223372036854775808 = (v.testBit 63).toNat := by
  have h : v.testBit 63 = decide (9223372036854775808 ≤ v) := by
    by_cases h : 9223372036854775808 ≤ v
    · rw [Nat.testBit_eq_decide_div_mod_eq]
      have : v / 2 ^ 63 = 1 := by unfold W at hv; omega
      rw [this]; simp [h]
    · rw [Nat.testBit_lt_two_pow (by omega)]; simp [h]
  rw [h]
  unfold W at hv
  by_cases h : 9223372036854775808 ≤ v <;> simp [h] <;> omega
theorem test_top (v : Nat) (hv : v < W) : v.testBit 63 = decide (9223372036854775808 ≤ v) := by
  have h := top_bit v hv
  unfold W at hv
  cases hb : v.testBit 63 <;> rw [hb] at h <;> simp at h ⊢ <;> omega
theorem test_not (v : Nat) (hv : v < W) : (W - 1 - v).testBit 63 = !v.testBit 63 := by
  rw [test_top _ (by unfold W at *; omega), test_top _ hv]
  unfold W at *
  by_cases h : 9223372036854775808 ≤ v <;> simp [h] <;> omega

/-! ### Add -/
def addLo (x y c : Nat) : Nat := (x + y + c % 2) % W
def addHi (x y c : Nat) : Nat := (x + y + c % 2) / W
theorem addLo_lt (x y c : Nat) : addLo x y c < W := Nat.mod_lt _ W_pos
theorem addHi_le {x y : Nat} (c : Nat) (hx : x < W) (hy : y < W) : addHi x y c ≤ 1 := by unfold addHi W at *; omega
theorem add_split (x y c : Nat) : x + y + c % 2 = addLo x y c + W * addHi x y c := by unfold addLo addHi; exact (Nat.mod_add_div _ _).symm
theorem add_lo (x y c : Nat) (hc : c < W) : IntKind.u64.wrap (IntKind.u64.wrap ((x : Int) + (y : Int)) + bits .and .u64 (c : Int) 1) = ((addLo x y c : Nat) : Int) := by
  rw [wrap_add, show (1 : Int) = ((1 : Nat) : Int) from rfl, and_nat c 1 hc (by decide), and_one, wrap_add]
  unfold addLo
  congr 1
  unfold W
  omega
theorem carry_bit (x y s : Nat) (hx : x < W) (hy : y < W) (hs : s < W) : ((x &&& y) ||| ((x ||| y) &&& (W - 1 - s))) / 9223372036854775808 = if 9223372036854775808 ≤ x then (if 9223372036854775808 ≤ y then 1 else if 9223372036854775808 ≤ s then 0 else 1) else if 9223372036854775808 ≤ y then (if 9223372036854775808 ≤ s then 0 else 1) else 0 := by
  rw [top_bit _ (or_lt _ _ (and_lt _ _ hx) (and_lt _ _ (or_lt _ _ hx hy)))]
  rw [Nat.testBit_or, Nat.testBit_and, Nat.testBit_and, Nat.testBit_or, test_not _ hs, test_top _ hx, test_top _ hy, test_top _ hs]
  by_cases h1 : 9223372036854775808 ≤ x <;> by_cases h2 : 9223372036854775808 ≤ y <;> by_cases h3 : 9223372036854775808 ≤ s <;> simp [h1, h2, h3]
theorem add_hi (x y c : Nat) (hx : x < W) (hy : y < W) (hc : c < W) :
    bits .or .u64 (bits .and .u64 (x : Int) (y : Int)) (bits .andNot .u64 (bits .or .u64 (x : Int) (y : Int)) (IntKind.u64.wrap (IntKind.u64.wrap ((x : Int) + (y : Int)) + bits .and .u64 (c : Int) 1))) / 9223372036854775808 = ((addHi x y c : Nat) : Int) := by
  have hs := addLo_lt x y c
  rw [add_lo x y c hc, and_nat _ _ hx hy, or_nat _ _ hx hy, andNot_nat _ _ (or_lt _ _ hx hy) hs, or_nat _ _ (and_lt _ _ hx) (and_lt _ _ (or_lt _ _ hx hy))]
  rw [show (9223372036854775808 : Int) = ((9223372036854775808 : Nat) : Int) from rfl, div_nat, carry_bit x y _ hx hy hs]
  congr 1
  unfold addHi addLo W at *
  by_cases h1 : 9223372036854775808 ≤ x <;> by_cases h2 : 9223372036854775808 ≤ y <;> simp only [h1, h2, if_true, if_false] <;> (try split) <;> omega

/-! ### Sub -/
def subLo (x y c : Nat) : Nat := (x + (W - y) + (W - c % 2)) % W
def subHi (x y c : Nat) : Nat := if x < y + c % 2 then 1 else 0
theorem subLo_lt (x y c : Nat) : subLo x y c < W := Nat.mod_lt _ W_pos
theorem subHi_le (x y c : Nat) : subHi x y c ≤ 1 := by unfold subHi; split <;> omega
theorem sub_split (x y c : Nat) (hx : x < W) (hy : y < W) : x + W * subHi x y c = subLo x y c + y + c % 2 := by
  unfold subLo subHi W at *; split <;> omega
theorem sub_lo (x y c : Nat) (hy : y < W) (hc : c < W) : IntKind.u64.wrap (IntKind.u64.wrap ((x : Int) - (y : Int)) - bits .and .u64 (c : Int) 1) = ((subLo x y c : Nat) : Int) := by
  rw [wrap_sub _ _ hy, show (1 : Int) = ((1 : Nat) : Int) from rfl, and_nat c 1 hc (by decide), and_one, wrap_sub _ _ (by unfold W; omega)]
  unfold subLo
  congr 1
  unfold W
  omega
theorem borrow (x y d : Nat) (hx : x < W) (hy : y < W) (hd : d < W) : (((W - 1) ^^^ x) &&& y ||| ((W - 1) ^^^ (x ^^^ y)) &&& d) / 9223372036854775808 = if 9223372036854775808 ≤ x then (if 9223372036854775808 ≤ y then (if 9223372036854775808 ≤ d then 1 else 0) else 0) else if 9223372036854775808 ≤ y then 1 else (if 9223372036854775808 ≤ d then 1 else 0) := by
  have hm : W - 1 < W := by decide
  rw [top_bit _ (or_lt _ _ (and_lt _ _ (xor_lt _ _ hm hx)) (and_lt _ _ (xor_lt _ _ hm (xor_lt _ _ hx hy))))]
  rw [Nat.testBit_or, Nat.testBit_and, Nat.testBit_and, Nat.testBit_xor, Nat.testBit_xor, Nat.testBit_xor, test_top _ hm, test_top _ hx, test_top _ hy, test_top _ hd]
  have h0 : 9223372036854775808 ≤ W - 1 := by decide
  by_cases h1 : 9223372036854775808 ≤ x <;> by_cases h2 : 9223372036854775808 ≤ y <;> by_cases h3 : 9223372036854775808 ≤ d <;> simp [h0, h1, h2, h3]
theorem sub_hi (x y c : Nat) (hx : x < W) (hy : y < W) (hc : c < W) :
    bits .or .u64 (bits .and .u64 (bits .xor .u64 IntKind.u64.max (x : Int)) (y : Int)) (bits .and .u64 (bits .xor .u64 IntKind.u64.max (bits .xor .u64 (x : Int) (y : Int))) (IntKind.u64.wrap (IntKind.u64.wrap ((x : Int) - (y : Int)) - bits .and .u64 (c : Int) 1))) / 9223372036854775808 = ((subHi x y c : Nat) : Int) := by
  have hs := subLo_lt x y c
  have hm : W - 1 < W := by decide
  rw [sub_lo x y c hy hc, umax, xor_nat _ _ hm hx, xor_nat _ _ hx hy, xor_nat _ _ hm (xor_lt _ _ hx hy), and_nat _ _ (xor_lt _ _ hm hx) hy, and_nat _ _ (xor_lt _ _ hm (xor_lt _ _ hx hy)) hs, or_nat _ _ (and_lt _ _ (xor_lt _ _ hm hx)) (and_lt _ _ (xor_lt _ _ hm (xor_lt _ _ hx hy)))]
  rw [show (9223372036854775808 : Int) = ((9223372036854775808 : Nat) : Int) from rfl, div_nat, borrow x y _ hx hy hs]
  congr 1
  unfold subHi subLo W at *
  by_cases h1 : 9223372036854775808 ≤ x <;> by_cases h2 : 9223372036854775808 ≤ y <;> simp only [h1, h2, if_true, if_false] <;> (repeat' split) <;> omega

/-! ### Mul -/
def mulHi (x y : Nat) : Nat := x * y / W
def mulLo (x y : Nat) : Nat := x * y % W
theorem mulLo_lt (x y : Nat) : mulLo x y < W := Nat.mod_lt _ W_pos
theorem mulHi_lt {x y : Nat} (hx : x < W) (hy : y < W) : mulHi x y < W := by
  unfold mulHi
  rcases Nat.eq_zero_or_pos y with rfl | h
  · simpa using W_pos
  · exact Nat.div_lt_of_lt_mul (Nat.lt_of_lt_of_le (Nat.mul_lt_mul_of_pos_right hx h) (Nat.mul_le_mul_left _ (Nat.le_of_lt hy)))
theorem mul_split (x y : Nat) : x * y = mulLo x y + W * mulHi x y := (Nat.mod_add_div _ _).symm
theorem mul_lo (x y : Nat) : IntKind.u64.wrap ((x : Int) * (y : Int)) = ((mulLo x y : Nat) : Int) := wrap_mul x y
theorem mul_hi (x y : Nat) (hx : x < W) (hy : y < W) :
    IntKind.u64.wrap (IntKind.u64.wrap (IntKind.u64.wrap ((x : Int) / 4294967296 * ((y : Int) / 4294967296)) + IntKind.u64.wrap (IntKind.u64.wrap ((x : Int) / 4294967296 * bits .and .u64 (y : Int) 4294967295) + IntKind.u64.wrap (bits .and .u64 (x : Int) 4294967295 * bits .and .u64 (y : Int) 4294967295) / 4294967296) / 4294967296) +
      IntKind.u64.wrap (bits .and .u64 (IntKind.u64.wrap (IntKind.u64.wrap ((x : Int) / 4294967296 * bits .and .u64 (y : Int) 4294967295) + IntKind.u64.wrap (bits .and .u64 (x : Int) 4294967295 * bits .and .u64 (y : Int) 4294967295) / 4294967296)) 4294967295 + IntKind.u64.wrap (bits .and .u64 (x : Int) 4294967295 * ((y : Int) / 4294967296))) / 4294967296) = ((mulHi x y : Nat) : Int) := by
  have hl : 4294967295 < W := by decide
  have e1 : ∀ z : Nat, z < W → bits .and .u64 (z : Int) 4294967295 = ((z % 4294967296 : Nat) : Int) := fun z hz => by
    rw [show (4294967295 : Int) = ((4294967295 : Nat) : Int) from rfl, and_nat z _ hz hl, and_low]
  have e2 : ∀ z : Nat, (z : Int) / 4294967296 = ((z / 4294967296 : Nat) : Int) := fun z => div_nat z 4294967296
  obtain ⟨b1, b2, b3, b4⟩ := Lib.mul64_hi x y hx hy
  rw [show (18446744073709551616 : Nat) = W from rfl] at b1 b2 b3
  have c1 := Lib.half_mul_le (a := x / 4294967296) (b := y / 4294967296) (by unfold W at *; omega) (by unfold W at *; omega)
  have c2 := Lib.half_mul_le (a := x / 4294967296) (b := y % 4294967296) (by unfold W at *; omega) (by omega)
  have c3 := Lib.half_mul_le (a := x % 4294967296) (b := y / 4294967296) (by omega) (by unfold W at *; omega)
  rw [e1 x hx, e1 y hy, e2 x, e2 y]
  rw [wrap_mul (x % 4294967296) (y % 4294967296), Nat.mod_eq_of_lt (a := x % 4294967296 * (y % 4294967296)) b1, e2, wrap_mul (x / 4294967296) (y % 4294967296), Nat.mod_eq_of_lt (a := x / 4294967296 * (y % 4294967296)) (by unfold W; omega)]
  rw [wrap_add, Nat.mod_eq_of_lt (a := x / 4294967296 * (y % 4294967296) + _) b2, e2, e1 _ b2, wrap_mul, wrap_mul, Nat.mod_eq_of_lt (a := x / 4294967296 * (y / 4294967296)) (by unfold W; omega), Nat.mod_eq_of_lt (a := x % 4294967296 * (y / 4294967296)) (by unfold W; omega)]
  rw [wrap_add, wrap_add, Nat.mod_eq_of_lt (a := _ % 4294967296 + x % 4294967296 * (y / 4294967296)) b3, e2, wrap_add]
  congr 1
  have hm := mulHi_lt hx hy
  unfold mulHi at hm ⊢
  have b4' := b4
  rw [show (18446744073709551616 : Nat) = W from rfl] at b4'
  rw [← b4'] at hm ⊢
  generalize x / 4294967296 * (y / 4294967296) = p at *
  generalize x / 4294967296 * (y % 4294967296) + x % 4294967296 * (y % 4294967296) / 4294967296 = q at *
  rw [Nat.mod_eq_of_lt (a := p + q / 4294967296) (by omega), Nat.mod_eq_of_lt hm]

/-! ### MulAdd -/
def maHi (x y a b : Nat) : Nat := (x * y + a + b) / W
def maLo (x y a b : Nat) : Nat := (x * y + a + b) % W
theorem maLo_lt (x y a b : Nat) : maLo x y a b < W := Nat.mod_lt _ W_pos
theorem ma_split (x y a b : Nat) : x * y + a + b = maLo x y a b + W * maHi x y a b := (Nat.mod_add_div _ _).symm
theorem ma_lt {x y a b : Nat} (hx : x < W) (hy : y < W) (ha : a < W) (hb : b < W) : x * y + a + b < W * W := by
  have h : x * y ≤ (W - 1) * (W - 1) := Nat.mul_le_mul (by omega) (by omega)
  have e : (W - 1) * (W - 1) + 2 * (W - 1) + 1 = W * W := by decide
  omega
theorem maHi_lt {x y a b : Nat} (hx : x < W) (hy : y < W) (ha : a < W) (hb : b < W) : maHi x y a b < W := Nat.div_lt_of_lt_mul (ma_lt hx hy ha hb)
theorem ma_lo (x y a b : Nat) : addLo (addLo (mulLo x y) a 0) b 0 = maLo x y a b := by
  unfold addLo mulLo maLo
  simp [Nat.add_mod]
theorem ma_hi (x y a b : Nat) (hx : x < W) (hy : y < W) (ha : a < W) (hb : b < W) : ((mulHi x y + addHi (mulLo x y) a 0) % W + addHi (addLo (mulLo x y) a 0) b 0) % W = maHi x y a b := by
  have h1 := mul_split x y
  have h2 := add_split (mulLo x y) a 0
  have h3 := add_split (addLo (mulLo x y) a 0) b 0
  have h4 := ma_split x y a b
  have h5 := maLo_lt x y a b
  have h6 := maHi_lt hx hy ha hb
  rw [ma_lo] at h3
  generalize maLo x y a b = l at *
  generalize maHi x y a b = h at *
  generalize mulHi x y = m at *
  generalize addHi (mulLo x y) a 0 = p at *
  generalize addHi (addLo (mulLo x y) a 0) b 0 = q at *
  have : W * h = W * (m + p + q) := by
    rw [Nat.mul_add, Nat.mul_add]; omega
  have := Nat.eq_of_mul_eq_mul_left W_pos this
  subst this
  rw [Nat.mod_eq_of_lt (a := m + p) (by omega), Nat.mod_eq_of_lt h6]

/-! ### lengths -/
def blen (x : Nat) : Nat := if x = 0 then 0 else Nat.log2 x + 1
theorem blen_zero : blen 0 = 0 := rfl
theorem blen_lt (x : Nat) : x < 2 ^ blen x := by
  unfold blen; split
  · omega
  · exact Nat.lt_log2_self
theorem blen_le {x : Nat} (h : x ≠ 0) : 2 ^ (blen x - 1) ≤ x := by
  unfold blen; rw [if_neg h]; exact Nat.log2_self_le h
theorem blen_pos {x : Nat} (h : x ≠ 0) : 0 < blen x := by unfold blen; rw [if_neg h]; omega
theorem blen_unique {x k : Nat} (h1 : x < 2 ^ k) (h2 : k ≠ 0 → 2 ^ (k - 1) ≤ x) : blen x = k := by
  by_cases hk : k = 0
  · subst hk; have : x = 0 := by omega
    subst this; rfl
  · have h2 := h2 hk
    have hx : x ≠ 0 := by have := Nat.pow_pos (a := 2) (n := k - 1) (by omega); omega
    have a1 := blen_lt x
    have a2 := blen_le hx
    have a3 := blen_pos hx
    rcases Nat.lt_trichotomy (blen x) k with h | h | h
    · have := Nat.pow_le_pow_right (n := 2) (by omega) (show blen x ≤ k - 1 by omega); omega
    · exact h
    · have := Nat.pow_le_pow_right (n := 2) (by omega) (show k ≤ blen x - 1 by omega); omega
theorem blen_le_of_lt {x k : Nat} (h : x < 2 ^ k) : blen x ≤ k := by
  rcases Nat.lt_or_ge k (blen x) with h1 | h1
  · have hx : x ≠ 0 := by rintro rfl; simp [blen] at h1
    have := blen_le hx
    have := Nat.pow_le_pow_right (n := 2) (by omega) (show k ≤ blen x - 1 by omega)
    omega
  · exact h1
theorem blen_shift {x k : Nat} (h : x / 2 ^ k ≠ 0) : blen x = k + blen (x / 2 ^ k) := by
  have hp : 0 < 2 ^ k := Nat.pow_pos (by omega)
  refine blen_unique ?_ ?_
  · rw [Nat.pow_add]
    exact (Nat.div_lt_iff_lt_mul hp).1 (blen_lt _) |> fun h => by rw [Nat.mul_comm]; exact h
  · intro _
    have h2 := blen_pos h
    have h3 := blen_le h
    rw [show k + blen (x / 2 ^ k) - 1 = k + (blen (x / 2 ^ k) - 1) by omega, Nat.pow_add, Nat.mul_comm]
    exact (Nat.le_div_iff_mul_le hp).1 h3
end Go.Proofs.Ytflleaifmeiikaa
namespace Go.Proofs.Ytflleaifmeiikaa
/-! ### lengths, bit by bit -/
def LenRel (x kk yy nn : Nat) : Prop := (kk = 0 ∨ kk = 1 ∨ kk = 2 ∨ kk = 4 ∨ kk = 8 ∨ kk = 16 ∨ kk = 32) ∧ yy < 2 ^ (max (2 * kk) 1) ∧ nn + blen yy = blen x
theorem LenRel.no {x kk yy nn : Nat} (h : LenRel x kk yy nn) (hk : 0 < kk) (h0 : yy / 2 ^ kk = 0) : LenRel x (kk / 2) yy nn := by
  obtain ⟨h1, h2, h3⟩ := h
  have h4 : yy < 2 ^ kk := by
    rcases Nat.lt_or_ge yy (2 ^ kk) with h | h
    · exact h
    · have := Nat.div_pos h (Nat.pow_pos (by omega)); omega
  refine ⟨by omega, Nat.lt_of_lt_of_le h4 (Nat.pow_le_pow_right (by omega) (by omega)), h3⟩
theorem LenRel.yes {x kk yy nn : Nat} (h : LenRel x kk yy nn) (hk : 0 < kk) (h0 : yy / 2 ^ kk ≠ 0) : LenRel x (kk / 2) (yy / 2 ^ kk) (nn + kk) := by
  obtain ⟨h1, h2, h3⟩ := h
  have h5 : yy / 2 ^ kk < 2 ^ kk := by
    refine Nat.div_lt_of_lt_mul ?_
    rw [← Nat.pow_add]
    exact Nat.lt_of_lt_of_le h2 (Nat.pow_le_pow_right (by omega) (by omega))
  refine ⟨by omega, Nat.lt_of_lt_of_le h5 (Nat.pow_le_pow_right (by omega) (by omega)), ?_⟩
  rw [← h3, blen_shift h0]; omega
theorem LenRel.le {x kk yy nn : Nat} (h : LenRel x kk yy nn) (hx : x < W) : nn ≤ 64 := by
  have := h.2.2
  have := blen_le_of_lt (x := x) (k := 64) hx
  omega
theorem LenRel.fin {x yy nn : Nat} (h : LenRel x 0 yy nn) : nn + yy = blen x := by
  obtain ⟨_, h2, h3⟩ := h
  rw [← h3]
  have : yy = 0 ∨ yy = 1 := by simp at h2; omega
  rcases this with rfl | rfl
  · rfl
  · rfl
theorem LenRel.small {x yy nn : Nat} (h : LenRel x 0 yy nn) : yy ≤ 1 := by
  have := h.2.1; simp at this; omega

/-! ### trailing noughts -/
theorem odd_part : ∀ x : Nat, x ≠ 0 → ∃ t m, x = 2 ^ t * (2 * m + 1) := by
  intro x
  induction x using Nat.strongRecOn with
  | ind x ih =>
    intro hx
    by_cases h : x % 2 = 1
    · exact ⟨0, x / 2, by omega⟩
    · obtain ⟨t, m, e⟩ := ih (x / 2) (by omega) (by omega)
      refine ⟨t + 1, m, ?_⟩
      rw [Nat.pow_succ, Nat.mul_comm (2 ^ t) 2, Nat.mul_assoc, ← e]; omega
theorem odd_unique {t m s n : Nat} (h : 2 ^ t * (2 * m + 1) = 2 ^ s * (2 * n + 1)) : t = s := by
  have key : ∀ {t m s n : Nat}, t < s → 2 ^ t * (2 * m + 1) ≠ 2 ^ s * (2 * n + 1) := by
    intro t m s n hlt h
    obtain ⟨k, rfl⟩ : ∃ k, s = t + (k + 1) := ⟨s - t - 1, by omega⟩
    rw [Nat.pow_add, Nat.mul_assoc] at h
    have := Nat.eq_of_mul_eq_mul_left (Nat.pow_pos (by omega)) h
    rw [Nat.pow_succ, Nat.mul_comm (2 ^ k) 2, Nat.mul_assoc] at this
    omega
  rcases Nat.lt_trichotomy t s with h1 | h1 | h1
  · exact absurd h (key h1)
  · exact h1
  · exact absurd h.symm (key h1)
theorem and_neg_odd (m k : Nat) (h : 2 * m + 1 < 2 ^ k) : (2 * m + 1) &&& (2 ^ k - (2 * m + 1)) = 1 := by
  apply Nat.eq_of_testBit_eq
  intro i
  rw [Nat.testBit_and]
  rcases k with _ | k
  · simp at h
  have e : 2 ^ (k + 1) - (2 * m + 1) = 2 * (2 ^ k - (m + 1)) + 1 := by rw [Nat.pow_succ] at *; omega
  rw [e]
  cases i with
  | zero => simp
  | succ i =>
    have h1 : (2 * m + 1).testBit (i + 1) = m.testBit i := by rw [Nat.testBit_succ]; congr 1; omega
    have h2 : (2 * (2 ^ k - (m + 1)) + 1).testBit (i + 1) = (2 ^ k - (m + 1)).testBit i := by rw [Nat.testBit_succ]; congr 1; omega
    have h3 : Nat.testBit 1 (i + 1) = false := by rw [Nat.testBit_succ]; simp
    rw [h1, h2, h3, Nat.testBit_two_pow_sub_succ (by rw [Nat.pow_succ] at h; omega)]
    cases m.testBit i <;> simp
theorem and_neg (t m : Nat) (h : 2 ^ t * (2 * m + 1) < W) : (2 ^ t * (2 * m + 1)) &&& (W - 2 ^ t * (2 * m + 1)) = 2 ^ t := by
  have ht : t < 64 := by
    rcases Nat.lt_or_ge t 64 with h1 | h1
    · exact h1
    · have := Nat.pow_le_pow_right (n := 2) (by omega) h1
      have : 2 ^ t * 1 ≤ 2 ^ t * (2 * m + 1) := Nat.mul_le_mul_left _ (by omega)
      rw [W_eq] at h; omega
  obtain ⟨k, hk⟩ : ∃ k, 64 = t + k := ⟨64 - t, by omega⟩
  have e : W = 2 ^ t * 2 ^ k := by rw [← Nat.pow_add, ← hk]; rfl
  rw [e] at h ⊢
  have h2 := Nat.lt_of_mul_lt_mul_left h
  rw [← Nat.mul_sub]
  rw [Nat.mul_comm (2 ^ t) (2 * m + 1), Nat.mul_comm (2 ^ t) (2 ^ k - _), ← Nat.shiftLeft_eq, ← Nat.shiftLeft_eq, ← Nat.shiftLeft_and_distrib, and_neg_odd m k h2, Nat.shiftLeft_eq, Nat.one_mul]
theorem blen_pow (t : Nat) : blen (2 ^ t) = t + 1 := blen_unique (by rw [Nat.pow_succ]; have := Nat.pow_pos (a := 2) (n := t) (by omega); omega) (fun _ => by simp)
def tz (x : Nat) : Nat := if x = 0 then 64 else blen (x &&& (W - x)) - 1
theorem tz_odd (t m : Nat) (h : 2 ^ t * (2 * m + 1) < W) : tz (2 ^ t * (2 * m + 1)) = t := by
  unfold tz
  rw [if_neg (Nat.mul_ne_zero (by have := Nat.pow_pos (a := 2) (n := t) (by omega); omega) (by omega)), and_neg t m h, blen_pow]; rfl

/-! ### a half word of a quotient -/
def H : Nat := 4294967296
theorem digit_math (u nx y q r : Nat) (hy : 9223372036854775808 ≤ y) (hu : u < y) (hn : nx < H) (hinv : q * (y / H) + r = u) (hge : (u * H + nx) / y ≤ q) :
    (H ≤ q ∨ r * H + nx < q * (y % H) → (u * H + nx) / y ≤ q - 1 ∧ 0 < q) ∧ (q * (y % H) ≤ r * H + nx → (u * H + nx) / y = q) := by
  have hyy : y = y / H * H + y % H := (Nat.div_add_mod' y H).symm
  have hN : u * H + nx = (q * (y / H) + r) * H + nx := by rw [hinv]
  have hlt : (u * H + nx) / y < H := by
    apply Nat.div_lt_of_lt_mul
    have : (u + 1) * H ≤ y * H := Nat.mul_le_mul_right _ hu
    rw [Nat.add_mul] at this; omega
  have hq : q * y = q * (y / H) * H + q * (y % H) := by
    conv => lhs; rw [hyy]
    rw [Nat.mul_add, Nat.mul_assoc]
  rw [Nat.add_mul] at hN
  have hy0 : 0 < y := by omega
  refine ⟨fun h => ?_, fun h => ?_⟩
  · rcases h with h | h
    · generalize (u * H + nx) / y = f at hlt ⊢
      omega
    · have : (u * H + nx) / y < q := by
        apply (Nat.div_lt_iff_lt_mul hy0).2
        rw [hq]; omega
      generalize (u * H + nx) / y = f at this ⊢
      omega
  · have : q ≤ (u * H + nx) / y := by
      apply (Nat.le_div_iff_mul_le hy0).2
      rw [hq]; omega
    exact Nat.le_antisymm hge this
def DigRel (u nx y qq rr : Nat) : Prop := qq * (y / H) + rr = u ∧ (u * H + nx) / y ≤ qq ∧ rr < H ∧ qq ≤ H + 1
theorem DigRel.start {u nx y : Nat} (hy : 9223372036854775808 ≤ y) (hyw : y < W) (hu : u < y) (hn : nx < H) : DigRel u nx y (u / (y / H)) (u % (y / H)) := by
  have h1 : 2147483648 ≤ y / H := by unfold H; omega
  have h2 : y / H < H := by unfold H W at *; omega
  have h3 : y = y / H * H + y % H := (Nat.div_add_mod' y H).symm
  have h4 : y % H < H := Nat.mod_lt _ (by decide)
  refine ⟨Nat.div_add_mod' u _, ?_, Nat.lt_trans (Nat.mod_lt _ (by omega)) h2, ?_⟩
  · rw [Nat.le_div_iff_mul_le (by omega)]
    have h5 : (u * H + nx) / y * y ≤ u * H + nx := Nat.div_mul_le_self _ _
    generalize (u * H + nx) / y = f at *
    have h6 : f * (y / H) * H ≤ f * y := by rw [Nat.mul_assoc]; exact Nat.mul_le_mul_left _ (by omega)
    have h7 : f * (y / H) * H < (u + 1) * H := by rw [Nat.add_mul]; omega
    have := Nat.lt_of_mul_lt_mul_right h7
    omega
  · rw [Nat.le_iff_lt_add_one, Nat.div_lt_iff_lt_mul (by omega)]
    have : (H + 1 + 1) * (y / H) = y / H * H + 2 * (y / H) := by rw [Nat.add_mul, Nat.add_mul, Nat.mul_comm]; omega
    have : 2 * (y / H) ≥ H := by unfold H at *; omega
    omega
theorem DigRel.step {u nx y qq rr : Nat} (hy : 9223372036854775808 ≤ y) (hu : u < y) (hn : nx < H) (h : DigRel u nx y qq rr) (c : H ≤ qq ∨ rr * H + nx < qq * (y % H)) : 0 < qq ∧ (rr + y / H < H → DigRel u nx y (qq - 1) (rr + y / H)) ∧ (H ≤ rr + y / H → (u * H + nx) / y = qq - 1) := by
  obtain ⟨h1, h2, h3, h4⟩ := h
  obtain ⟨a1, a2⟩ := (digit_math u nx y qq rr hy hu hn h1 h2).1 c
  have e : (qq - 1) * (y / H) + (rr + y / H) = u := by
    rw [← h1]
    have : qq * (y / H) = (qq - 1) * (y / H) + y / H := by
      conv => lhs; rw [show qq = (qq - 1) + 1 by omega, Nat.add_mul, Nat.one_mul]
    omega
  refine ⟨a2, fun h5 => ⟨e, a1, h5, by omega⟩, fun h5 => ?_⟩
  refine (digit_math u nx y (qq - 1) (rr + y / H) hy hu hn e a1).2 ?_
  have h6 : (qq - 1) * (y % H) ≤ H * H := Nat.mul_le_mul (by omega) (Nat.le_of_lt (Nat.mod_lt _ (by decide)))
  have h7 : H * H ≤ (rr + y / H) * H := Nat.mul_le_mul_right _ h5
  omega
theorem DigRel.done {u nx y qq rr : Nat} (hy : 9223372036854775808 ≤ y) (hu : u < y) (hn : nx < H) (h : DigRel u nx y qq rr) (c : qq * (y % H) ≤ rr * H + nx) : (u * H + nx) / y = qq :=
  (digit_math u nx y qq rr hy hu hn h.1 h.2.1).2 c
theorem digit_rest (u nx y qq : Nat) (hy : 0 < y) (hyw : y < W) (hq : (u * H + nx) / y = qq) : IntKind.u64.wrap (IntKind.u64.wrap (IntKind.u64.wrap ((u : Int) * 4294967296) + (nx : Int)) - IntKind.u64.wrap ((qq : Int) * (y : Int))) = (((u * H + nx) % y : Nat) : Int) := by
  rw [show (4294967296 : Int) = ((H : Nat) : Int) from rfl, wrap_mul, wrap_add, wrap_mul, wrap_sub _ _ (Nat.mod_lt _ W_pos)]
  congr 1
  have h1 := Nat.mod_add_div (u * H + nx) y
  have h2 : (u * H + nx) % y < W := Nat.lt_trans (Nat.mod_lt _ hy) hyw
  rw [hq, Nat.mul_comm y] at h1
  generalize (u * H + nx) % y = r at *
  generalize qq * y = p at *
  generalize u * H = a at *
  rw [Nat.mod_add_mod]
  unfold W at *
  omega

/-! ### Div -/
theorem lead_bounds {y : Nat} (hy : y ≠ 0) (hyw : y < W) : blen y ≤ 64 ∧ 1 ≤ blen y ∧ y * 2 ^ (64 - blen y) < W ∧ 9223372036854775808 ≤ y * 2 ^ (64 - blen y) := by
  have h1 : blen y ≤ 64 := blen_le_of_lt hyw
  have h2 := blen_pos hy
  have h3 := blen_lt y
  have h4 := blen_le hy
  have hp : 0 < 2 ^ (64 - blen y) := Nat.pow_pos (by omega)
  refine ⟨h1, h2, ?_, ?_⟩
  · have := Nat.mul_lt_mul_of_pos_right h3 hp
    rw [← Nat.pow_add, show blen y + (64 - blen y) = 64 by omega] at this
    exact this
  · have := Nat.mul_le_mul_right (2 ^ (64 - blen y)) h4
    rw [← Nat.pow_add, show blen y - 1 + (64 - blen y) = 63 by omega] at this
    exact this
/-- a number shifted up, another one's highest bits below it -/
theorem shl_or (hi lo s : Nat) (hs : s ≤ 63) (hlo : lo < W) : hi * 2 ^ s ||| lo / 2 ^ (64 - s) = hi * 2 ^ s + lo / 2 ^ (64 - s) := by
  have h : lo / 2 ^ (64 - s) < 2 ^ s := by
    apply Nat.div_lt_of_lt_mul
    rw [← Nat.pow_add, show 64 - s + s = 64 by omega]; exact hlo
  rw [Nat.mul_comm hi, ← Nat.two_pow_add_eq_or_of_lt h]
theorem split_at (lo s : Nat) (hs : s ≤ 64) : lo / 2 ^ (64 - s) * W + lo * 2 ^ s % W = lo * 2 ^ s := by
  have h := Nat.div_add_mod' (lo * 2 ^ s) W
  have e : lo * 2 ^ s / W = lo / 2 ^ (64 - s) := by
    have : W = 2 ^ (64 - s) * 2 ^ s := by rw [← Nat.pow_add, show 64 - s + s = 64 by omega]; rfl
    rw [this, Nat.mul_div_mul_right _ _ (Nat.pow_pos (by omega))]
  rw [e] at h; exact h
/-- two half words' quotients are a word's -/
theorem two_digits_at {B hi lo y : Nat} (hy : 0 < y) :
    (hi * B + lo / B) / y * B + ((hi * B + lo / B) % y * B + lo % B) / y = (hi * (B * B) + lo) / y ∧ ((hi * B + lo / B) % y * B + lo % B) % y = (hi * (B * B) + lo) % y := by
  have h1 := Nat.div_add_mod' (hi * B + lo / B) y
  have h2 := Nat.div_add_mod' ((hi * B + lo / B) % y * B + lo % B) y
  have h3 : lo / B * B + lo % B = lo := Nat.div_add_mod' lo B
  have h4 : ((hi * B + lo / B) % y * B + lo % B) % y < y := Nat.mod_lt _ hy
  generalize (hi * B + lo / B) % y = r at *
  generalize (hi * B + lo / B) / y = q1 at *
  generalize (r * B + lo % B) / y = q0 at *
  generalize (r * B + lo % B) % y = r0 at *
  have a1 : (hi * B + lo / B) * B = hi * (B * B) + lo / B * B := by rw [Nat.add_mul, Nat.mul_assoc]
  have a2 : (q1 * y + r) * B = q1 * y * B + r * B := Nat.add_mul _ _ _
  have a3 : y * (q1 * B) = q1 * y * B := by rw [← Nat.mul_assoc, Nat.mul_comm y q1]
  have a4 : y * (q1 * B + q0) = q1 * y * B + q0 * y := by rw [Nat.mul_add, a3, Nat.mul_comm y q0]
  rw [h1] at a2
  have e : hi * (B * B) + lo = y * (q1 * B + q0) + r0 := by omega
  rw [e]
  exact ⟨by rw [Nat.mul_add_div hy, Nat.div_eq_of_lt h4]; rfl, by rw [Nat.mul_add_mod, Nat.mod_eq_of_lt h4]⟩
theorem two_digits {hi lo y : Nat} (hy : 0 < y) :
    (hi * H + lo / H) / y * H + ((hi * H + lo / H) % y * H + lo % H) / y = (hi * W + lo) / y ∧ ((hi * H + lo / H) % y * H + lo % H) % y = (hi * W + lo) % y :=
  two_digits_at hy
/-- shifted up, divided, shifted down -/
theorem div_shifted {N y s : Nat} : N * 2 ^ s / (y * 2 ^ s) = N / y ∧ N * 2 ^ s % (y * 2 ^ s) / 2 ^ s = N % y := by
  have hp : 0 < 2 ^ s := Nat.pow_pos (by omega)
  exact ⟨Nat.mul_div_mul_right _ _ hp, by rw [Nat.mul_mod_mul_right, Nat.mul_div_cancel _ hp]⟩
theorem div_all {hi lo y : Nat} (hyw : y < W) (h : hi < y) (hlo : lo < W) :
    let s := 64 - blen y
    let Y := y * 2 ^ s
    let h' := hi * 2 ^ s + lo / 2 ^ (64 - s)
    let l' := lo * 2 ^ s % W
    h' < Y ∧ Y < W ∧ 9223372036854775808 ≤ Y ∧ (h' * H + l' / H) % Y < Y ∧ (h' * H + l' / H) / Y * H + ((h' * H + l' / H) % Y * H + l' % H) / Y = (hi * W + lo) / y ∧ ((h' * H + l' / H) % Y * H + l' % H) % Y / 2 ^ s = (hi * W + lo) % y ∧ hi * 2 ^ s < W ∧ (hi * W + lo) / y < W := by
  intro s Y h' l'
  obtain ⟨b1, b2, b3, b4⟩ := lead_bounds (y := y) (by omega) hyw
  have hs : s ≤ 63 := by show 64 - blen y ≤ 63; omega
  have hp : 0 < 2 ^ s := Nat.pow_pos (by omega)
  have e : h' * W + l' = (hi * W + lo) * 2 ^ s := by
    have := split_at lo s (by omega)
    show (hi * 2 ^ s + lo / 2 ^ (64 - s)) * W + lo * 2 ^ s % W = _
    rw [Nat.add_mul, Nat.add_mul, Nat.add_assoc, this, Nat.mul_right_comm]
  have hY : h' < Y := by
    have h1 : lo / 2 ^ (64 - s) < 2 ^ s := by
      apply Nat.div_lt_of_lt_mul
      rw [← Nat.pow_add, show 64 - s + s = 64 by omega]; exact hlo
    have h2 : (hi + 1) * 2 ^ s ≤ y * 2 ^ s := Nat.mul_le_mul_right _ h
    show hi * 2 ^ s + lo / 2 ^ (64 - s) < y * 2 ^ s
    rw [Nat.add_mul] at h2; omega
  have hY0 : 0 < Y := Nat.lt_of_le_of_lt (Nat.zero_le _) hY
  have t := two_digits (hi := h') (lo := l') hY0
  have d := div_shifted (N := hi * W + lo) (y := y) (s := s)
  rw [e] at t
  refine ⟨hY, b3, b4, Nat.mod_lt _ hY0, t.1.trans d.1, ?_, ?_, ?_⟩
  · rw [t.2]; exact d.2
  · have : hi * 2 ^ s ≤ y * 2 ^ s := Nat.mul_le_mul_right _ (by omega)
    exact Nat.lt_of_le_of_lt this b3
  · apply Nat.div_lt_of_lt_mul
    have : (hi + 1) * W ≤ y * W := Nat.mul_le_mul_right _ h
    rw [Nat.add_mul] at this; omega
end Go.Proofs.Ytflleaifmeiikaa
namespace Go.Proofs.Ytflleaifmeiikaa
open Go.RowKit
theorem ret1 {k : IntKind} {a b : Int} (h1 : a = b) : Ending.returned (.int k a) = Ending.returned (.int k b) := by rw [h1]
theorem ret2 {k l : IntKind} {a b c d : Int} (h1 : a = b) (h2 : c = d) : Ending.returned (.tuple #[.int k a, .int l c]) = Ending.returned (.tuple #[.int k b, .int l d]) := by rw [h1, h2]

theorem word_Add (x y c : Nat) (w : World) (hx : x < W) (hy : y < W) (hc : c < W) :
    Calls Try.prog 58 #[.int .u64 (x : Int), .int .u64 (y : Int), .int .u64 (c : Int)] w fun e w' => e = .returned (.tuple #[.int .u64 (addLo x y c : Nat), .int .u64 (addHi x y c : Nat)]) ∧ w = w' := by
  go_enter Try.func58, Try.ntmps58
  go_wp2
  go_ret2
  exact ⟨ret2 (add_lo x y c hc) (add_hi x y c hx hy hc), rfl⟩
theorem word_Sub (x y c : Nat) (w : World) (hx : x < W) (hy : y < W) (hc : c < W) :
    Calls Try.prog 70 #[.int .u64 (x : Int), .int .u64 (y : Int), .int .u64 (c : Int)] w fun e w' => e = .returned (.tuple #[.int .u64 (subLo x y c : Nat), .int .u64 (subHi x y c : Nat)]) ∧ w = w' := by
  go_enter Try.func70, Try.ntmps70
  go_wp2
  go_ret2
  exact ⟨ret2 (sub_lo x y c hy hc) (sub_hi x y c hx hy hc), rfl⟩
theorem word_Mul (x y : Nat) (w : World) (hx : x < W) (hy : y < W) :
    Calls Try.prog 74 #[.int .u64 (x : Int), .int .u64 (y : Int)] w fun e w' => e = .returned (.tuple #[.int .u64 (mulHi x y : Nat), .int .u64 (mulLo x y : Nat)]) ∧ w = w' := by
  go_enter Try.func74, Try.ntmps74
  go_wp2
  go_ret2
  exact ⟨ret2 (mul_hi x y hx hy) (mul_lo x y), rfl⟩
theorem word_MulAdd (x y a b : Nat) (w : World) (hx : x < W) (hy : y < W) (ha : a < W) (hb : b < W) :
    Calls Try.prog 71 #[.int .u64 (x : Int), .int .u64 (y : Int), .int .u64 (a : Int), .int .u64 (b : Int)] w fun e w' => e = .returned (.tuple #[.int .u64 (maHi x y a b : Nat), .int .u64 (maLo x y a b : Nat)]) ∧ w = w' := by
  have z0 : 0 < W := W_pos
  have h1 := mulLo_lt x y
  have h2 := addLo_lt (mulLo x y) a 0
  have H1 := Lib.hid (ma_lo x y a b)
  have H2 := Lib.hid (ma_hi x y a b hx hy ha hb)
  go_enter Try.func71, Try.ntmps71
  go_wp2_with fail
  refine (word_Mul x y _ hx hy).mono ?_
  rintro e w1 ⟨rfl, rfl⟩
  go_wp2_with fail
  refine (word_Add (mulLo x y) a 0 _ h1 ha z0).mono ?_
  rintro e w1 ⟨rfl, rfl⟩
  go_wp2_with fail
  refine (word_Add (addLo (mulLo x y) a 0) b 0 _ h2 hb z0).mono ?_
  rintro e w1 ⟨rfl, rfl⟩
  go_wp2_with fail
  go_ret2
  refine ⟨ret2 ?_ ?_, rfl⟩
  · rw [← H2.out, wrap_add, wrap_add]
  · rw [← H1.out]
set_option maxHeartbeats 400000 in
theorem word_Len (x : Nat) (w : World) (hx : x < W) :
    Calls Try.prog 51 #[.int .u64 (x : Int)] w fun e w' => e = .returned (.int .i64 (blen x : Nat)) ∧ ∃ n, w' = w.drewN n := by
  go_enter Try.func51, Try.ntmps51
  go_wp2
  go_loopw [0, 3, 4] (fun y n k wr => ∃ kk m yy nn : Nat, k = .int .i64 (kk : Int) ∧ y = .int .u64 (yy : Int) ∧ n = .int .i64 (nn : Int) ∧ LenRel x kk yy nn ∧ wr = w.drewN m) (fun _ _ k _ => (intOf k).toNat)
  case atStart => exact ⟨32, 0, x, 0, rfl, rfl, rfl, ⟨by omega, hx, by omega⟩, rfl⟩
  case round =>
    obtain ⟨kk, m, yy, nn, rfl, rfl, rfl, HR, rfl⟩ := hrel
    have hn := HR.le hx
    have hk : kk ≤ 32 := by have := HR.1; omega
    by_cases hk0 : kk = 0
    · subst hk0
      have hy := HR.small
      go_wp2
      go_ret
      refine ⟨ret1 ?_, m, rfl⟩
      have := HR.fin
      first | omega | (simp; omega)
    · have hk1 : 0 < kk := by omega
      clear hk0
      by_cases hc : yy / 2 ^ kk = 0
      · have hb : ((yy : Int) / 2 ^ kk != 0) = false := by
          have : ((yy / 2 ^ kk : Nat) : Int) = 0 := by rw [hc]; rfl
          rw [Int.natCast_ediv, Int.natCast_pow] at this
          simpa using this
        have HR' := HR.no hk1 hc
        clear hc
        go_wp2
        go_roundw
        case rel => exact ⟨kk / 2, m, yy, nn, by go_num, rfl, rfl, HR', rfl⟩
        case measure => simp [intOf]; omega
      · have hb : ((yy : Int) / 2 ^ kk != 0) = true := by
          have : ((yy / 2 ^ kk : Nat) : Int) ≠ 0 := by omega
          rw [Int.natCast_ediv, Int.natCast_pow] at this
          simpa using this
        have HR' := HR.yes hk1 hc
        clear hc
        go_wp2
        go_quiet (fail)
        go_wp2
        go_roundw
        case rel => exact ⟨kk / 2, _, yy / 2 ^ kk, nn + kk, by go_num, by simp, by go_num, HR', rfl⟩
        case measure => simp [intOf]; omega
set_option maxHeartbeats 1000000 in
theorem word_digit (u nx y : Nat) (w : World) (hy : 9223372036854775808 ≤ y) (hyw : y < W) (hu : u < y) (hn : nx < H) :
    Calls Try.prog 75 #[.int .u64 (u : Int), .int .u64 (nx : Int), .int .u64 (y : Int)] w fun e w' => e = .returned (.tuple #[.int .u64 ((u * H + nx) / y : Nat), .int .u64 ((u * H + nx) % y : Nat)]) ∧ ∃ n, w' = w.drewN n := by
  obtain ⟨y1, hy1⟩ : ∃ y1, y1 = y / H := ⟨_, rfl⟩
  obtain ⟨y0, hy0⟩ : ∃ y0, y0 = y % H := ⟨_, rfl⟩
  obtain ⟨Q, hQ⟩ : ∃ Q, Q = (u * H + nx) / y := ⟨_, rfl⟩
  obtain ⟨R, hR⟩ : ∃ R, R = (u * H + nx) % y := ⟨_, rfl⟩
  rw [← hQ, ← hR]
  have e8 : (y : Int) / 4294967296 = (y1 : Int) := by rw [hy1]; exact div_nat y 4294967296
  have e9 : bits .and .u64 (y : Int) 4294967295 = (y0 : Int) := by
    rw [show (4294967295 : Int) = ((4294967295 : Nat) : Int) from rfl, and_nat y _ hyw (by decide), and_low, hy0]; rfl
  have hs := DigRel.start hy hyw hu hn
  have b1 : 1 ≤ (y1 : Int) := by unfold H at hy1; omega
  have b2 : y1 < 4294967296 := by unfold H W at *; omega
  have b3 : y0 < 4294967296 := by unfold H W at *; omega
  have b4 : nx < 4294967296 := hn
  have b5 : (u : Int) / (y1 : Int) ≤ 4294967297 := by have := hs.2.2.2; rw [← hy1] at this; rw [div_nat]; unfold H at this; omega
  have HS := Lib.hid hs
  have HY1 := Lib.hid hy1
  have HY0 := Lib.hid hy0
  have HYW := Lib.hid hyw
  have HY := Lib.hid hy
  have HU := Lib.hid hu
  have HQ := Lib.hid hQ
  have HRR := Lib.hid hR
  clear hy1 hy0 hyw hy hu hQ hR hs
  go_enter Try.func75, Try.ntmps75
  go_wp2
  go_quiet (fail)
  go_wp2
  go_loopw [10, 11] (fun q r wr => ∃ m qq rr : Nat, q = .int .u64 (qq : Int) ∧ r = .int .u64 (rr : Int) ∧ DigRel u nx y qq rr ∧ wr = w.drewN m) (fun q _ _ => (intOf q).toNat)
  case atStart => exact ⟨_, u / y1, u % y1, by rw [div_nat, wrap_nat, Nat.mod_eq_of_lt (by unfold W; rw [div_nat] at b5; omega)], by rw [Int.natCast_emod], by rw [HY1.out]; exact HS.out, rfl⟩
  case round =>
    obtain ⟨m, qq, rr, rfl, rfl, HR, rfl⟩ := hrel
    have g1 : rr < 4294967296 := HR.2.2.1
    have g2 : qq ≤ 4294967297 := HR.2.2.2
    have g3 : (qq : Int) * (y0 : Int) ≤ 18446744082299486215 := by
      have : qq * y0 ≤ 4294967297 * 4294967295 := Nat.mul_le_mul g2 (by omega)
      rw [← Int.natCast_mul]; omega
    by_cases hc : H ≤ qq ∨ rr * H + nx < qq * y0
    · obtain ⟨k1, k2, k3⟩ := HR.step HY.out HU.out hn (by rw [← HY0.out]; exact hc)
      rw [← HY1.out] at k2 k3
      have K2 := Lib.hid k2
      have K3 := Lib.hid k3
      clear k2 k3
      by_cases hq : H ≤ qq
      · have hq' : 4294967295 < (qq : Int) := by unfold H at hq; omega
        clear hc hq
        by_cases hz : H ≤ rr + y1
        · have hz' : 4294967295 < (rr : Int) + (y1 : Int) := by unfold H at hz; omega
          have K := K3.out hz
          clear hz
          go_wp2
          go_ret2
          refine ⟨ret2 ?_ ?_, m, rfl⟩
          · rw [HQ.out, K]; omega
          · rw [HRR.out, ← digit_rest u nx y (qq - 1) (by have := HY.out; omega) HYW.out K, show ((qq : Int) - 1) = ((qq - 1 : Nat) : Int) from by omega]
        · have hz' : (rr : Int) + (y1 : Int) ≤ 4294967295 := by unfold H at hz; omega
          have K := K2.out (by omega)
          clear hz
          go_wp2
          go_roundw
          case rel => exact ⟨m, qq - 1, rr + y1, by go_num, by go_num, K, rfl⟩
          case measure => simp [intOf]; omega
      · have hq' : (qq : Int) ≤ 4294967295 := by unfold H at hq; omega
        have hw : (qq : Int) * (y0 : Int) ≤ 18446744065119617025 := by
          have : qq * y0 ≤ 4294967295 * 4294967295 := Nat.mul_le_mul (by omega) (by omega)
          rw [← Int.natCast_mul]; omega
        have hw3 : IntKind.u64.wrap ((qq : Int) * (y0 : Int)) = (qq : Int) * (y0 : Int) := by rw [IntKind.wrap_u64]; exact Int.emod_eq_of_lt (by rw [← Int.natCast_mul]; omega) (by omega)
        have hw2 : (rr : Int) * 4294967296 + (nx : Int) < (qq : Int) * (y0 : Int) := by
          have : rr * H + nx < qq * y0 := by rcases hc with h | h; exact absurd h hq; exact h
          rw [← Int.natCast_mul]; unfold H at this; omega
        clear hc hq
        by_cases hz : H ≤ rr + y1
        · have hz' : 4294967295 < (rr : Int) + (y1 : Int) := by unfold H at hz; omega
          have K := K3.out hz
          clear hz
          go_wp2
          go_ret2
          refine ⟨ret2 ?_ ?_, m, rfl⟩
          · rw [HQ.out, K]; omega
          · rw [HRR.out, ← digit_rest u nx y (qq - 1) (by have := HY.out; omega) HYW.out K, show ((qq : Int) - 1) = ((qq - 1 : Nat) : Int) from by omega]
        · have hz' : (rr : Int) + (y1 : Int) ≤ 4294967295 := by unfold H at hz; omega
          have K := K2.out (by omega)
          clear hz
          go_wp2
          go_roundw
          case rel => exact ⟨m, qq - 1, rr + y1, by go_num, by go_num, K, rfl⟩
          case measure => simp [intOf]; omega
    · have hq' : (qq : Int) ≤ 4294967295 := by unfold H at hc; omega
      have hw : (qq : Int) * (y0 : Int) ≤ 18446744065119617025 := by
        have : qq * y0 ≤ 4294967295 * 4294967295 := Nat.mul_le_mul (by omega) (by omega)
        rw [← Int.natCast_mul]; omega
      have hw3 : IntKind.u64.wrap ((qq : Int) * (y0 : Int)) = (qq : Int) * (y0 : Int) := by rw [IntKind.wrap_u64]; exact Int.emod_eq_of_lt (by rw [← Int.natCast_mul]; omega) (by omega)
      have hw2 : (qq : Int) * (y0 : Int) ≤ (rr : Int) * 4294967296 + (nx : Int) := by
        have : qq * y0 ≤ rr * H + nx := by omega
        rw [← Int.natCast_mul]; unfold H at this; omega
      have K := HR.done HY.out HU.out hn (by rw [← HY0.out]; omega)
      clear hc
      go_wp2
      go_ret2
      refine ⟨ret2 ?_ ?_, m, rfl⟩
      · rw [HQ.out, K]
      · rw [HRR.out, ← digit_rest u nx y qq (by have := HY.out; omega) HYW.out K]


def lead (x : Nat) : Nat := 64 - blen x
theorem word_Lead (x : Nat) (w : World) (hx : x < W) :
    Calls Try.prog 61 #[.int .u64 (x : Int)] w fun e w' => e = .returned (.int .i64 (lead x : Nat)) ∧ ∃ n, w' = w.drewN n := by
  have h := blen_le_of_lt (x := x) (k := 64) hx
  go_enter Try.func61, Try.ntmps61
  go_wp2_with fail
  refine (word_Len x _ hx).mono ?_
  rintro e w1 ⟨rfl, n, rfl⟩
  go_wp2_with fail
  go_ret
  exact ⟨ret1 (by unfold lead; omega), n, rfl⟩
theorem tz_zero : tz 0 = 64 := rfl
theorem word_Trail (x : Nat) (w : World) (hx : x < W) :
    Calls Try.prog 52 #[.int .u64 (x : Int)] w fun e w' => e = .returned (.int .i64 (tz x : Nat)) ∧ ∃ n, w' = w.drewN n := by
  by_cases h0 : x = 0
  · subst h0
    go_enter Try.func52, Try.ntmps52
    go_wp2_with fail
    go_ret
    exact ⟨ret1 rfl, 0, rfl⟩
  · obtain ⟨t, m, e⟩ := odd_part x h0
    have hand : x &&& (W - x) = 2 ^ t := by subst e; exact and_neg t m hx
    have htz : tz x = t := by subst e; exact tz_odd t m hx
    have hp : 2 ^ t < W := by rw [← hand]; exact and_lt _ _ hx
    obtain ⟨p, hp2⟩ : ∃ p, p = 2 ^ t := ⟨_, rfl⟩
    have hb : blen p = t + 1 := by rw [hp2]; exact blen_pow t
    have hb2 : blen p ≤ 64 := blen_le_of_lt (by rw [hp2]; exact hp)
    have e1 : bits .and .u64 (x : Int) (IntKind.u64.wrap (-(x : Int))) = (p : Int) := by
      rw [hp2, ← hand, ← and_nat x (W - x) hx (by omega)]
      congr 1
      rw [IntKind.wrap_u64]; unfold W at *; omega
    have hb3 : 1 ≤ blen p := by omega
    have hpw : p < W := by rw [hp2]; exact hp
    have HB := Lib.hid hb
    have HT := Lib.hid htz
    have hx1 : 1 ≤ x := by omega
    clear e hand htz hp hp2 hb h0
    go_enter Try.func52, Try.ntmps52
    go_wp2_with fail
    refine (word_Len p _ hpw).mono ?_
    rintro e w1 ⟨rfl, n, rfl⟩
    go_wp2_with fail
    go_ret
    exact ⟨ret1 (by rw [HT.out]; have := HB.out; omega), n, rfl⟩
/-! ### Div -/
theorem word_Div_no (hi lo y : Nat) (w : World) (h : y ≤ hi) :
    Calls Try.prog 69 #[.int .u64 (hi : Int), .int .u64 (lo : Int), .int .u64 (y : Int)] w fun e w' => e = .returned (.tuple #[.int .u64 0, .int .u64 0, .bool false]) ∧ ∃ n, w' = w.drewN n := by
  go_enter Try.func69, Try.ntmps69
  go_wp2_with fail
  go_ret3
  exact ⟨rfl, 0, rfl⟩
set_option maxHeartbeats 1000000 in
theorem word_Div_yes (hi lo y : Nat) (w : World) (hyw : y < W) (hlo : lo < W) (h : hi < y) :
    Calls Try.prog 69 #[.int .u64 (hi : Int), .int .u64 (lo : Int), .int .u64 (y : Int)] w fun e w' => e = .returned (.tuple #[.int .u64 ((hi * W + lo) / y : Nat), .int .u64 ((hi * W + lo) % y : Nat), .bool true]) ∧ ∃ n, w' = w.drewN n := by
  obtain ⟨d1, d2, d3, d4, d5, d6, d7, d8⟩ := div_all hyw h hlo
  obtain ⟨s, hs⟩ : ∃ s, s = lead y := ⟨_, rfl⟩
  rw [show 64 - blen y = s from hs.symm] at d1 d2 d3 d4 d5 d6 d7
  obtain ⟨Q, hQ⟩ : ∃ Q, Q = (hi * W + lo) / y := ⟨_, rfl⟩
  obtain ⟨R, hR⟩ : ∃ R, R = (hi * W + lo) % y := ⟨_, rfl⟩
  rw [← hQ] at d5 d8 ⊢
  rw [← hR] at d6 ⊢
  have hs63 : s ≤ 63 := by
    have := (lead_bounds (y := y) (by omega) hyw).2.1
    rw [hs]; unfold lead; omega
  have hor := shl_or hi lo s hs63 hlo
  obtain ⟨Y, hY⟩ : ∃ Y, Y = y * 2 ^ s := ⟨_, rfl⟩
  obtain ⟨p, hp⟩ : ∃ p, p = hi * 2 ^ s + lo / 2 ^ (64 - s) := ⟨_, rfl⟩
  obtain ⟨l, hl⟩ : ∃ l, l = lo * 2 ^ s % W := ⟨_, rfl⟩
  have hlw : l < W := by rw [hl]; exact Nat.mod_lt _ W_pos
  rw [← hY, ← hp] at d1
  rw [← hY] at d2 d3
  rw [← hY, ← hp, ← hl] at d4 d5 d6
  -- the code's own spellings
  have e1 : IntKind.u64.wrap ((y : Int) * 2 ^ s) = (Y : Int) := by
    rw [show ((2 : Int) ^ s) = ((2 ^ s : Nat) : Int) by simp, wrap_mul, ← hY, Nat.mod_eq_of_lt d2]
  have e2 : bits .or .u64 (IntKind.u64.wrap ((hi : Int) * 2 ^ s)) ((lo : Int) / 2 ^ (64 - s)) = (p : Int) := by
    rw [show ((2 : Int) ^ s) = ((2 ^ s : Nat) : Int) by simp, show ((2 : Int) ^ (64 - s)) = ((2 ^ (64 - s) : Nat) : Int) by simp, wrap_mul, Nat.mod_eq_of_lt d7, div_nat, or_nat _ _ d7 (Nat.lt_of_le_of_lt (Nat.div_le_self _ _) hlo), hor, ← hp]
  have e3 : IntKind.u64.wrap ((lo : Int) * 2 ^ s) = (l : Int) := by
    rw [show ((2 : Int) ^ s) = ((2 ^ s : Nat) : Int) by simp, wrap_mul, ← hl]
  have e4 : (l : Int) / 4294967296 = ((l / H : Nat) : Int) := div_nat l 4294967296
  have e5 : bits .and .u64 (l : Int) 4294967295 = ((l % H : Nat) : Int) := by
    rw [show (4294967295 : Int) = ((4294967295 : Nat) : Int) from rfl, and_nat l _ hlw (by decide), and_low]; rfl
  have l1 : l / H < H := by unfold W at hlw; unfold H; omega
  have l2 : l % H < H := Nat.mod_lt _ (by decide)
  obtain ⟨la, hla⟩ : ∃ la, la = l / H := ⟨_, rfl⟩
  obtain ⟨lb, hlb⟩ : ∃ lb, lb = l % H := ⟨_, rfl⟩
  rw [← hla] at e4 l1 d4 d5 d6
  rw [← hlb] at e5 l2 d5 d6
  obtain ⟨q1, hq1⟩ : ∃ q1, q1 = (p * H + la) / Y := ⟨_, rfl⟩
  obtain ⟨r1, hr1⟩ : ∃ r1, r1 = (p * H + la) % Y := ⟨_, rfl⟩
  rw [← hr1] at d4 d5 d6
  rw [← hq1] at d5
  obtain ⟨q0, hq0⟩ : ∃ q0, q0 = (r1 * H + lb) / Y := ⟨_, rfl⟩
  obtain ⟨r0, hr0⟩ : ∃ r0, r0 = (r1 * H + lb) % Y := ⟨_, rfl⟩
  rw [← hr0] at d6
  rw [← hq0] at d5
  have e6 : IntKind.u64.wrap (IntKind.u64.wrap ((q1 : Int) * 4294967296) + (q0 : Int)) = (Q : Int) := by
    rw [show (4294967296 : Int) = ((H : Nat) : Int) from rfl, wrap_mul, wrap_add, Nat.mod_add_mod, d5, Nat.mod_eq_of_lt d8]
  have e7 : (r0 : Int) / 2 ^ s = (R : Int) := by
    rw [show ((2 : Int) ^ s) = ((2 ^ s : Nat) : Int) by simp, div_nat, d6]
  have Q1 := Lib.hid hq1
  have R1 := Lib.hid hr1
  have Q0 := Lib.hid hq0
  have R0 := Lib.hid hr0
  have hyw' : y < W := hyw
  have HSS := Lib.hid hs
  have D1 := Lib.hid d1
  have D2 := Lib.hid d2
  have D3 := Lib.hid d3
  have D4 := Lib.hid d4
  have L1 := Lib.hid l1
  have L2 := Lib.hid l2
  have h' : ¬ y ≤ hi := by omega
  clear hq1 hr1 hq0 hr0 d1 d2 d3 d4 d5 d6 d7 d8 l1 l2 hla hlb hl hp hY hR hQ hor hs h hlw hyw' 
  go_enter Try.func69, Try.ntmps69
  go_wp2_with fail
  refine (word_Lead y _ hyw).mono ?_
  rw [← HSS.out]
  rintro e w1 ⟨rfl, n1, rfl⟩
  go_wp2_with fail
  go_quiet (fail)
  go_wp2_with fail
  refine (word_digit p la Y _ D3.out D2.out D1.out L1.out).mono ?_
  rw [← Q1.out, ← R1.out]
  rintro e w1 ⟨rfl, n2, rfl⟩
  go_wp2_with fail
  refine (word_digit r1 lb Y _ D3.out D2.out D4.out L2.out).mono ?_
  rw [← Q0.out, ← R0.out]
  rintro e w1 ⟨rfl, n3, rfl⟩
  go_wp2_with fail
  go_quiet (fail)
  go_wp2_with fail
  go_ret3
  exact ⟨rfl, _, World.drewN_drewN _ _ _⟩
end Go.Proofs.Ytflleaifmeiikaa
namespace Go.Proofs.Ytflleaifmeiikaa
open Go.RowKit

/-! ### a callee that leaves the world alone, met in a region that draws its order -/
theorem quietL {P : Program} {f : FuncId} {args : Array Value} {w : World} {n : Nat} {v : Value}
    (h : Calls P f args (w.drewN n) fun e w' => e = .returned v ∧ w.drewN n = w') : Calls P f args (w.drewN n) fun e w'' => e = .returned v ∧ ∃ m, w'' = w.drewN m :=
  h.mono fun _ _ ⟨he, hm⟩ => ⟨he, n, hm.symm⟩
theorem quietD {P : Program} {f : FuncId} {args : Array Value} {w : World} {n : Nat} {v : Value}
    (h : Calls P f args (w.drewN n) fun e w' => e = .returned v ∧ ∃ m, w' = (w.drewN n).drewN m) : Calls P f args (w.drewN n) fun e w'' => e = .returned v ∧ ∃ m, w'' = w.drewN m :=
  h.mono fun _ _ ⟨he, m, hm⟩ => ⟨he, n + m, by rw [hm, World.drewN_drewN]⟩
theorem quietDD {P : Program} {f : FuncId} {args : Array Value} {w : World} {a n : Nat} {v : Value}
    (h : Calls P f args (w.drewN (a + n)) fun e w' => e = .returned v ∧ ∃ m, w' = (w.drewN (a + n)).drewN m) :
    Calls P f args (w.drewN (a + n)) fun e w'' => e = .returned v ∧ ∃ m, w'' = w.drewN (a + m) :=
  h.mono fun _ _ ⟨he, m, hm⟩ => ⟨he, n + m, by rw [hm, World.drewN_drewN, Nat.add_assoc]⟩
theorem quietDL {P : Program} {f : FuncId} {args : Array Value} {w : World} {a n : Nat} {v : Value}
    (h : Calls P f args (w.drewN (a + n)) fun e w' => e = .returned v ∧ w.drewN (a + n) = w') : Calls P f args (w.drewN (a + n)) fun e w'' => e = .returned v ∧ ∃ m, w'' = w.drewN (a + m) :=
  h.mono fun _ _ ⟨he, hm⟩ => ⟨he, n, hm.symm⟩

/-! ### draws -/
theorem below_drewN {B : Nat} {a w : World} (h : Below B a w) (n : Nat) : Below B a (w.drewN n) := ⟨h.os, h.tape, h.output, h.size, h.block⟩
/-- one step behind another: 'nothing that was there has turned' -/
theorem nx {a b c : World} (h : Below a.heap.size a b) (k : Below b.heap.size b c) : Below a.heap.size a c := h.trans (k.mono h.size)
theorem nxd {a b : World} (h : Below a.heap.size a b) (n : Nat) : Below a.heap.size a (b.drewN n) := below_drewN h n
theorem nxa {a b : World} (h : Below a.heap.size a b) (o : Obj) : Below a.heap.size a (b.alloc o) := h.alloc h.size o
theorem nxw {a b : World} (h : Below a.heap.size a b) : Below a.heap.size a b.drew := below_drewN h 1
/-- the chain of such steps, found by itself -/
theorem bW {n : Nat} {a b : World} (h : Below n a b := by with_reducible repeat first | exact .refl _ _ | refine nxa ?_ _ | refine nxd ?_ _ | refine nxw ?_ | refine nx ?_ ‹_›) : Below n a b := h
/-- which operation stands at a place -/
theorem gO {p : Prop} (h : p := by simp only [List.getElem?_toArray, List.getElem?_cons_succ, List.getElem?_cons_zero]; rfl) : p := h
theorem kR {p : Prop} (h : p := by kernel_rfl) : p := h
theorem sX {α : Type} (l : List α) (i : Nat) (a : α) : l.toArray.setIfInBounds i a = (l.set i a).toArray := List.setIfInBounds_toArray ..
theorem sY {α : Type} (x a : α) (l : List α) : (x :: l).set 0 a = a :: l := rfl
theorem sZ {α : Type} (x a : α) (l : List α) (i : Nat) : (x :: l).set (i + 1) a = x :: l.set i a := rfl
theorem below_of_none {w w' : World} (h : w.grownBy w' none) : Below w.heap.size w w' := ⟨h.os, h.tape, h.output, h.size, fun k hk => h.block k hk (by simp)⟩
theorem own_drewN {w : World} {base : Nat} {e : TypeId} {size : Nat} {v : Value} {n : Nat} {xs : List Value} (h : w.ownsRow base e size v n xs) (m : Nat) : (w.drewN m).ownsRow base e size v n xs := h
theorem below_of_grown {B : Nat} {a w w' : World} {row : Option Nat} (h : Below B a w) (hg : w.grownBy w' row) (hB : B ≤ w.heap.size) (hr : ∀ k, row = some k → B ≤ k) : Below B a w' := h.grown hg hB hr

theorem grownBy_of_below {w w' : World} {row : Option Nat} (h : Below w.heap.size w w') : w.grownBy w' row := ⟨h.os, h.tape, h.output, h.size, fun k hk _ => h.block k hk⟩
theorem own_below {w w' : World} {base : Nat} {e : TypeId} {size : Nat} {v : Value} {n : Nat} {xs : List Value} (h : w.ownsRow base e size v n xs) (hb : Below w.heap.size w w') : w'.ownsRow base e size v n xs :=
  h.kept (grownBy_of_below (row := none) hb) (by cases v.ownBlock <;> simp)
/-! ### a slice that reads as a number's digits -/
def Dig (k : IntKind) (b : Nat) (w : World) (A : Option Addr) (n c x : Nat) : Prop :=
  x < b ^ n ∧ n ≤ c ∧ c ≤ 9223372036854775807 ∧ (0 < n → ∃ g o, A = some ⟨g, o, none⟩ ∧ g < w.heap.size ∧ ∀ j, j < n → w.cell? ⟨g, o + j, none⟩ = some (.int k (dg b j x : Nat)))
section
variable {k : IntKind} {b : Nat} {w w' : World} {A : Option Addr} {n c x : Nat}
theorem Dig.lt (h : Dig k b w A n c x) : x < b ^ n := h.1
theorem Dig.cap (h : Dig k b w A n c x) : n ≤ c := h.2.1
theorem Dig.max (h : Dig k b w A n c x) : c ≤ 9223372036854775807 := h.2.2.1
theorem Dig.at_ (h : Dig k b w A n c x) (hn : 0 < n) : ∃ g o, A = some ⟨g, o, none⟩ ∧ g < w.heap.size ∧ ∀ j, j < n → w.cell? ⟨g, o + j, none⟩ = some (.int k (dg b j x : Nat)) := h.2.2.2 hn
theorem Dig.zero (h : Dig k b w A 0 c x) : x = 0 := by have := h.1; simpa using this
theorem Dig.keep {B : Nat} (h : Dig k b w A n c x) (hs : w.heap.size ≤ w'.heap.size) (hB : w.heap.size ≤ B) (hk : ∀ p : Addr, p.block < B → w'.cell? p = w.cell? p) : Dig k b w' A n c x := by
  refine ⟨h.1, h.2.1, h.2.2.1, fun hn => ?_⟩
  obtain ⟨g, o, e, hg, hc⟩ := h.2.2.2 hn
  exact ⟨g, o, e, by omega, fun j hj => (hk ⟨g, o + j, none⟩ (by show g < B; omega)).trans (hc j hj)⟩
theorem Dig.below {B : Nat} (h : Dig k b w A n c x) (hb : Below B w w') (hB : w.heap.size ≤ B) : Dig k b w' A n c x := h.keep hb.size hB fun _ hp => hb.cell hp
theorem Dig.drewN (h : Dig k b w A n c x) (m : Nat) : Dig k b (w.drewN m) A n c x := h
theorem Dig.drew (h : Dig k b w A n c x) : Dig k b w.drew A n c x := h
theorem Dig.alloc (h : Dig k b w A n c x) (o : Obj) : Dig k b (w.alloc o) A n c x := h.below ((Below.refl w.heap.size w).alloc (Nat.le_refl _) o) (Nat.le_refl _)
theorem Dig.far (h : Dig k b w A n c x) {p : Addr} (hp : ∀ a, A = some a → a.block ≠ p.block) (u : Value) : Dig k b (w.setCell p u) A n c x := by
  refine ⟨h.1, h.2.1, h.2.2.1, fun hn => ?_⟩
  obtain ⟨g, o, e, hg, hc⟩ := h.2.2.2 hn
  exact ⟨g, o, e, by simpa [World.setCell] using hg, fun j hj => (World.cell?_setCell_other w p ⟨g, o + j, none⟩ u (fun e' => hp _ e (by rw [e']))).trans (hc j hj)⟩
theorem Dig.nil (k : IntKind) (b : Nat) (w : World) (A : Option Addr) {c : Nat} (hc : c ≤ 9223372036854775807) : Dig k b w A 0 c 0 := ⟨by simp, Nat.zero_le _, hc, fun h => absurd h (by omega)⟩
end

/-! ### a row of the call's own -/
def dl (k : IntKind) (b n x : Nat) : List Value := (List.range n).map fun j => Value.int k (dg b j x : Nat)
theorem dl_length (k : IntKind) (b n x : Nat) : (dl k b n x).length = n := by simp [dl]
theorem dl_zero (k : IntKind) (b x : Nat) : dl k b 0 x = [] := rfl
theorem dl_get (k : IntKind) (b n x j : Nat) (hj : j < n) : (dl k b n x)[j]? = some (.int k (dg b j x : Nat)) := by simp [dl, hj]
theorem dl_one (k : IntKind) (b n x : Nat) : ∀ u ∈ dl k b n x, u.oneCell' = true := by
  intro u hu
  obtain ⟨_, _, rfl⟩ := List.mem_map.1 hu
  rfl
theorem dl_congr {k : IntKind} {b n x y : Nat} (h : ∀ j, j < n → dg b j x = dg b j y) : dl k b n x = dl k b n y :=
  List.map_congr_left fun j hj => by rw [h j (List.mem_range.1 hj)]
theorem dl_snoc {k : IntKind} {b n x d : Nat} (hb : 0 < b) (hx : x < b ^ n) (hd : d < b) : dl k b n x ++ [.int k (d : Nat)] = dl k b (n + 1) (x + d * b ^ n) := by
  unfold dl
  rw [List.range_succ, List.map_append, List.map_cons, List.map_nil, dg_add_at hx hd]
  congr 1
  exact List.map_congr_left fun j hj => by rw [dg_add_hi hb (List.mem_range.1 hj)]
theorem dl_append {k : IntKind} {b n m x y : Nat} (hb : 0 < b) (hx : x < b ^ n) : dl k b n x ++ dl k b m y = dl k b (n + m) (x + y * b ^ n) := by
  apply List.ext_getElem?
  intro j
  by_cases h1 : j < n
  · rw [List.getElem?_append_left (by rw [dl_length]; exact h1), dl_get _ _ _ _ _ h1, dl_get _ _ _ _ _ (by omega), dg_add_hi hb h1]
  · by_cases h2 : j < n + m
    · rw [List.getElem?_append_right (by rw [dl_length]; omega), dl_length, dl_get _ _ _ _ _ (by omega), dl_get _ _ _ _ _ h2]
      congr 3
      unfold dg
      obtain ⟨i, rfl⟩ : ∃ i, j = n + i := ⟨j - n, by omega⟩
      rw [show n + i - n = i by omega, Nat.pow_add, ← Nat.div_div_eq_div_mul, Nat.add_mul_div_right _ _ (Nat.pow_pos hb), Nat.div_eq_of_lt hx, Nat.zero_add]
    · rw [List.getElem?_eq_none (by simp [dl_length]; omega), List.getElem?_eq_none (by rw [dl_length]; omega)]
theorem dl_zeros (k : IntKind) (b n : Nat) : dl k b n 0 = List.replicate n (.int k 0) := by
  apply List.ext_getElem?
  intro j
  by_cases h : j < n
  · rw [dl_get _ _ _ _ _ h, dg_zero]; simp [h]
  · rw [List.getElem?_eq_none (by rw [dl_length]; omega), List.getElem?_eq_none (by simp; omega)]
theorem dl_set {k : IntKind} {b n x i d : Nat} (hb : 0 < b) (hi : i < n) (hd : d < b) : (dl k b n x).set i (.int k (d : Nat)) = dl k b n (put b i x d) := by
  apply List.ext_getElem?
  intro j
  by_cases h : j < n
  · rw [List.getElem?_set, dl_get _ _ _ _ _ h, dl_get _ _ _ _ _ h, dg_put hb hd]
    by_cases e : i = j
    · subst e; rw [if_pos rfl, if_pos (by rw [dl_length]; exact hi), if_pos rfl]
    · rw [if_neg e, if_neg (fun h => e h.symm)]
  · rw [List.getElem?_eq_none (by simp [dl_length]; omega), List.getElem?_eq_none (by rw [dl_length]; omega)]

section
variable {k : IntKind} {b : Nat} {w w' : World} {base : Nat} {e : TypeId} {v : Value} {n x : Nat}
/-- an owned row's shape -/
theorem own_form (h : w.ownsRow base e 1 v n (dl k b n x)) (hx : x < b ^ n) : ∃ A c, v = .slice A n c ∧ Dig k b w A n c x ∧ ∀ a, A = some a → base ≤ a.block := by
  rcases h.2 with ⟨rfl, rfl⟩ | ⟨g, cap, cur, rfl, hb, hg, hnc, hcm, hcs, htake⟩
  · refine ⟨none, 0, rfl, ⟨hx, Nat.le_refl _, by omega, fun h => absurd h (by omega)⟩, fun a ha => by cases ha⟩
  · refine ⟨_, cap, rfl, ⟨hx, hnc, hcm, fun hn => ⟨g, 0, rfl, (Array.getElem?_eq_some_iff.1 hg).1, fun j hj => ?_⟩⟩, fun a ha => by cases ha; exact hb⟩
    rw [Nat.zero_add, h.cellAt j (by omega)]
    exact dl_get _ _ _ _ _ hj
/-- the same where it lies, for a row that is not empty -/
theorem own_lies (h : w.ownsRow base e 1 v n (dl k b n x)) (hn : 0 < n) : ∃ g c, v = .slice (some ⟨g, 0, none⟩) n c ∧ base ≤ g ∧ g < w.heap.size ∧ n ≤ c ∧ c ≤ 9223372036854775807 ∧ (∀ j, j < n → w.cell? ⟨g, j, none⟩ = some (.int k (dg b j x : Nat))) ∧ ∀ j, w.frozen? ⟨g, j, none⟩ = false := by
  rcases h.2 with ⟨rfl, rfl⟩ | ⟨g, cap, cur, rfl, hb, hg, hnc, hcm, hcs, htake⟩
  · omega
  · exact ⟨g, cap, rfl, hb, (Array.getElem?_eq_some_iff.1 hg).1, hnc, hcm, fun j hj => by rw [h.cellAt j (by omega)]; exact dl_get _ _ _ _ _ hj, fun j => h.frozenAt j⟩
theorem made_dl (k : IntKind) (b n : Nat) : (madeCells #[Value.int k 0] n).toList = dl k b n 0 := by rw [toList_madeCells_one, dl_zeros]
theorem own_nil (w : World) (base : Nat) (e : TypeId) (k : IntKind) (b : Nat) : w.ownsRow base e 1 (.slice none 0 0) 0 (dl k b 0 0) := World.ownsRow_nil w base e 1
/-- one more digit: the cell that append lays for its one new element -/
theorem news_one (w : World) (u : Value) (e : TypeId) : ∀ j v, [u][j]? = some v → (w.alloc (.cells #[u] e)).cell? ((⟨w.heap.size, 0, none⟩ : Addr).add j) = some v := by
  intro j v hj
  match j, hj with
  | 0, hj => simp at hj; subst hj; simp [Addr.add]
theorem one_one (k : IntKind) (d : Int) : ∀ u ∈ [Value.int k d], u.oneCell' = true := by
  intro u hu; simp at hu; subst hu; rfl
/-- what a source reads as, for an append of many -/
theorem Dig.news {A : Option Addr} {c : Nat} (h : Dig k b w A n c x) : ∀ ad, A = some ad → ∀ j u, (dl k b n x)[j]? = some u → w.cell? (ad.add j) = some u := by
  intro ad had j u hu
  have hj : j < n := by
    have := (List.getElem?_eq_some_iff.1 hu).1
    rwa [dl_length] at this
  obtain ⟨g, o, e, _, hc⟩ := h.at_ (by omega)
  rw [had] at e
  obtain rfl := Option.some.inj e
  rw [Addr.add_lit, hc j hj]
  rw [dl_get _ _ _ _ _ hj] at hu
  exact hu
/-- a cut of a slice that reads as digits: from a place on -/
theorem Dig.from_ {A : Option Addr} {c : Nat} (h : Dig k b w A n c x) {i : Nat} (hi : i ≤ n) {A' : Option Addr} (hA : ∀ g o, A = some ⟨g, o, none⟩ → ¬ c = i → A' = some ⟨g, o + i, none⟩) : Dig k b w A' (n - i) (c - i) (x / b ^ i) := by
  have hc := h.cap
  refine ⟨?_, by omega, by have := h.max; omega, fun hn => ?_⟩
  · apply Nat.div_lt_of_lt_mul
    rw [← Nat.pow_add, show i + (n - i) = n by omega]; exact h.1
  · obtain ⟨g, o, e, hg, hcell⟩ := h.at_ (by omega)
    refine ⟨g, o + i, hA g o e (by omega), hg, fun j hj => ?_⟩
    rw [Nat.add_assoc, hcell (i + j) (by omega)]
    congr 3
    unfold dg
    rw [Nat.pow_add, ← Nat.div_div_eq_div_mul]
theorem Dig.shrink {A : Option Addr} {c m : Nat} (h : Dig k b w A n c x) (hm : m ≤ n) (hx : x < b ^ m) : Dig k b w A m c x := by
  have hc := h.cap
  refine ⟨hx, by omega, h.max, fun hn => ?_⟩
  obtain ⟨g, o, e, hg, hcell⟩ := h.at_ (by omega)
  exact ⟨g, o, e, hg, fun j hj => hcell j (by omega)⟩
/-- a cut: up to a place -/
theorem Dig.upto {A : Option Addr} {c : Nat} (hb : 0 < b) (h : Dig k b w A n c x) {i : Nat} (hi : i ≤ n) : Dig k b w A i c (x % b ^ i) := by
  have hc := h.cap
  refine ⟨Nat.mod_lt _ (Nat.pow_pos hb), by omega, h.max, fun hn => ?_⟩
  obtain ⟨g, o, e, hg, hcell⟩ := h.at_ (by omega)
  exact ⟨g, o, e, hg, fun j hj => by rw [hcell j (by omega), dg_mod hb hj]⟩
end

/-! ### append of many to a row of the call's own, the source nil, empty or not -/
section
variable {P : Program} (w : World)
theorem run_append_of_nil (base : Nat) (t ty e : TypeId) (i : TypeInfo) (size : Nat) (ht : P.underlying t = some (.slice e)) (hi : P.info? e = some i)
    (v : Value) (n : Nat) (xs : List Value) (hown : w.ownsRow base e size v n xs) (c : Nat) : (Builtin.append_ #[t, t] ty #[v, .slice none 0 c]).run P w = .ok v w := by
  rcases hown.2 with ⟨rfl, rfl⟩ | ⟨g, cap, cur, rfl, _, _, hnc, _⟩
  · simp [Builtin.append_, run_underlying ht, sizeOf, typeInfo, hi, Builtin.lenOf, Builtin.firstCells]
  · simp [Builtin.append_, run_underlying ht, sizeOf, typeInfo, hi, Builtin.lenOf, Builtin.firstCells, hnc, storeCells]
theorem wpList_append_dig {ops : Array Oper} {rest : List Oper} {o : Oper} {a : Act} {Q : Exit → Act → World → Prop} (hgd : o.guard = none) (s x : Operand) (t : TypeId)
    (ho : o.op = .call { callee := .builtin .append, args := #[s, x], argTypes := #[t, t] })
    (base : Nat) (e : TypeId) (i : TypeInfo) (z : Value) (bytes : Nat) (ht : P.underlying t = some (.slice e)) (hi : P.info? e = some i) (hz : i.zero = some z)
    (hsize : i.size = 1) (hby : i.bytes = bytes) (hzs : z.cells.size = 1) (k : IntKind) (b : Nat)
    (v : Value) (n X : Nat) (hs : a.eval s = v) (hown : w.ownsRow base e 1 v n (dl k b n X)) (A : Option Addr) (m c Y : Nat) (hx : a.eval x = .slice A m c) (hd : Dig k b w A m c Y)
    (h63 : n + m ≤ maxLen) (hbytes : (n + m) * bytes ≤ 140737488355328) (hbase : base ≤ w.heap.size) (hb : 0 < b) (hX : X < b ^ n)
    (h : ∀ v' w', w'.ownsRow base e 1 v' (n + m) (dl k b (n + m) (X + Y * b ^ n)) → w.grownBy w' v.ownBlock → wpList P ops Q rest (a.put o.dst v') w') : wpList P ops Q (o :: rest) a w := by
  rw [← dl_append hb hX] at h
  rcases A with _ | ad
  · have hm : m = 0 := by
      rcases Nat.eq_zero_or_pos m with h0 | h0
      · exact h0
      · obtain ⟨g, o, h, _⟩ := hd.at_ h0
        cases h
    subst hm
    refine wpList_plain hgd fun K hK => ?_
    have hrun := run_append_of_nil (P := P) w base t o.type e i 1 ht hi v n _ hown c
    unfold Oper.wp execOp
    simp only [ho, resolve, invoke, builtin, Sem.run_bind, Sem.run_pure, Result.andThen_ok, List.map_toArray, List.map_cons, List.map_nil, hs, hx, hrun]
    refine hK _ _ (h v w ?_ (World.grownBy.refl w _))
    rw [dl_zero, List.append_nil]; exact hown
  · refine wpList_append_own w hgd s x t ho base e i z 1 bytes ht hi hz hsize hby hzs (by decide) v n _ hs hown ad m c (dl k b m Y) hx (by rw [dl_length]; omega) (hd.news ad rfl) (dl_one _ _ _ _) h63 hbytes hbase ?_
    intro v' w' h1 h2 _
    exact h v' w' h1 h2
end

/-! ### a block of one cell (a struct's box, a result's variable) -/
def Blk1 (w : World) (g : Nat) (t : TypeId) (v : Value) : Prop := w.heap[g]? = some (.cells #[v] t (0, 0))
section
variable {w w' : World} {g : Nat} {t : TypeId} {v : Value}
theorem Blk1.lt (h : Blk1 w g t v) : g < w.heap.size := by
  rcases Nat.lt_or_ge g w.heap.size with hlt | hge
  · exact hlt
  · unfold Blk1 at h; rw [Array.getElem?_eq_none hge] at h; cases h
theorem Blk1.cell (h : Blk1 w g t v) : w.cell? ⟨g, 0, none⟩ = some v := cell_of_row w g 0 _ t (0, 0) h
theorem Blk1.free (h : Blk1 w g t v) : w.frozen? ⟨g, 0, none⟩ = false := by
  unfold Blk1 at h
  simp [World.frozen?, h]
theorem Blk1.new (w : World) (t : TypeId) (v : Value) : Blk1 (w.alloc (.cells #[v] t)) w.heap.size t v := heap_alloc_new w _
theorem Blk1.grown {row : Option Nat} (h : Blk1 w g t v) (hg : w.grownBy w' row) (hr : some g ≠ row) : Blk1 w' g t v := (hg.block g h.lt hr).trans h
theorem Blk1.to (h : Blk1 w g t v) (hb : Below w.heap.size w w') : Blk1 w' g t v := (hb.block g h.lt).trans h
theorem Blk1.drew (h : Blk1 w g t v) : Blk1 w.drew g t v := h
theorem Blk1.drewN (h : Blk1 w g t v) (n : Nat) : Blk1 (w.drewN n) g t v := h
theorem Blk1.alloc (h : Blk1 w g t v) (o : Obj) : Blk1 (w.alloc o) g t v := (Below.heap_alloc w o g h.lt).trans h
theorem Blk1.far (h : Blk1 w g t v) {p : Addr} (hp : g ≠ p.block) (u : Value) : Blk1 (w.setCell p u) g t v := (Below.heap_setCell w p u g hp).trans h
theorem Blk1.below {B : Nat} (h : Blk1 w g t v) (hb : Below B w w') (hg : g < B) : Blk1 w' g t v := (hb.block g hg).trans h
end
/-- a store over a cell that holds no number touches no digits -/
theorem Dig.put_ {k : IntKind} {b : Nat} {w : World} {A : Option Addr} {n c x : Nat} (h : Dig k b w A n c x) {p : Addr} {v : Value} (hp : w.cell? p = some v) (hv : ∀ k i, v ≠ .int k i) (u : Value) : Dig k b (w.setCell p u) A n c x := by
  refine ⟨h.1, h.2.1, h.2.2.1, fun hn => ?_⟩
  obtain ⟨g, o, e, hg, hc⟩ := h.2.2.2 hn
  refine ⟨g, o, e, by simpa [World.setCell] using hg, fun j hj => (World.cell?_setCell_other w p ⟨g, o + j, none⟩ u (fun e' => ?_)).trans (hc j hj)⟩
  have := hc j hj
  rw [← e', hp] at this
  exact hv _ _ (Option.some.inj this)

/-! ### what a function hands back -/
def Fresh (B : Nat) (A : Option Addr) : Prop := ∀ a, A = some a → B ≤ a.block
theorem Fresh.mono {B B' : Nat} {A : Option Addr} (h : Fresh B A) (hB : B' ≤ B) : Fresh B' A := fun a ha => Nat.le_trans hB (h a ha)
def RetDig (k : IntKind) (b : Nat) (w : World) (n x : Nat) (e : Ending) (w' : World) : Prop := ∃ A c, e = .returned (.slice A n c) ∧ Dig k b w' A n c x ∧ Below w.heap.size w w' ∧ Fresh w.heap.size A
def Ret (w : World) (v : Value) (e : Ending) (w' : World) : Prop := e = .returned v ∧ Below w.heap.size w w'
theorem Ret.of_drewN {w w' : World} {e : Ending} {v : Value} (h : e = .returned v ∧ ∃ n, w' = w.drewN n) : Ret w v e w' := by
  obtain ⟨h1, n, rfl⟩ := h
  exact ⟨h1, below_drewN (Below.refl _ _) n⟩
end Go.Proofs.Ytflleaifmeiikaa
