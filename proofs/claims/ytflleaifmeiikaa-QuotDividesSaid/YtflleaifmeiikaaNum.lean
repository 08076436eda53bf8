/- Plain arithmetic of digits: the value of a number, its digit at a place, a digit replaced. No program in sight. -/
import Derived.Laws.BitsAllLaws
import Derived.Laws.BitsLemmas
import Derived.Lib.Mul64
namespace Go.Proofs.Ytflleaifmeiikaa
def W : Nat := 18446744073709551616
theorem W_eq : W = 2 ^ 64 := by decide
theorem W_pos : 0 < W := by decide
def dg (b j x : Nat) : Nat := x / b ^ j % b
theorem dg_lt {b : Nat} (hb : 0 < b) (j x : Nat) : dg b j x < b := Nat.mod_lt _ hb
theorem dg_of_lt {b j x : Nat} (h : x < b ^ j) : dg b j x = 0 := by unfold dg; rw [Nat.div_eq_of_lt h]; exact Nat.zero_mod _
theorem dg_zero (b j : Nat) : dg b j 0 = 0 := by simp [dg]
theorem low_succ (b j x : Nat) : x % b ^ (j + 1) = x % b ^ j + dg b j x * b ^ j := by
  rw [Nat.mod_pow_succ, Nat.mul_comm]; rfl
theorem low_zero (b x : Nat) : x % b ^ 0 = 0 := by simp [Nat.mod_one]
/-- digits above a place do not touch those below it -/
theorem dg_add_hi {b : Nat} (hb : 0 < b) {i j x d : Nat} (hj : j < i) : dg b j (x + d * b ^ i) = dg b j x := by
  unfold dg
  obtain ⟨k, rfl⟩ : ∃ k, i = j + 1 + k := ⟨i - (j + 1), by omega⟩
  have h1 : d * b ^ (j + 1 + k) = b ^ j * (b * (d * b ^ k)) := by
    rw [Nat.pow_add, Nat.pow_succ]; simp only [Nat.mul_assoc, Nat.mul_left_comm]
  rw [h1, Nat.add_mul_div_left _ _ (Nat.pow_pos hb), Nat.add_mul_mod_self_left]
theorem dg_add_at {b : Nat} {i x d : Nat} (hx : x < b ^ i) (hd : d < b) : dg b i (x + d * b ^ i) = d := by
  unfold dg
  have hb : 0 < b ^ i := by omega
  rw [Nat.add_mul_div_right _ _ hb, Nat.div_eq_of_lt hx, Nat.zero_add, Nat.mod_eq_of_lt hd]
theorem dg_mod {b : Nat} (hb : 0 < b) {i j x : Nat} (hj : j < i) : dg b j (x % b ^ i) = dg b j x := by
  have h := Nat.mod_add_div x (b ^ i)
  have h2 : dg b j (x % b ^ i + x / b ^ i * b ^ i) = dg b j (x % b ^ i) := dg_add_hi hb hj
  rw [← h2, Nat.mul_comm (x / b ^ i), h]
theorem low_lt {b : Nat} (hb : 0 < b) (i x : Nat) : x % b ^ i < b ^ i := Nat.mod_lt _ (Nat.pow_pos hb)
theorem add_lt_succ {b i x d : Nat} (hx : x < b ^ i) (hd : d < b) : x + d * b ^ i < b ^ (i + 1) := by
  rw [Nat.pow_succ, Nat.mul_comm (b ^ i)]
  have : (d + 1) * b ^ i ≤ b * b ^ i := Nat.mul_le_mul_right _ hd
  rw [Nat.add_mul] at this
  omega
theorem pow_le {b : Nat} (hb : 0 < b) {i j : Nat} (h : i ≤ j) : b ^ i ≤ b ^ j := Nat.pow_le_pow_right hb h
theorem dg_ext {b n : Nat} : ∀ {x y : Nat}, x < b ^ n → y < b ^ n → (∀ j, j < n → dg b j x = dg b j y) → x = y := by
  intro x y hx hy h
  have : ∀ i, i ≤ n → x % b ^ i = y % b ^ i := by
    intro i
    induction i with
    | zero => intro _; simp [Nat.mod_one]
    | succ i ih => intro hi; rw [low_succ, low_succ, ih (by omega), h i (by omega)]
  have := this n (Nat.le_refl _)
  rwa [Nat.mod_eq_of_lt hx, Nat.mod_eq_of_lt hy] at this
/-- the value of a list of digits -/
def val (b : Nat) : List Nat → Nat
  | [] => 0
  | d :: l => d + b * val b l
theorem val_lt {b : Nat} (hb : 0 < b) : ∀ {l : List Nat}, (∀ d ∈ l, d < b) → val b l < b ^ l.length
  | [], _ => by simp [val]
  | d :: l, h => by
    have h1 := val_lt hb (l := l) (fun x hx => h x (by simp [hx]))
    have h2 := h d (by simp)
    have h3 : b * (val b l + 1) ≤ b * b ^ l.length := Nat.mul_le_mul_left _ h1
    rw [val, List.length_cons, Nat.pow_succ, Nat.mul_comm (b ^ l.length)]
    rw [Nat.mul_add] at h3
    omega
theorem dg_val {b : Nat} (hb : 0 < b) : ∀ {l : List Nat} {j : Nat}, (∀ d ∈ l, d < b) → j < l.length → dg b j (val b l) = l.getD j 0
  | [], _, _, hj => by simp at hj
  | d :: l, 0, h, _ => by
    have h2 := h d (by simp)
    simp [dg, val, Nat.mod_eq_of_lt h2]
  | d :: l, j + 1, h, hj => by
    have h2 := h d (by simp)
    have ih := dg_val hb (l := l) (j := j) (fun x hx => h x (by simp [hx])) (by simpa using hj)
    have e : dg b (j + 1) (val b (d :: l)) = dg b j (val b l) := by
      show (d + b * val b l) / b ^ (j + 1) % b = val b l / b ^ j % b
      rw [Nat.pow_succ, Nat.mul_comm (b ^ j), ← Nat.div_div_eq_div_mul, Nat.add_mul_div_left _ _ hb, Nat.div_eq_of_lt h2, Nat.zero_add]
    rw [e, ih]; rfl
/-- the digit at one place replaced -/
def put (b i x d : Nat) : Nat := x % b ^ i + d * b ^ i + x / b ^ (i + 1) * b ^ (i + 1)
theorem put_split (b i x : Nat) : x = x % b ^ i + dg b i x * b ^ i + x / b ^ (i + 1) * b ^ (i + 1) := by
  have h1 := Nat.mod_add_div x (b ^ (i + 1))
  rw [low_succ, Nat.mul_comm (b ^ (i + 1))] at h1
  omega
theorem dg_put {b : Nat} (hb : 0 < b) {i j x d : Nat} (hd : d < b) : dg b j (put b i x d) = if j = i then d else dg b j x := by
  unfold put
  have hl := low_lt hb i x
  by_cases h : j < i
  · rw [if_neg (by omega), dg_add_hi hb (by omega), dg_add_hi hb h, dg_mod hb h]
  · by_cases h2 : j = i
    · subst h2
      rw [if_pos rfl, dg_add_hi hb (by omega), dg_add_at hl hd]
    · rw [if_neg h2]
      have hs := add_lt_succ hl hd
      generalize x % b ^ i + d * b ^ i = y at hs
      obtain ⟨k, rfl⟩ : ∃ k, j = i + 1 + k := ⟨j - (i + 1), by omega⟩
      unfold dg
      generalize i + 1 = m at *
      rw [Nat.pow_add, ← Nat.div_div_eq_div_mul, ← Nat.div_div_eq_div_mul, Nat.add_mul_div_right _ _ (Nat.pow_pos hb), Nat.div_eq_of_lt hs, Nat.zero_add]
theorem put_lt {b : Nat} (hb : 0 < b) {i n x d : Nat} (hi : i < n) (hx : x < b ^ n) (hd : d < b) : put b i x d < b ^ n := by
  unfold put
  have hs := add_lt_succ (low_lt hb i x) hd
  obtain ⟨k, rfl⟩ : ∃ k, n = i + 1 + k := ⟨n - (i + 1), by omega⟩
  generalize x % b ^ i + d * b ^ i = y at *
  generalize i + 1 = m at *
  rw [Nat.pow_add] at hx ⊢
  have h1 : x / b ^ m < b ^ k := Nat.div_lt_of_lt_mul hx
  have h2 : (x / b ^ m + 1) * b ^ m ≤ b ^ k * b ^ m := Nat.mul_le_mul_right _ h1
  rw [Nat.add_mul, Nat.mul_comm (b ^ k)] at h2
  omega
/-- a fresh top digit -/
theorem put_top {b i x d : Nat} (hx : x < b ^ i) : put b i x d = x + d * b ^ i := by
  unfold put
  have hb : 0 < b ^ i := by omega
  have h : x / b ^ (i + 1) = 0 := by
    rw [Nat.pow_succ, ← Nat.div_div_eq_div_mul, Nat.div_eq_of_lt hx, Nat.zero_div]
  rw [Nat.mod_eq_of_lt hx, h]; simp

/-! ### the digits from a place on, and those below it (names that simp does not look behind) -/
def up (b k x : Nat) : Nat := x / b ^ k
def low (b k x : Nat) : Nat := x % b ^ k
theorem up_zero (b x : Nat) : up b 0 x = x := by simp [up]
theorem low_nought (b x : Nat) : low b 0 x = 0 := by simp [low, Nat.mod_one]
theorem up_mod (b k x : Nat) : up b k x % b = dg b k x := rfl
theorem up_succ (b k x : Nat) : up b k x / b = up b (k + 1) x := by unfold up; rw [Nat.pow_succ, Nat.div_div_eq_div_mul]
theorem up_le (b k x : Nat) : up b k x ≤ x := Nat.div_le_self _ _
theorem up_up (b i k x : Nat) : up b i (up b k x) = up b (k + i) x := by unfold up; rw [Nat.pow_add, Nat.div_div_eq_div_mul]
theorem dg_up (b i k x : Nat) : dg b i (up b k x) = dg b (k + i) x := by
  show up b i (up b k x) % b = up b (k + i) x % b
  rw [up_up]
theorem low_next (b k x : Nat) : low b k x + dg b k x * b ^ k = low b (k + 1) x := (low_succ b k x).symm
theorem low_bound {b : Nat} (hb : 0 < b) (k x : Nat) : low b k x < b ^ k := low_lt hb k x
theorem low_all {b k x : Nat} (h : x < b ^ k) : low b k x = x := Nat.mod_eq_of_lt h
theorem low_up_succ (b k m x : Nat) : low b (m + 1) (up b k x) = dg b k x + b * low b m (up b (k + 1) x) := by
  unfold low up dg
  rw [Nat.pow_succ, Nat.mul_comm (b ^ m), Nat.mod_mul, Nat.pow_succ, Nat.div_div_eq_div_mul]
theorem low_add_up (b k x : Nat) : low b k x + up b k x * b ^ k = x := Nat.mod_add_div' x (b ^ k)
theorem low_low {b k m x : Nat} (h : k ≤ m) : low b k (low b m x) = low b k x := by
  unfold low
  exact Nat.mod_mod_of_dvd x (Nat.pow_dvd_pow b h)
theorem le_W {x : Nat} (h : x < W) : x ≤ 18446744073709551615 := by unfold W at h; omega
/-- the carry into place k of a sum -/
def carry (b k x y : Nat) : Nat := (low b k x + low b k y) / b ^ k
theorem carry_zero (b x y : Nat) : carry b 0 x y = 0 := by unfold carry; rw [low_nought, low_nought]; simp
theorem carry_le {b : Nat} (hb : 0 < b) (k x y : Nat) : carry b k x y ≤ 1 := by
  unfold carry
  have h1 := low_bound hb k x
  have h2 := low_bound hb k y
  have hp : 0 < b ^ k := Nat.pow_pos hb
  have : (low b k x + low b k y) / b ^ k < 2 := (Nat.div_lt_iff_lt_mul hp).2 (by omega)
  omega
theorem carry_step {b : Nat} (hb : 0 < b) (k x y : Nat) :
    (carry b k x y + dg b k x + dg b k y) / b = carry b (k + 1) x y ∧ (carry b k x y + dg b k x + dg b k y) % b = dg b k (x + y) := by
  have hp : 0 < b ^ k := Nat.pow_pos hb
  have e : low b (k + 1) x + low b (k + 1) y = (low b k x + low b k y) % b ^ k + b ^ k * (carry b k x y + dg b k x + dg b k y) := by
    have h := Nat.mod_add_div (low b k x + low b k y) (b ^ k)
    rw [← low_next, ← low_next, Nat.mul_add, Nat.mul_add, Nat.mul_comm (dg b k x), Nat.mul_comm (dg b k y)]
    unfold carry
    omega
  have h1 : (low b (k + 1) x + low b (k + 1) y) / b ^ k = carry b k x y + dg b k x + dg b k y := by
    rw [e, Nat.add_mul_div_left _ _ hp, Nat.div_eq_of_lt (Nat.mod_lt _ hp), Nat.zero_add]
  refine ⟨?_, ?_⟩
  · unfold carry at *
    rw [← h1, Nat.div_div_eq_div_mul, ← Nat.pow_succ]
  · rw [← h1]
    have : low b (k + 1) (x + y) = low b (k + 1) (low b (k + 1) x + low b (k + 1) y) := by
      unfold low; rw [Nat.add_mod]
    have h2 : dg b k (x + y) = dg b k (low b (k + 1) x + low b (k + 1) y) := by
      rw [← dg_mod hb (Nat.lt_succ_self k), ← dg_mod hb (Nat.lt_succ_self k) (x := low b (k + 1) x + low b (k + 1) y)]
      exact congrArg _ this
    rw [h2]; rfl
end Go.Proofs.Ytflleaifmeiikaa
