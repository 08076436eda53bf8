/- The plain law of words, second part: lengths, trailing noughts, division by half words. No program in sight. -/
import Derived.Test.YtflleaifmeiikaaWordLaw
namespace Go.Proofs.Ytflleaifmeiikaa
/-! ### lengths, bit by bit -/
def LenRel (x kk yy nn : Nat) : Prop := (kk = 0 ∨ kk = 1 ∨ kk = 2 ∨ kk = 4 ∨ kk = 8 ∨ kk = 16 ∨ kk = 32) ∧ yy < 2 ^ (max (2 * kk) 1) ∧ nn + blen yy = blen x
theorem LenRel.no {x kk yy nn : Nat} (h : LenRel x kk yy nn) (hk : 0 < kk) (h0 : yy / 2 ^ kk = 0) : LenRel x (kk / 2) yy nn := by
  obtain ⟨h1, h2, h3⟩ := h
  have h4 : yy < 2 ^ kk := by
    rcases Nat.lt_or_ge yy (2 ^ kk) with h | h
    · exact h
    · have := Nat.div_pos h (Nat.pow_pos (by omega)); omega
  refine ⟨by omega, Nat.lt_of_lt_of_le h4 (Nat.pow_le_pow_right (by omega) (by omega)), h3⟩
theorem LenRel.yes {x kk yy nn : Nat} (h : LenRel x kk yy nn) (hk : 0 < kk) (h0 : yy / 2 ^ kk ≠ 0) : LenRel x (kk / 2) (yy / 2 ^ kk) (nn + kk) := by
  obtain ⟨h1, h2, h3⟩ := h
  have h5 : yy / 2 ^ kk < 2 ^ kk := by
    refine Nat.div_lt_of_lt_mul ?_
    rw [← Nat.pow_add]
    exact Nat.lt_of_lt_of_le h2 (Nat.pow_le_pow_right (by omega) (by omega))
  refine ⟨by omega, Nat.lt_of_lt_of_le h5 (Nat.pow_le_pow_right (by omega) (by omega)), ?_⟩
  rw [← h3, blen_shift h0]; omega
theorem LenRel.le {x kk yy nn : Nat} (h : LenRel x kk yy nn) (hx : x < W) : nn ≤ 64 := by
  have := h.2.2
  have := blen_le_of_lt (x := x) (k := 64) hx
  omega
theorem LenRel.fin {x yy nn : Nat} (h : LenRel x 0 yy nn) : nn + yy = blen x := by
  obtain ⟨_, h2, h3⟩ := h
  rw [← h3]
  have : yy = 0 ∨ yy = 1 := by simp at h2; omega
  rcases this with rfl | rfl
  · rfl
  · rfl
theorem LenRel.small {x yy nn : Nat} (h : LenRel x 0 yy nn) : yy ≤ 1 := by
  have := h.2.1; simp at this; omega

/-! ### trailing noughts -/
theorem odd_part : ∀ x : Nat, x ≠ 0 → ∃ t m, x = 2 ^ t * (2 * m + 1) := by
  intro x
  induction x using Nat.strongRecOn with
  | ind x ih =>
    intro hx
    by_cases h : x % 2 = 1
    · exact ⟨0, x / 2, by omega⟩
    · obtain ⟨t, m, e⟩ := ih (x / 2) (by omega) (by omega)
      refine ⟨t + 1, m, ?_⟩
      rw [Nat.pow_succ, Nat.mul_comm (2 ^ t) 2, Nat.mul_assoc, ← e]; omega
theorem odd_unique {t m s n : Nat} (h : 2 ^ t * (2 * m + 1) = 2 ^ s * (2 * n + 1)) : t = s := by
  have key : ∀ {t m s n : Nat}, t < s → 2 ^ t * (2 * m + 1) ≠ 2 ^ s * (2 * n + 1) := by
    intro t m s n hlt h
    obtain ⟨k, rfl⟩ : ∃ k, s = t + (k + 1) := ⟨s - t - 1, by omega⟩
    rw [Nat.pow_add, Nat.mul_assoc] at h
    have := Nat.eq_of_mul_eq_mul_left (Nat.pow_pos (by omega)) h
    rw [Nat.pow_succ, Nat.mul_comm (2 ^ k) 2, Nat.mul_assoc] at this
    omega
  rcases Nat.lt_trichotomy t s with h1 | h1 | h1
  · exact absurd h (key h1)
  · exact h1
  · exact absurd h.symm (key h1)
theorem and_neg_odd (m k : Nat) (h : 2 * m + 1 < 2 ^ k) : (2 * m + 1) &&& (2 ^ k - (2 * m + 1)) = 1 := by
  apply Nat.eq_of_testBit_eq
  intro i
  rw [Nat.testBit_and]
  rcases k with _ | k
  · simp at h
  have e : 2 ^ (k + 1) - (2 * m + 1) = 2 * (2 ^ k - (m + 1)) + 1 := by rw [Nat.pow_succ] at *; omega
  rw [e]
  cases i with
  | zero => simp
  | succ i =>
    have h1 : (2 * m + 1).testBit (i + 1) = m.testBit i := by rw [Nat.testBit_succ]; congr 1; omega
    have h2 : (2 * (2 ^ k - (m + 1)) + 1).testBit (i + 1) = (2 ^ k - (m + 1)).testBit i := by rw [Nat.testBit_succ]; congr 1; omega
    have h3 : Nat.testBit 1 (i + 1) = false := by rw [Nat.testBit_succ]; simp
    rw [h1, h2, h3, Nat.testBit_two_pow_sub_succ (by rw [Nat.pow_succ] at h; omega)]
    cases m.testBit i <;> simp
theorem and_neg (t m : Nat) (h : 2 ^ t * (2 * m + 1) < W) : (2 ^ t * (2 * m + 1)) &&& (W - 2 ^ t * (2 * m + 1)) = 2 ^ t := by
  have ht : t < 64 := by
    rcases Nat.lt_or_ge t 64 with h1 | h1
    · exact h1
    · have := Nat.pow_le_pow_right (n := 2) (by omega) h1
      have : 2 ^ t * 1 ≤ 2 ^ t * (2 * m + 1) := Nat.mul_le_mul_left _ (by omega)
      rw [W_eq] at h; omega
  obtain ⟨k, hk⟩ : ∃ k, 64 = t + k := ⟨64 - t, by omega⟩
  have e : W = 2 ^ t * 2 ^ k := by rw [← Nat.pow_add, ← hk]; rfl
  rw [e] at h ⊢
  have h2 := Nat.lt_of_mul_lt_mul_left h
  rw [← Nat.mul_sub]
  rw [Nat.mul_comm (2 ^ t) (2 * m + 1), Nat.mul_comm (2 ^ t) (2 ^ k - _), ← Nat.shiftLeft_eq, ← Nat.shiftLeft_eq, ← Nat.shiftLeft_and_distrib, and_neg_odd m k h2, Nat.shiftLeft_eq, Nat.one_mul]
theorem blen_pow (t : Nat) : blen (2 ^ t) = t + 1 := blen_unique (by rw [Nat.pow_succ]; have := Nat.pow_pos (a := 2) (n := t) (by omega); omega) (fun _ => by simp)
def tz (x : Nat) : Nat := if x = 0 then 64 else blen (x &&& (W - x)) - 1
theorem tz_odd (t m : Nat) (h : 2 ^ t * (2 * m + 1) < W) : tz (2 ^ t * (2 * m + 1)) = t := by
  unfold tz
  rw [if_neg (Nat.mul_ne_zero (by have := Nat.pow_pos (a := 2) (n := t) (by omega); omega) (by omega)), and_neg t m h, blen_pow]; rfl

/-! ### a half word of a quotient -/
def H : Nat := 4294967296
theorem digit_math (u nx y q r : Nat) (hy : 9223372036854775808 ≤ y) (hu : u < y) (hn : nx < H) (hinv : q * (y / H) + r = u) (hge : (u * H + nx) / y ≤ q) :
    (H ≤ q ∨ r * H + nx < q * (y % H) → (u * H + nx) / y ≤ q - 1 ∧ 0 < q) ∧ (q * (y % H) ≤ r * H + nx → (u * H + nx) / y = q) := by
  have hyy : y = y / H * H + y % H := (Nat.div_add_mod' y H).symm
  have hN : u * H + nx = (q * (y / H) + r) * H + nx := by rw [hinv]
  have hlt : (u * H + nx) / y < H := by
    apply Nat.div_lt_of_lt_mul
    have : (u + 1) * H ≤ y * H := Nat.mul_le_mul_right _ hu
    rw [Nat.add_mul] at this; omega
  have hq : q * y = q * (y / H) * H + q * (y % H) := by
    conv => lhs; rw [hyy]
    rw [Nat.mul_add, Nat.mul_assoc]
  rw [Nat.add_mul] at hN
  have hy0 : 0 < y := by omega
  refine ⟨fun h => ?_, fun h => ?_⟩
  · rcases h with h | h
    · generalize (u * H + nx) / y = f at hlt ⊢
      omega
    · have : (u * H + nx) / y < q := by
        apply (Nat.div_lt_iff_lt_mul hy0).2
        rw [hq]; omega
      generalize (u * H + nx) / y = f at this ⊢
      omega
  · have : q ≤ (u * H + nx) / y := by
      apply (Nat.le_div_iff_mul_le hy0).2
      rw [hq]; omega
    exact Nat.le_antisymm hge this
def DigRel (u nx y qq rr : Nat) : Prop := qq * (y / H) + rr = u ∧ (u * H + nx) / y ≤ qq ∧ rr < H ∧ qq ≤ H + 1
theorem DigRel.start {u nx y : Nat} (hy : 9223372036854775808 ≤ y) (hyw : y < W) (hu : u < y) (hn : nx < H) : DigRel u nx y (u / (y / H)) (u % (y / H)) := by
  have h1 : 2147483648 ≤ y / H := by unfold H; omega
  have h2 : y / H < H := by unfold H W at *; omega
  have h3 : y = y / H * H + y % H := (Nat.div_add_mod' y H).symm
  have h4 : y % H < H := Nat.mod_lt _ (by decide)
  refine ⟨Nat.div_add_mod' u _, ?_, Nat.lt_trans (Nat.mod_lt _ (by omega)) h2, ?_⟩
  · rw [Nat.le_div_iff_mul_le (by omega)]
    have h5 : (u * H + nx) / y * y ≤ u * H + nx := Nat.div_mul_le_self _ _
    generalize (u * H + nx) / y = f at *
    have h6 : f * (y / H) * H ≤ f * y := by rw [Nat.mul_assoc]; exact Nat.mul_le_mul_left _ (by omega)
    have h7 : f * (y / H) * H < (u + 1) * H := by rw [Nat.add_mul]; omega
    have := Nat.lt_of_mul_lt_mul_right h7
    omega
  · rw [Nat.le_iff_lt_add_one, Nat.div_lt_iff_lt_mul (by omega)]
    have : (H + 1 + 1) * (y / H) = y / H * H + 2 * (y / H) := by rw [Nat.add_mul, Nat.add_mul, Nat.mul_comm]; omega
    have : 2 * (y / H) ≥ H := by unfold H at *; omega
    omega
theorem DigRel.step {u nx y qq rr : Nat} (hy : 9223372036854775808 ≤ y) (hu : u < y) (hn : nx < H) (h : DigRel u nx y qq rr) (c : H ≤ qq ∨ rr * H + nx < qq * (y % H)) : 0 < qq ∧ (rr + y / H < H → DigRel u nx y (qq - 1) (rr + y / H)) ∧ (H ≤ rr + y / H → (u * H + nx) / y = qq - 1) := by
  obtain ⟨h1, h2, h3, h4⟩ := h
  obtain ⟨a1, a2⟩ := (digit_math u nx y qq rr hy hu hn h1 h2).1 c
  have e : (qq - 1) * (y / H) + (rr + y / H) = u := by
    rw [← h1]
    have : qq * (y / H) = (qq - 1) * (y / H) + y / H := by
      conv => lhs; rw [show qq = (qq - 1) + 1 by omega, Nat.add_mul, Nat.one_mul]
    omega
  refine ⟨a2, fun h5 => ⟨e, a1, h5, by omega⟩, fun h5 => ?_⟩
  refine (digit_math u nx y (qq - 1) (rr + y / H) hy hu hn e a1).2 ?_
  have h6 : (qq - 1) * (y % H) ≤ H * H := Nat.mul_le_mul (by omega) (Nat.le_of_lt (Nat.mod_lt _ (by decide)))
  have h7 : H * H ≤ (rr + y / H) * H := Nat.mul_le_mul_right _ h5
  omega
theorem DigRel.done {u nx y qq rr : Nat} (hy : 9223372036854775808 ≤ y) (hu : u < y) (hn : nx < H) (h : DigRel u nx y qq rr) (c : qq * (y % H) ≤ rr * H + nx) : (u * H + nx) / y = qq :=
  (digit_math u nx y qq rr hy hu hn h.1 h.2.1).2 c
theorem digit_rest (u nx y qq : Nat) (hy : 0 < y) (hyw : y < W) (hq : (u * H + nx) / y = qq) : IntKind.u64.wrap (IntKind.u64.wrap (IntKind.u64.wrap ((u : Int) * 4294967296) + (nx : Int)) - IntKind.u64.wrap ((qq : Int) * (y : Int))) = (((u * H + nx) % y : Nat) : Int) := by
  rw [show (4294967296 : Int) = ((H : Nat) : Int) from rfl, wrap_mul, wrap_add, wrap_mul, wrap_sub _ _ (Nat.mod_lt _ W_pos)]
  congr 1
  have h1 := Nat.mod_add_div (u * H + nx) y
  have h2 : (u * H + nx) % y < W := Nat.lt_trans (Nat.mod_lt _ hy) hyw
  rw [hq, Nat.mul_comm y] at h1
  generalize (u * H + nx) % y = r at *
  generalize qq * y = p at *
  generalize u * H = a at *
  rw [Nat.mod_add_mod]
  unfold W at *
  omega

/-! ### Div -/
theorem lead_bounds {y : Nat} (hy : y ≠ 0) (hyw : y < W) : blen y ≤ 64 ∧ 1 ≤ blen y ∧ y * 2 ^ (64 - blen y) < W ∧ 9223372036854775808 ≤ y * 2 ^ (64 - blen y) := by
  have h1 : blen y ≤ 64 := blen_le_of_lt hyw
  have h2 := blen_pos hy
  have h3 := blen_lt y
  have h4 := blen_le hy
  have hp : 0 < 2 ^ (64 - blen y) := Nat.pow_pos (by omega)
  refine ⟨h1, h2, ?_, ?_⟩
  · have := Nat.mul_lt_mul_of_pos_right h3 hp
    rw [← Nat.pow_add, show blen y + (64 - blen y) = 64 by omega] at this
    exact this
  · have := Nat.mul_le_mul_right (2 ^ (64 - blen y)) h4
    rw [← Nat.pow_add, show blen y - 1 + (64 - blen y) = 63 by omega] at this
    exact this
/-- a number shifted up, another one's highest bits below it -/
theorem shl_or (hi lo s : Nat) (hs : s ≤ 63) (hlo : lo < W) : hi * 2 ^ s ||| lo / 2 ^ (64 - s) = hi * 2 ^ s + lo / 2 ^ (64 - s) := by
  have h : lo / 2 ^ (64 - s) < 2 ^ s := by
    apply Nat.div_lt_of_lt_mul
    rw [← Nat.pow_add, show 64 - s + s = 64 by omega]; exact hlo
  rw [Nat.mul_comm hi, ← Nat.two_pow_add_eq_or_of_lt h]
theorem split_at (lo s : Nat) (hs : s ≤ 64) : lo / 2 ^ (64 - s) * W + lo * 2 ^ s % W = lo * 2 ^ s := by
  have h := Nat.div_add_mod' (lo * 2 ^ s) W
  have e : lo * 2 ^ s / W = lo / 2 ^ (64 - s) := by
    have : W = 2 ^ (64 - s) * 2 ^ s := by rw [← Nat.pow_add, show 64 - s + s = 64 by omega]; rfl
    rw [this, Nat.mul_div_mul_right _ _ (Nat.pow_pos (by omega))]
  rw [e] at h; exact h
/-- two half words' quotients are a word's -/
theorem two_digits_at {B hi lo y : Nat} (hy : 0 < y) :
    (hi * B + lo / B) / y * B + ((hi * B + lo / B) % y * B + lo % B) / y = (hi * (B * B) + lo) / y ∧ ((hi * B + lo / B) % y * B + lo % B) % y = (hi * (B * B) + lo) % y := by
  have h1 := Nat.div_add_mod' (hi * B + lo / B) y
  have h2 := Nat.div_add_mod' ((hi * B + lo / B) % y * B + lo % B) y
  have h3 : lo / B * B + lo % B = lo := Nat.div_add_mod' lo B
  have h4 : ((hi * B + lo / B) % y * B + lo % B) % y < y := Nat.mod_lt _ hy
  generalize (hi * B + lo / B) % y = r at *
  generalize (hi * B + lo / B) / y = q1 at *
  generalize (r * B + lo % B) / y = q0 at *
  generalize (r * B + lo % B) % y = r0 at *
  have a1 : (hi * B + lo / B) * B = hi * (B * B) + lo / B * B := by rw [Nat.add_mul, Nat.mul_assoc]
  have a2 : (q1 * y + r) * B = q1 * y * B + r * B := Nat.add_mul _ _ _
  have a3 : y * (q1 * B) = q1 * y * B := by rw [← Nat.mul_assoc, Nat.mul_comm y q1]
  have a4 : y * (q1 * B + q0) = q1 * y * B + q0 * y := by rw [Nat.mul_add, a3, Nat.mul_comm y q0]
  rw [h1] at a2
  have e : hi * (B * B) + lo = y * (q1 * B + q0) + r0 := by omega
  rw [e]
  exact ⟨by rw [Nat.mul_add_div hy, Nat.div_eq_of_lt h4]; rfl, by rw [Nat.mul_add_mod, Nat.mod_eq_of_lt h4]⟩
theorem two_digits {hi lo y : Nat} (hy : 0 < y) :
    (hi * H + lo / H) / y * H + ((hi * H + lo / H) % y * H + lo % H) / y = (hi * W + lo) / y ∧ ((hi * H + lo / H) % y * H + lo % H) % y = (hi * W + lo) % y :=
  two_digits_at hy
/-- shifted up, divided, shifted down -/
theorem div_shifted {N y s : Nat} : N * 2 ^ s / (y * 2 ^ s) = N / y ∧ N * 2 ^ s % (y * 2 ^ s) / 2 ^ s = N % y := by
  have hp : 0 < 2 ^ s := Nat.pow_pos (by omega)
  exact ⟨Nat.mul_div_mul_right _ _ hp, by rw [Nat.mul_mod_mul_right, Nat.mul_div_cancel _ hp]⟩
theorem div_all {hi lo y : Nat} (hyw : y < W) (h : hi < y) (hlo : lo < W) :
    let s := 64 - blen y
    let Y := y * 2 ^ s
    let h' := hi * 2 ^ s + lo / 2 ^ (64 - s)
    let l' := lo * 2 ^ s % W
    h' < Y ∧ Y < W ∧ 9223372036854775808 ≤ Y ∧ (h' * H + l' / H) % Y < Y ∧ (h' * H + l' / H) / Y * H + ((h' * H + l' / H) % Y * H + l' % H) / Y = (hi * W + lo) / y ∧ ((h' * H + l' / H) % Y * H + l' % H) % Y / 2 ^ s = (hi * W + lo) % y ∧ hi * 2 ^ s < W ∧ (hi * W + lo) / y < W := by
  intro s Y h' l'
  obtain ⟨b1, b2, b3, b4⟩ := lead_bounds (y := y) (by omega) hyw
  have hs : s ≤ 63 := by show 64 - blen y ≤ 63; omega
  have hp : 0 < 2 ^ s := Nat.pow_pos (by omega)
  have e : h' * W + l' = (hi * W + lo) * 2 ^ s := by
    have := split_at lo s (by omega)
    show (hi * 2 ^ s + lo / 2 ^ (64 - s)) * W + lo * 2 ^ s % W = _
    rw [Nat.add_mul, Nat.add_mul, Nat.add_assoc, this, Nat.mul_right_comm]
  have hY : h' < Y := by
    have h1 : lo / 2 ^ (64 - s) < 2 ^ s := by
      apply Nat.div_lt_of_lt_mul
      rw [← Nat.pow_add, show 64 - s + s = 64 by omega]; exact hlo
    have h2 : (hi + 1) * 2 ^ s ≤ y * 2 ^ s := Nat.mul_le_mul_right _ h
    show hi * 2 ^ s + lo / 2 ^ (64 - s) < y * 2 ^ s
    rw [Nat.add_mul] at h2; omega
  have hY0 : 0 < Y := Nat.lt_of_le_of_lt (Nat.zero_le _) hY
  have t := two_digits (hi := h') (lo := l') hY0
  have d := div_shifted (N := hi * W + lo) (y := y) (s := s)
  rw [e] at t
  refine ⟨hY, b3, b4, Nat.mod_lt _ hY0, t.1.trans d.1, ?_, ?_, ?_⟩
  · rw [t.2]; exact d.2
  · have : hi * 2 ^ s ≤ y * 2 ^ s := Nat.mul_le_mul_right _ (by omega)
    exact Nat.lt_of_le_of_lt this b3
  · apply Nat.div_lt_of_lt_mul
    have : (hi + 1) * W ≤ y * W := Nat.mul_le_mul_right _ h
    rw [Nat.add_mul] at this; omega
end Go.Proofs.Ytflleaifmeiikaa
