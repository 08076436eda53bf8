/- Plain law of whole numbers: a sign and a number; sums, products, order, quotients rounded down. No program in sight. -/
import Derived.Test.YtihbpkljjmpkjaaKA
set_option linter.unusedVariables false
set_option linter.unusedSimpArgs false
namespace Go.Proofs.Ytihbpkljjmpkjaa
/-- a number with a sign -/
def sg (b : Bool) (x : Nat) : Int := if b then -(x : Int) else (x : Int)
def bz (z : Int) : Bool := decide (z < 0)
theorem sg_self (z : Int) : sg (bz z) z.natAbs = z := by
  unfold sg bz
  rcases Int.lt_or_le z 0 with h | h
  · rw [if_pos (decide_eq_true h)]; omega
  · rw [if_neg (by simp; omega)]; omega
theorem sg_abs (b : Bool) (x : Nat) : (sg b x).natAbs = x := by
  unfold sg; cases b <;> simp
theorem sg_below (b : Bool) (x : Nat) : bz (sg b x) = (b && !decide (x = 0)) := by
  unfold sg bz
  cases b
  · simp
  · by_cases h : x = 0
    · subst h; rfl
    · simp [h]; omega
theorem sg_false (x : Nat) : sg false x = (x : Int) := rfl
theorem sg_true (x : Nat) : sg true x = -(x : Int) := rfl
theorem bz_true {z : Int} : bz z = true ↔ z < 0 := by unfold bz; simp
theorem bz_false {z : Int} : bz z = false ↔ 0 ≤ z := by unfold bz; simp
theorem abs_neg {z : Int} (h : bz z = true) : z = -(z.natAbs : Int) := by have := bz_true.1 h; omega
theorem abs_pos {z : Int} (h : bz z = false) : z = (z.natAbs : Int) := by have := bz_false.1 h; omega
theorem neg_sg (z : Int) : sg (!bz z) z.natAbs = -z := by
  cases h : bz z
  · have := abs_pos h; simp only [Bool.not_false, sg_true]; omega
  · have := abs_neg h; simp only [Bool.not_true, sg_false]; omega
theorem add_same {x y : Int} (h : bz x = bz y) : sg (bz x) (x.natAbs + y.natAbs) = x + y := by
  cases h1 : bz x
  · have := abs_pos h1; have := abs_pos (h ▸ h1); rw [sg_false]; omega
  · have := abs_neg h1; have := abs_neg (h ▸ h1); rw [sg_true]; omega
theorem add_great {x y : Int} (h : bz x ≠ bz y) (hg : y.natAbs ≤ x.natAbs) : sg (bz x) (x.natAbs - y.natAbs) = x + y := by
  cases h1 : bz x
  · have h2 : bz y = true := by cases h3 : bz y; (rw [h1, h3] at h; exact absurd rfl h); rfl
    have := abs_pos h1; have := abs_neg h2; rw [sg_false]; omega
  · have h2 : bz y = false := by cases h3 : bz y; rfl; (rw [h1, h3] at h; exact absurd rfl h)
    have := abs_neg h1; have := abs_pos h2; rw [sg_true]; omega
theorem add_less {x y : Int} (h : bz x ≠ bz y) (hg : x.natAbs ≤ y.natAbs) : sg (bz y) (y.natAbs - x.natAbs) = x + y := by
  rw [Int.add_comm]; exact add_great (Ne.symm h) hg
theorem mul_sg (x y : Int) : sg (bz x != bz y) (x.natAbs * y.natAbs) = x * y := by
  cases h1 : bz x <;> cases h2 : bz y
  · rw [abs_pos h1, abs_pos h2]; simp [sg]
  · rw [abs_pos h1, abs_neg h2]; simp [sg, Int.mul_neg]
  · rw [abs_neg h1, abs_pos h2]; simp [sg, Int.neg_mul]
  · rw [abs_neg h1, abs_neg h2]; simp [sg, Int.neg_mul_neg]
/-- which is greater -/
def cmpZ (x y : Int) : Int := if x < y then -1 else if x = y then 0 else 1
theorem cmpZ_lt {x y : Int} (h : x < y) : cmpZ x y = -1 := if_pos h
theorem cmpZ_eq {x y : Int} (h : x = y) : cmpZ x y = 0 := by unfold cmpZ; rw [if_neg (by omega), if_pos h]
theorem cmpZ_gt {x y : Int} (h : y < x) : cmpZ x y = 1 := by unfold cmpZ; rw [if_neg (by omega), if_neg (by omega)]
theorem cmpZ_sub (x y : Int) : cmpZ x y = cmpZ (x - y) 0 := by
  unfold cmpZ
  by_cases h : x < y
  · rw [if_pos h, if_pos (by omega)]
  · rw [if_neg h, if_neg (show ¬ x - y < 0 by omega)]
    by_cases h2 : x = y
    · rw [if_pos h2, if_pos (by omega)]
    · rw [if_neg h2, if_neg (by omega)]
def sgn (z : Int) : Int := cmpZ z 0
/-- a quotient, rounded down, and what is left -/
def dq (x y : Int) : Int := if bz x = bz y then ((x.natAbs / y.natAbs : Nat) : Int) else if x.natAbs % y.natAbs = 0 then -((x.natAbs / y.natAbs : Nat) : Int) else -((x.natAbs / y.natAbs + 1 : Nat) : Int)
def dr (x y : Int) : Int := if bz x = bz y then sg (bz y) (x.natAbs % y.natAbs) else if x.natAbs % y.natAbs = 0 then 0 else sg (bz y) (y.natAbs - x.natAbs % y.natAbs)
theorem dq_dr {x y : Int} (hy : y ≠ 0) : dq x y * y + dr x y = x := by
  have hy' : 0 < y.natAbs := by omega
  have hdm := Nat.div_add_mod x.natAbs y.natAbs
  have hm := Nat.mod_lt x.natAbs hy'
  unfold dq dr
  generalize x.natAbs / y.natAbs = q at *
  generalize x.natAbs % y.natAbs = r at *
  have hP : bz y = false → (q : Int) * y = ((y.natAbs * q : Nat) : Int) := fun h => by
    rw [Int.natCast_mul, ← abs_pos h, Int.mul_comm]
  have hN : bz y = true → (q : Int) * y = -((y.natAbs * q : Nat) : Int) := fun h => by
    rw [Int.natCast_mul, Int.mul_comm (y.natAbs : Int), ← Int.mul_neg, ← abs_neg h]
  have h1 : ((q + 1 : Nat) : Int) * y = (q : Int) * y + y := by rw [Int.natCast_add, Int.add_mul]; simp
  generalize y.natAbs * q = P at *
  by_cases h : bz x = bz y
  · rw [if_pos h, if_pos h]
    cases hb : bz y
    · have a1 := abs_pos (h.trans hb); rw [sg_false, hP hb]; omega
    · have a1 := abs_neg (h.trans hb); rw [sg_true, hN hb]; omega
  · rw [if_neg h, if_neg h]
    by_cases h0 : r = 0
    · rw [if_pos h0, if_pos h0, Int.neg_mul]
      cases hb : bz y
      · have h2 : bz x = true := by cases h3 : bz x; (rw [hb, h3] at h; exact absurd rfl h); rfl
        have a1 := abs_neg h2; rw [hP hb]; omega
      · have h2 : bz x = false := by cases h3 : bz x; rfl; (rw [hb, h3] at h; exact absurd rfl h)
        have a1 := abs_pos h2; rw [hN hb]; omega
    · rw [if_neg h0, if_neg h0, Int.neg_mul, h1]
      cases hb : bz y
      · have h2 : bz x = true := by cases h3 : bz x; (rw [hb, h3] at h; exact absurd rfl h); rfl
        have a1 := abs_neg h2; have a2 := abs_pos hb; rw [hP hb, sg_false]; omega
      · have h2 : bz x = false := by cases h3 : bz x; rfl; (rw [hb, h3] at h; exact absurd rfl h)
        have a1 := abs_pos h2; have a2 := abs_neg hb; rw [hN hb, sg_true]; omega
theorem dr_abs {x y : Int} (hy : y ≠ 0) : (dr x y).natAbs < y.natAbs := by
  have hy' : 0 < y.natAbs := by omega
  have hm := Nat.mod_lt x.natAbs hy'
  unfold dr
  split
  · rw [sg_abs]; exact hm
  · split
    · exact hy'
    · rw [sg_abs]; omega
theorem dr_sign {x y : Int} (hy : y ≠ 0) : dr x y = 0 ∨ sgn (dr x y) = sgn y := by
  have key : ∀ k : Nat, sg (bz y) k = 0 ∨ sgn (sg (bz y) k) = sgn y := by
    intro k
    rcases Nat.eq_zero_or_pos k with h | h
    · left; subst h; cases bz y <;> rfl
    · right
      unfold sgn
      cases h1 : bz y
      · have := abs_pos h1; rw [sg_false, cmpZ_gt (by omega), cmpZ_gt (by omega)]
      · have := abs_neg h1; rw [sg_true, cmpZ_lt (by omega), cmpZ_lt (by omega)]
  unfold dr
  split
  · exact key _
  · split
    · exact .inl rfl
    · exact key _
end Go.Proofs.Ytihbpkljjmpkjaa
