/- The walks of actuaryref02: Bits, Bit. -/
import Derived.Test.YtflleaifmeiikaaRef2p
set_option linter.unusedVariables false
set_option linter.unusedSimpArgs false
namespace Go.Proofs.Ytflleaifmeiikaa
open Go.RowKit
set_option maxRecDepth 100000
theorem blen_half {z : Nat} (hz : 0 < z) : blen z = 1 + blen (z / 2) := by
  rcases Nat.eq_zero_or_pos (z / 2) with h | h
  · obtain rfl : z = 1 := by omega
    decide
  · have := blen_shift (x := z) (k := 1) (by simpa using (show z / 2 ≠ 0 by omega))
    simpa using this
theorem ref_bits_top {x n : Nat} (h1 : x < 65536 ^ (n + 1)) (h2 : 65536 ^ n ≤ x) : 16 * n + blen (dg 65536 n x) = blen x := by
  have hp : 0 < 65536 ^ n := Nat.pow_pos (by decide)
  have hd : dg 65536 n x = x / 65536 ^ n := by
    unfold dg
    rw [Nat.mod_eq_of_lt]
    apply Nat.div_lt_of_lt_mul
    rw [← Nat.pow_succ]; exact h1
  have hne : x / 65536 ^ n ≠ 0 := by have := Nat.div_pos h2 hp; omega
  rw [hd]
  rw [show 65536 = 2 ^ 16 from rfl, ← Nat.pow_mul] at hne ⊢
  exact (blen_shift hne).symm
set_option maxHeartbeats 1000000 in
theorem ref2_Bits (A : Option Addr) (n c x : Nat) (w : World) (h : NumAt .i64 65536 w A n c x) (hn : n ≤ 4000000000) :
    Calls Try.prog 21 #[.slice A n c] w fun e w' => e = .returned (.int .i64 (blen x : Nat)) ∧ w = w' := by
  have m1 := h.1.max
  have m2 := h.1.cap
  rcases n with _ | j
  · have hx := h.1.zero
    subst hx
    go_enter Try.func21, Try.ntmps21
    go_wp2
    go_ret
    exact ⟨rfl, rfl⟩
  · obtain ⟨g, o, rfl, hg, hcell⟩ := h.1.at_ (by omega)
    have hc := hcell j (by omega)
    have E := Lib.hid (ref_bits_top h.1.lt (by have := h.2 (by omega); simpa using this))
    obtain ⟨d, hd⟩ : ∃ d, d = dg 65536 j x := ⟨_, rfl⟩
    have hdw : d < 65536 := by rw [hd]; exact dg_lt (by decide) _ _
    rw [← hd] at hc
    have ej : ((j + 1 : Nat) : Int) - 1 = (j : Int) := by omega
    have hne : (((j + 1 : Nat) : Int) == 0) = false := by simp; omega
    have HD := Lib.hid hd
    have hb16 : blen d ≤ 16 := blen_le_of_lt hdw
    clear hcell hd
    go_enter Try.func21, Try.ntmps21
    go_wp2
    go_loop [3, 4] (fun a b => ∃ i z : Nat, a = .int .i64 ((16 * j + i : Nat) : Int) ∧ b = .int .i64 (z : Nat) ∧ i + blen z = blen d ∧ z < 65536) (fun _ b => natOf b)
    case atStart => exact ⟨0, d, by simp, rfl, by omega, hdw⟩
    case round =>
      obtain ⟨i, z, rfl, rfl, hz, hzw⟩ := hrel
      have hi : i ≤ 16 := by omega
      by_cases h0 : 0 < z
      · have h0I : (0 : Int) < (z : Int) := by omega
        have hh := blen_half h0
        obtain ⟨y, hy⟩ : ∃ y, y = z / 2 := ⟨_, rfl⟩
        rw [← hy] at hh
        have HZ := Lib.hid (show i + 1 + blen y = blen d by omega)
        have hyz : y < z := by omega
        have zt : (z : Int).tdiv 2 = (y : Int) := by rw [Int.tdiv_eq_ediv_of_nonneg (by omega)]; omega
        have ze : (z : Int) / 2 = (y : Int) := by omega
        have zw : IntKind.i64.wrap (y : Int) = (y : Int) := IntWalk.i64_in _ (by omega)
        clear hh hz hy
        go_wp2
        go_round
        case rel => exact ⟨i + 1, y, by go_num, by first | rfl | (rw [ze]; done) | simp, HZ.out, by omega⟩
        case measure => simp [natOf]; omega
      · obtain rfl : z = 0 := by omega
        have HZ := Lib.hid (show i = blen d by rw [← hz, blen_zero]; omega)
        clear hz
        go_wp2
        go_ret
        exact ⟨ret1 (by have := E.out; rw [← HD.out, ← HZ.out] at this; omega), rfl⟩
theorem ref_bit_at (x k : Nat) : dg 65536 (k / 16) x / 2 ^ (k % 16) % 2 = x / 2 ^ k % 2 := by
  unfold dg
  have hk : k % 16 < 16 := Nat.mod_lt _ (by decide)
  rw [← pow_split k, ← Nat.div_div_eq_div_mul]
  generalize x / 65536 ^ (k / 16) = y
  have e2 : 65536 = 2 ^ (k % 16) * (2 * 2 ^ (15 - k % 16)) := by
    rw [← Nat.pow_succ', ← Nat.pow_add, show 65536 = 2 ^ 16 from rfl]; congr 1; omega
  rw [e2, Nat.mod_mul_right_div_self, Nat.mod_mul_right_mod]
theorem ref2_Bit_neg (A : Option Addr) (n c : Nat) (k : Int) (w : World) (hk : k < 0) :
    Calls Try.prog 22 #[.slice A n c, .int .i64 k] w fun e w' => e = .returned (.int .i64 0) ∧ w = w' := by
  go_enter Try.func22, Try.ntmps22
  go_wp2_with fail
  go_ret
  exact ⟨rfl, rfl⟩
theorem ref2_Bit (A : Option Addr) (n c x k : Nat) (w : World) (h : Dig .i64 65536 w A n c x) (hk : k ≤ 9223372036854775807) :
    Calls Try.prog 22 #[.slice A n c, .int .i64 (k : Nat)] w fun e w' => e = .returned (.int .i64 (x / 2 ^ k % 2 : Nat)) ∧ w = w' := by
  have hk0 : ¬ (k : Int) < 0 := by omega
  obtain ⟨q, hq⟩ : ∃ q, q = k / 16 := ⟨_, rfl⟩
  obtain ⟨r, hr⟩ : ∃ r, r = k % 16 := ⟨_, rfl⟩
  have e1 : (k : Int) / 16 = (q : Int) := by omega
  have e2 : (k : Int) % 16 = (r : Int) := by omega
  have hB := ref_bit_at x k
  rw [← hq, ← hr] at hB
  have HB := Lib.hid hB
  have hqk : q ≤ k := by omega
  have hr6 : r ≤ 15 := by omega
  obtain ⟨pw, hpw⟩ : ∃ pw, pw = 2 ^ r := ⟨_, rfl⟩
  have HP := Lib.hid hpw
  have hp0 : (pw : Int) ≠ 0 := by have : 0 < pw := by rw [hpw]; exact Nat.pow_pos (by decide)
                                  omega
  obtain ⟨d, hd⟩ : ∃ d, d = dg 65536 q x := ⟨_, rfl⟩
  have hdw : d < 65536 := by rw [hd]; exact dg_lt (by decide) _ _
  have HD := Lib.hid hd
  have hpp : pw ≤ 65536 := by rw [hpw]; exact Nat.le_trans (Nat.pow_le_pow_right (by decide) hr6) (by decide)
  obtain ⟨t, ht⟩ : ∃ t, t = d / pw := ⟨_, rfl⟩
  have htd : t ≤ d := by rw [ht]; exact Nat.div_le_self _ _
  have zt : (d : Int) / (pw : Int) = (t : Int) := by rw [ht]; rfl
  have HT := Lib.hid ht
  clear hB hq hr hpw hd ht
  go_enter Try.func22, Try.ntmps22
  go_wp2_with fail
  refine (ref2_Digit A n c x _ d _ h ⟨q, rfl, HD.out, by omega⟩).mono ?_
  rintro e w1 ⟨rfl, rfl⟩
  go_wp2_with fail
  refine (ref2_Power _ pw _ ⟨r, rfl, HP.out, by omega⟩).mono ?_
  rintro e w2 ⟨rfl, rfl⟩
  have zw : wrap64 (t : Int) = (t : Int) := by unfold wrap64; omega
  go_wp2_with fail
  go_ret
  exact ⟨ret1 (by rw [← HB.out, ← HD.out, ← HP.out, ← HT.out]; simp), rfl⟩
end Go.Proofs.Ytflleaifmeiikaa
