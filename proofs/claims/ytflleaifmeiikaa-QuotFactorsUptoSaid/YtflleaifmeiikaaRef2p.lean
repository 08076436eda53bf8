/- The walks of actuaryref02: Power, Shl. -/
import Derived.Test.YtflleaifmeiikaaRef2m
namespace Go.Proofs.Ytflleaifmeiikaa
open Go.RowKit
theorem ref2_Power (K : Int) (v : Nat) (w : World) (hK : ∃ j : Nat, K = (j : Int) ∧ v = 2 ^ j ∧ j ≤ 40) :
    Calls Try.prog 50 #[.int .i64 K] w fun e w' => e = .returned (.int .i64 (v : Nat)) ∧ w = w' := by
  obtain ⟨j, rfl, hv, hj⟩ := hK
  have HV := Lib.hid hv
  clear hv
  go_enter Try.func50, Try.ntmps50
  go_wp2
  go_loop [3, 4] (fun v i => ∃ t p : Nat, t ≤ j ∧ i = .int .i64 (t : Int) ∧ v = .int .i64 (p : Int) ∧ p = 2 ^ t) (fun _ i => j - (intOf i).toNat)
  case atStart => exact ⟨0, 1, by omega, rfl, rfl, rfl⟩
  case round =>
    obtain ⟨t, p, ht, rfl, rfl, hp⟩ := hrel
    have hpl : p ≤ 1099511627776 := by rw [hp]; exact Nat.le_trans (Nat.pow_le_pow_right (by decide) (show t ≤ 40 by omega)) (by decide)
    have HP := Lib.hid hp
    clear hp
    by_cases hlt : t < j
    · go_wp2
      go_round
      case rel => exact ⟨t + 1, 2 * p, by omega, by go_num, by go_num, by rw [HP.out, Nat.pow_succ, Nat.mul_comm]⟩
      case measure => simp [intOf]; omega
    · obtain rfl : t = j := by omega
      obtain rfl : p = v := by rw [HP.out, HV.out]
      go_wp2
      go_ret
      exact ⟨rfl, rfl⟩
theorem pow_split (k : Nat) : 65536 ^ (k / 16) * 2 ^ (k % 16) = 2 ^ k := by
  rw [show 65536 = 2 ^ 16 from rfl, ← Nat.pow_mul, ← Nat.pow_add, Nat.div_add_mod]
end Go.Proofs.Ytflleaifmeiikaa
