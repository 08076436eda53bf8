/- The walks of nat.Uint, nat.Bit, nat.Twos. -/
import Derived.Test.YtflleaifmeiikaaNatKit
set_option linter.unusedVariables false
set_option linter.unusedSimpArgs false
namespace Go.Proofs.Ytflleaifmeiikaa
open Go.RowKit
set_option maxRecDepth 100000
theorem nat_Uint_yes (A : Option Addr) (n c x : Nat) (w : World) (h : NatAt w A n c x) (hn : n ≤ 1) :
    Calls Try.prog 16 #[.agg #[.slice A n c]] w (Ret w (.tuple #[.int .u64 (x : Nat), .bool true])) := by
  have hI : ¬ (1 : Int) < (n : Int) := by omega
  have m1 := h.1.max
  have m2 := h.1.cap
  have hx : x < W := by
    have := h.lt
    have h2 := Nat.pow_le_pow_right W_pos hn
    rw [Nat.pow_one] at h2; omega
  have HD := Lib.hid (show dg W 0 x = x by unfold dg; rw [Nat.pow_zero, Nat.div_one, Nat.mod_eq_of_lt hx])
  go_enter Try.func16, Try.ntmps16
  go_wp2_with fail
  refine (nat_Word A n c x 0 _ (h.alloc _) (by decide)).mono ?_
  rw [HD.out]
  rintro e w1 ⟨rfl, hb1⟩
  go_wp2_with fail
  go_ret2
  exact ⟨rfl, nx (nxa (Below.refl _ _) _) hb1⟩
theorem nat_Uint_no (A : Option Addr) (n c : Nat) (w : World) (hn : 1 < n) :
    Calls Try.prog 16 #[.agg #[.slice A n c]] w (Ret w (.tuple #[.int .u64 0, .bool false])) := by
  have hI : (1 : Int) < (n : Int) := by omega
  go_enter Try.func16, Try.ntmps16
  go_wp2_with fail
  go_ret2
  exact ⟨rfl, nxa (Below.refl _ _) _⟩
theorem nat_Bit_neg (A : Option Addr) (n c : Nat) (k : Int) (w : World) (hk : k < 0) :
    Calls Try.prog 24 #[.agg #[.slice A n c], .int .i64 k] w (Ret w (.int .u64 0)) := by
  go_enter Try.func24, Try.ntmps24
  go_wp2_with fail
  go_ret
  exact ⟨rfl, nxa (Below.refl _ _) _⟩
theorem nat_Bit (A : Option Addr) (n c x k : Nat) (w : World) (h : NatAt w A n c x) (hk : k ≤ 9223372036854775807) :
    Calls Try.prog 24 #[.agg #[.slice A n c], .int .i64 (k : Nat)] w (Ret w (.int .u64 (x / 2 ^ k % 2 : Nat))) := by
  have hk0 : ¬ (k : Int) < 0 := by omega
  obtain ⟨q, hq⟩ : ∃ q, q = k / 64 := ⟨_, rfl⟩
  obtain ⟨r, hr⟩ : ∃ r, r = k % 64 := ⟨_, rfl⟩
  have e1 : (k : Int) / 64 = (q : Int) := by omega
  have e2 : (k : Int) % 64 = (r : Int) := by omega
  have hB := bit_at x k
  rw [← hq, ← hr] at hB
  have HB := Lib.hid hB
  have hqk : q ≤ k := by omega
  have hr6 : r ≤ 63 := by omega
  clear hB hq hr
  have hd := dg_lt W_pos q x
  go_enter Try.func24, Try.ntmps24
  go_wp2_with fail
  refine (nat_Word A n c x q _ (h.alloc _) (by omega)).mono ?_
  rintro e w1 ⟨rfl, hb1⟩
  go_wp2_with fail
  go_ret
  refine ⟨ret1 ?_, nx (nxa (Below.refl _ _) _) hb1⟩
  rw [show ((dg W q x : Nat) : Int) / 2 ^ r = ((dg W q x / 2 ^ r : Nat) : Int) by simp, show (1 : Int) = ((1 : Nat) : Int) from rfl, and_nat _ _ (Nat.lt_of_le_of_lt (Nat.div_le_self _ _) hd) (by decide), and_one, HB.out]
/-- how often 2 divides x -/
def TwosOf (x t : Nat) : Prop := (x = 0 ∧ t = 0) ∨ (x ≠ 0 ∧ x % 2 ^ t = 0 ∧ x / 2 ^ t % 2 = 1)
theorem twos_at {x k : Nat} (hl : low W k x = 0) (hd : dg W k x ≠ 0) : TwosOf x (64 * k + tz (dg W k x)) := by
  have hw := dg_lt W_pos k x
  obtain ⟨t, m, e⟩ := odd_part _ hd
  have hlt : 2 ^ t * (2 * m + 1) < W := by rw [← e]; exact hw
  have ht : tz (dg W k x) = t := by rw [e]; exact tz_odd t m hlt
  have ht6 : t < 64 := by
    have h1 : 2 ^ t * 1 ≤ 2 ^ t * (2 * m + 1) := Nat.mul_le_mul_left _ (by omega)
    have h2 : 2 ^ t < 2 ^ 64 := by rw [← W_eq]; omega
    exact (Nat.pow_lt_pow_iff_right (by decide)).1 h2
  have hx : x = up W k x * W ^ k := by have := low_add_up W k x; rw [hl] at this; omega
  have hu : up W k x = 2 ^ t * (2 * m + 1) + W * up W (k + 1) x := by
    rw [← e, ← up_mod, ← up_succ]; exact (Nat.mod_add_div _ _).symm
  have hWs : W = 2 ^ t * (2 * 2 ^ (63 - t)) := by rw [← Nat.pow_succ', ← Nat.pow_add, W_eq]; congr 1; omega
  have hu2 : up W k x = 2 ^ t * (2 * (m + 2 ^ (63 - t) * up W (k + 1) x) + 1) := by
    rw [hu]
    generalize up W (k + 1) x = z
    rw [hWs, Nat.mul_assoc, ← Nat.mul_add]
    congr 1
    rw [Nat.mul_add, Nat.mul_assoc]; omega
  generalize m + 2 ^ (63 - t) * up W (k + 1) x = M at hu2
  have hx2 : x = 2 ^ (64 * k + t) * (2 * M + 1) := by
    rw [hx, hu2, W_pow, Nat.pow_add]
    simp only [Nat.mul_assoc, Nat.mul_comm, Nat.mul_left_comm]
  right
  rw [ht]
  have hp : 0 < 2 ^ (64 * k + t) := Nat.pow_pos (by decide)
  refine ⟨?_, ?_, ?_⟩
  · rw [hx2]; exact Nat.ne_of_gt (Nat.mul_pos hp (by omega))
  · rw [hx2]; exact Nat.mul_mod_right _ _
  · conv => lhs; rw [hx2]
    rw [Nat.mul_div_cancel_left _ hp]; omega
theorem twos_unique {x t s : Nat} (h : TwosOf x t) (h' : TwosOf x s) : t = s := by
  have key : ∀ {a b : Nat}, x % 2 ^ b = 0 → x / 2 ^ a % 2 = 1 → ¬ a < b := by
    intro a b h1 h2 hab
    obtain ⟨d, hd⟩ := Nat.dvd_of_mod_eq_zero h1
    rw [hd, show b = a + (b - a - 1 + 1) by omega, Nat.pow_add, Nat.mul_assoc, Nat.mul_div_cancel_left _ (Nat.pow_pos (by decide)), Nat.pow_succ, Nat.mul_assoc, Nat.mul_left_comm, Nat.mul_mod_right] at h2
    cases h2
  rcases h with ⟨h0, rfl⟩ | ⟨h0, h1, h2⟩ <;> rcases h' with ⟨h0', rfl⟩ | ⟨h0', h1', h2'⟩
  · rfl
  · exact absurd h0 h0'
  · exact absurd h0' h0
  · have a := key h1 h2'
    have b := key h1' h2
    omega
set_option maxHeartbeats 1000000 in
theorem nat_Twos (A : Option Addr) (n c x : Nat) (w : World) (h : NatAt w A n c x) (hn : n ≤ 17592186044416) :
    Calls Try.prog 25 #[.agg #[.slice A n c]] w fun e w' => ∃ t, Ret w (.int .i64 (t : Nat)) e w' ∧ TwosOf x t := by
  go_enter Try.func25, Try.ntmps25
  go_wp2_with fail
  go_loop [3, 4, 8] (fun _ _ t => ∃ j : Nat, j ≤ n ∧ t = .int .i64 (j : Int) ∧ low W j x = 0) (fun _ _ t => n - (intOf t).toNat)
  case atStart => exact ⟨0, Nat.zero_le _, rfl, low_nought _ _⟩
  case round =>
    obtain ⟨j, hj, rfl, hl⟩ := hrel
    by_cases hlt : j < n
    · obtain ⟨g, o, rfl, hg, hcell⟩ := h.1.at_ (by omega)
      have cj := hcell j hlt
      have jn : (j : Int) < (n : Int) := by omega
      have m1 := h.1.max
      have m2 := h.1.cap
      clear hcell
      obtain ⟨d, hd⟩ : ∃ d, d = dg W j x := ⟨_, rfl⟩
      have hdw : d < W := by rw [hd]; exact dg_lt W_pos _ _
      rw [← hd] at cj
      by_cases hz : d = 0
      · have hzb : ((d : Int) != 0) = false := by rw [hz]; rfl
        have HL := Lib.hid (show low W (j + 1) x = 0 by rw [← low_next, hl, ← hd, hz]; simp)
        clear hz hd hl
        go_wp2_with fail
        go_round
        case rel => exact ⟨j + 1, by omega, by go_num, HL.out⟩
        case measure => simp [intOf]; omega
      · have hzb : ((d : Int) != 0) = true := by rw [bne_iff_ne]; omega
        have HT := Lib.hid (twos_at hl (by rw [← hd]; exact hz))
        have htz : tz d ≤ 64 := by
          by_cases h0 : d = 0
          · exact absurd h0 hz
          · unfold tz
            rw [if_neg h0]
            have := blen_le_of_lt (x := d &&& (W - d)) (k := 64) (by rw [← W_eq]; exact and_lt _ _ hdw)
            omega
        have HD := Lib.hid hd
        clear hz hd hl
        go_wp2_with fail
        refine (word_Trail d _ hdw).mono ?_
        rintro e w1 ⟨rfl, nd, rfl⟩
        go_wp2_with fail
        go_ret
        exact ⟨64 * j + tz d, ⟨ret1 (by omega), nxd (nxa (Below.refl _ _) _) _⟩, by rw [HD.out]; exact HT.out⟩
    · obtain rfl : j = n := by omega
      rw [low_all h.lt] at hl
      have HL := Lib.hid hl
      clear hl
      go_wp2_with fail
      go_ret
      exact ⟨0, ⟨rfl, nxa (Below.refl _ _) _⟩, Or.inl ⟨HL.out, rfl⟩⟩
end Go.Proofs.Ytflleaifmeiikaa
