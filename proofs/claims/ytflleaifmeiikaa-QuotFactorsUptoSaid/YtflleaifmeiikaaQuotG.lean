/- The walks of package quot, second part: guess, take, back. -/
import Derived.Test.YtflleaifmeiikaaQuot
set_option linter.unusedVariables false
set_option linter.unusedSimpArgs false
namespace Go.Proofs.Ytflleaifmeiikaa
open Go.RowKit
set_option maxRecDepth 100000
def natOfU : Value → Nat | .int _ i => i.toNat | _ => 0
theorem add_cases {r v : Nat} (hr : r < W) (hv : v < W) : (r + v < W ∧ addLo r v 0 = r + v ∧ addHi r v 0 = 0) ∨ (W ≤ r + v ∧ addHi r v 0 = 1) := by
  unfold addLo addHi
  rcases Nat.lt_or_ge (r + v) W with h | h
  · exact Or.inl ⟨h, by rw [show r + v + 0 % 2 = r + v by omega]; exact Nat.mod_eq_of_lt h, by rw [show r + v + 0 % 2 = r + v by omega]; exact Nat.div_eq_of_lt h⟩
  · refine Or.inr ⟨h, ?_⟩
    rw [show r + v + 0 % 2 = r + v by omega]
    have : (r + v) / W < 2 := (Nat.div_lt_iff_lt_mul W_pos).2 (by omega)
    have : 1 ≤ (r + v) / W := (Nat.le_div_iff_mul_le W_pos).2 (by omega)
    omega
theorem ret_u64 {a b : Nat} (h : a = b) : Ending.returned (.int .u64 (a : Nat)) = .returned (.int .u64 (b : Nat)) := by rw [h]
/-- the candidate's loop, one way for each state of the test -/
theorem test_parts {q v0 r u0 : Nat} : (mulHi q v0 < r ∧ q * v0 ≤ r * W + u0) ∨ (mulHi q v0 = r ∧ mulLo q v0 ≤ u0 ∧ q * v0 ≤ r * W + u0) ∨ (mulHi q v0 = r ∧ u0 < mulLo q v0 ∧ r * W + u0 < q * v0) ∨ (u0 < W → r < mulHi q v0 ∧ r * W + u0 < q * v0) := by
  have hs := mul_split q v0
  have hl := mulLo_lt q v0
  generalize mulHi q v0 = hi at *
  generalize mulLo q v0 = lo at *
  rw [hs]
  rcases Nat.lt_trichotomy hi r with h | h | h
  · left
    refine ⟨h, ?_⟩
    have : W * (hi + 1) ≤ W * r := Nat.mul_le_mul_left _ h
    rw [Nat.mul_add] at this
    rw [Nat.mul_comm r]; omega
  · subst h
    rw [Nat.mul_comm hi]
    rcases Nat.lt_or_ge u0 lo with h | h
    · right; right; left; exact ⟨rfl, h, by omega⟩
    · right; left; exact ⟨rfl, h, by omega⟩
  · right; right; right
    intro hu
    refine ⟨h, ?_⟩
    have : W * (r + 1) ≤ W * hi := Nat.mul_le_mul_left _ h
    rw [Nat.mul_add] at this
    rw [Nat.mul_comm r]; omega
set_option maxHeartbeats 2000000 in
theorem quot_guess (u2 u1 u0 v1 v0 : Nat) (w : World) (h2 : u2 ≤ v1) (hv : 0 < v1) (g2 : u2 < W) (g1 : u1 < W) (g0 : u0 < W) (f1 : v1 < W) (f0 : v0 < W) :
    Calls Try.prog 62 #[.int .u64 (u2 : Nat), .int .u64 (u1 : Nat), .int .u64 (u0 : Nat), .int .u64 (v1 : Nat), .int .u64 (v0 : Nat)] w
      fun e w' => e = .returned (.int .u64 (gss ((u2 * W + u1) * W + u0) (v1 * W + v0) : Nat)) ∧ ∃ n, w' = w.drewN n := by
  have z0 : (0 : Nat) < W := W_pos
  rcases Nat.lt_or_ge u2 v1 with hl | hl
  · have CS := Cand.start (u0 := u0) (v0 := v0) hl f1 g1 g0
    have hrl : (u2 * W + u1) % v1 < v1 := Nat.mod_lt _ hv
    go_enter Try.func62, Try.ntmps62
    go_wp2_with fail
    refine (word_Div_yes u2 u1 v1 _ f1 g1 hl).mono ?_
    rintro e w1 ⟨rfl, nd, rfl⟩
    generalize (u2 * W + u1) / v1 = q0 at CS ⊢
    generalize (u2 * W + u1) % v1 = r0 at CS hrl ⊢
    go_wp2_with fail
    go_loop [11, 12, 15, 16, 17] (fun a b _ _ _ => ∃ q r : Nat, a = .int .u64 (q : Nat) ∧ b = .int .u64 (r : Nat) ∧ Cand u2 u1 u0 v1 v0 q r ∧ r < W) (fun a _ _ _ _ => natOfU a)
    case atStart => exact ⟨q0, r0, rfl, rfl, CS, by omega⟩
    case round =>
      obtain ⟨q, r, rfl, rfl, hc, hr⟩ := hrel
      have hqw := hc.2.2
      go_wp2_with fail
      refine (word_Mul q v0 _ hqw f0).mono ?_
      rintro e w5 ⟨rfl, rfl⟩
      have TP := @test_parts q v0 r u0
      have hhw := mulHi_lt hqw f0
      have hlw := mulLo_lt q v0
      generalize mulHi q v0 = hi at *
      generalize mulLo q v0 = lo at *
      rcases TP with ⟨t1, t2⟩ | ⟨t1, t3, t2⟩ | ⟨t1, t3, t2⟩ | t0
      · have hfit := Lib.hid (hc.fit hv t2)
        have b1 : (hi : Int) < (r : Int) := by omega
        clear t1 t2 hc
        go_wp2_with fail
        go_ret
        exact ⟨ret_u64 hfit.out, _, rfl⟩
      · have hfit := Lib.hid (hc.fit hv t2)
        have b1 : ¬ (hi : Int) < (r : Int) := by omega
        have b2 : ((hi : Int) == (r : Int)) = true := by simp; omega
        have b3 : (lo : Int) ≤ (u0 : Int) := by omega
        clear t1 t2 hc t3
        go_wp2_with fail
        go_ret
        exact ⟨ret_u64 hfit.out, _, rfl⟩
      · skip
        obtain ⟨p0, hd⟩ := hc.down t2
        have b1 : ¬ (hi : Int) < (r : Int) := by omega
        have b2 : ((hi : Int) == (r : Int)) = true := by simp; omega
        have b3 : ¬ (lo : Int) ≤ (u0 : Int) := by omega
        have zq : IntKind.u64.wrap ((q : Int) - 1) = ((q - 1 : Nat) : Int) := by rw [show (q : Int) - 1 = ((q - 1 : Nat) : Int) by omega, wrap_nat, Nat.mod_eq_of_lt (by omega)]
        have AC := add_cases hr f1
        have HD := Lib.hid hd
        have HP := Lib.hid p0
        clear t1 t2 hc hd p0 t3
        rcases AC with ⟨a1, a2, a3⟩ | ⟨a1, a3⟩
        · go_wp2_with fail
          refine (word_Add r v1 0 _ hr f1 z0).mono ?_
          rw [a2, a3]
          rintro e w6 ⟨rfl, rfl⟩
          clear a2 a3
          go_wp2_with fail
          go_round
          case rel => exact ⟨q - 1, r + v1, rfl, rfl, HD.out, a1⟩
          case measure => have := HP.out; simp [natOfU]; omega
        · have hfit := Lib.hid (HD.out.fit hv (over_fits HD.out.2.2 f0 a1))
          go_wp2_with fail
          refine (word_Add r v1 0 _ hr f1 z0).mono ?_
          rw [a3]
          rintro e w6 ⟨rfl, rfl⟩
          clear a3
          go_wp2_with fail
          go_ret
          exact ⟨ret_u64 hfit.out, _, rfl⟩
      · skip
        obtain ⟨t1, t2⟩ := t0 g0
        obtain ⟨p0, hd⟩ := hc.down t2
        have b1 : ¬ (hi : Int) < (r : Int) := by omega
        have b2 : ((hi : Int) == (r : Int)) = false := by simp; omega
        have zq : IntKind.u64.wrap ((q : Int) - 1) = ((q - 1 : Nat) : Int) := by rw [show (q : Int) - 1 = ((q - 1 : Nat) : Int) by omega, wrap_nat, Nat.mod_eq_of_lt (by omega)]
        have AC := add_cases hr f1
        have HD := Lib.hid hd
        have HP := Lib.hid p0
        clear t1 t2 hc hd p0 t0
        rcases AC with ⟨a1, a2, a3⟩ | ⟨a1, a3⟩
        · go_wp2_with fail
          refine (word_Add r v1 0 _ hr f1 z0).mono ?_
          rw [a2, a3]
          rintro e w6 ⟨rfl, rfl⟩
          clear a2 a3
          go_wp2_with fail
          go_round
          case rel => exact ⟨q - 1, r + v1, rfl, rfl, HD.out, a1⟩
          case measure => have := HP.out; simp [natOfU]; omega
        · have hfit := Lib.hid (HD.out.fit hv (over_fits HD.out.2.2 f0 a1))
          go_wp2_with fail
          refine (word_Add r v1 0 _ hr f1 z0).mono ?_
          rw [a3]
          rintro e w6 ⟨rfl, rfl⟩
          clear a3
          go_wp2_with fail
          go_ret
          exact ⟨ret_u64 hfit.out, _, rfl⟩
  · obtain rfl : u2 = v1 := by omega
    have CS := Cand.big (u1 := u1) (u0 := u0) (v0 := v0) hv
    rw [show W - 1 = 18446744073709551615 from by decide] at CS
    have AC := add_cases g1 f1
    rcases AC with ⟨a1, a2, a3⟩ | ⟨a1, a3⟩
    · go_enter Try.func62, Try.ntmps62
      go_wp2_with fail
      refine (word_Div_no u2 u1 u2 _ (Nat.le_refl _)).mono ?_
      rintro e w1 ⟨rfl, nd, rfl⟩
      go_wp2_with fail
      refine (word_Add u1 u2 0 _ g1 f1 z0).mono ?_
      rw [a2, a3]
      rintro e w6 ⟨rfl, rfl⟩
      clear a2 a3
      go_wp2_with fail
      go_loop [11, 12, 15, 16, 17] (fun a b _ _ _ => ∃ q r : Nat, a = .int .u64 (q : Nat) ∧ b = .int .u64 (r : Nat) ∧ Cand u2 u1 u0 u2 v0 q r ∧ r < W) (fun a _ _ _ _ => natOfU a)
      case atStart => exact ⟨18446744073709551615, u1 + u2, rfl, rfl, CS, a1⟩
      case round =>
        obtain ⟨q, r, rfl, rfl, hc, hr⟩ := hrel
        have hqw := hc.2.2
        go_wp2_with fail
        refine (word_Mul q v0 _ hqw f0).mono ?_
        rintro e w5 ⟨rfl, rfl⟩
        have TP := @test_parts q v0 r u0
        have hhw := mulHi_lt hqw f0
        have hlw := mulLo_lt q v0
        generalize mulHi q v0 = hi at *
        generalize mulLo q v0 = lo at *
        rcases TP with ⟨t1, t2⟩ | ⟨t1, t3, t2⟩ | ⟨t1, t3, t2⟩ | t0
        · have hfit := Lib.hid (hc.fit hv t2)
          have b1 : (hi : Int) < (r : Int) := by omega
          clear t1 t2 hc
          go_wp2_with fail
          go_ret
          exact ⟨ret_u64 hfit.out, _, rfl⟩
        · have hfit := Lib.hid (hc.fit hv t2)
          have b1 : ¬ (hi : Int) < (r : Int) := by omega
          have b2 : ((hi : Int) == (r : Int)) = true := by simp; omega
          have b3 : (lo : Int) ≤ (u0 : Int) := by omega
          clear t1 t2 hc t3
          go_wp2_with fail
          go_ret
          exact ⟨ret_u64 hfit.out, _, rfl⟩
        · skip
          obtain ⟨p0, hd⟩ := hc.down t2
          have b1 : ¬ (hi : Int) < (r : Int) := by omega
          have b2 : ((hi : Int) == (r : Int)) = true := by simp; omega
          have b3 : ¬ (lo : Int) ≤ (u0 : Int) := by omega
          have zq : IntKind.u64.wrap ((q : Int) - 1) = ((q - 1 : Nat) : Int) := by rw [show (q : Int) - 1 = ((q - 1 : Nat) : Int) by omega, wrap_nat, Nat.mod_eq_of_lt (by omega)]
          have AC := add_cases hr f1
          have HD := Lib.hid hd
          have HP := Lib.hid p0
          clear t1 t2 hc hd p0 t3
          rcases AC with ⟨a1, a2, a3⟩ | ⟨a1, a3⟩
          · go_wp2_with fail
            refine (word_Add r u2 0 _ hr f1 z0).mono ?_
            rw [a2, a3]
            rintro e w6 ⟨rfl, rfl⟩
            clear a2 a3
            go_wp2_with fail
            go_round
            case rel => exact ⟨q - 1, r + u2, rfl, rfl, HD.out, a1⟩
            case measure => have := HP.out; simp [natOfU]; omega
          · have hfit := Lib.hid (HD.out.fit hv (over_fits HD.out.2.2 f0 a1))
            go_wp2_with fail
            refine (word_Add r u2 0 _ hr f1 z0).mono ?_
            rw [a3]
            rintro e w6 ⟨rfl, rfl⟩
            clear a3
            go_wp2_with fail
            go_ret
            exact ⟨ret_u64 hfit.out, _, rfl⟩
        · skip
          obtain ⟨t1, t2⟩ := t0 g0
          obtain ⟨p0, hd⟩ := hc.down t2
          have b1 : ¬ (hi : Int) < (r : Int) := by omega
          have b2 : ((hi : Int) == (r : Int)) = false := by simp; omega
          have zq : IntKind.u64.wrap ((q : Int) - 1) = ((q - 1 : Nat) : Int) := by rw [show (q : Int) - 1 = ((q - 1 : Nat) : Int) by omega, wrap_nat, Nat.mod_eq_of_lt (by omega)]
          have AC := add_cases hr f1
          have HD := Lib.hid hd
          have HP := Lib.hid p0
          clear t1 t2 hc hd p0 t0
          rcases AC with ⟨a1, a2, a3⟩ | ⟨a1, a3⟩
          · go_wp2_with fail
            refine (word_Add r u2 0 _ hr f1 z0).mono ?_
            rw [a2, a3]
            rintro e w6 ⟨rfl, rfl⟩
            clear a2 a3
            go_wp2_with fail
            go_round
            case rel => exact ⟨q - 1, r + u2, rfl, rfl, HD.out, a1⟩
            case measure => have := HP.out; simp [natOfU]; omega
          · have hfit := Lib.hid (HD.out.fit hv (over_fits HD.out.2.2 f0 a1))
            go_wp2_with fail
            refine (word_Add r u2 0 _ hr f1 z0).mono ?_
            rw [a3]
            rintro e w6 ⟨rfl, rfl⟩
            clear a3
            go_wp2_with fail
            go_ret
            exact ⟨ret_u64 hfit.out, _, rfl⟩
    · have hfit := Lib.hid (CS.fit hv (over_fits CS.2.2 f0 a1))
      go_enter Try.func62, Try.ntmps62
      go_wp2_with fail
      refine (word_Div_no u2 u1 u2 _ (Nat.le_refl _)).mono ?_
      rintro e w1 ⟨rfl, nd, rfl⟩
      go_wp2_with fail
      refine (word_Add u1 u2 0 _ g1 f1 z0).mono ?_
      rw [a3]
      rintro e w6 ⟨rfl, rfl⟩
      clear a3
      go_wp2_with fail
      go_ret
      exact ⟨ret1 (by rw [← hfit.out]; rfl), _, rfl⟩
end Go.Proofs.Ytflleaifmeiikaa
