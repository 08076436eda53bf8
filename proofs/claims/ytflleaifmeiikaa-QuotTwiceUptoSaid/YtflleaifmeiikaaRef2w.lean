/- The walks of actuaryref02: words. -/
import Derived.Test.YtflleaifmeiikaaRef2
namespace Go.Proofs.Ytflleaifmeiikaa
open Go.RowKit
theorem word_step (D r : Nat) : D / 65536 ^ (r + 1) * 65536 + D / 65536 ^ r % 65536 = D / 65536 ^ r := by
  rw [Nat.pow_succ, ← Nat.div_div_eq_div_mul]; omega
set_option maxRecDepth 100000 in
set_option maxHeartbeats 1000000 in
theorem ref2_Words (A : Option Addr) (n c x : Nat) (w : World) (h : Dig .i64 65536 w A n c x) (hn : n ≤ 4000000000) :
    Calls Try.prog 17 #[.slice A n c] w (RetOwn w ((n + 3) / 4) x) := by
  obtain ⟨i0, hi, hz0, hz1, hz2⟩ := info_parts info_u64
  have m1 := h.max
  have m2 := h.cap
  go_enter Try.func17, Try.ntmps17
  go_wp2
  go_loopw [3, 4, 5, 6] (fun d i _ _ wr => ∃ m p : Nat, p = 4 * m ∧ m ≤ (n + 3) / 4 ∧ i = .int .i64 (p : Int) ∧ wr.ownsRow w.heap.size 30 1 d m (dl .u64 W m (low W m x)) ∧ Below w.heap.size w wr) (fun _ i _ _ _ => n + 3 - (intOf i).toNat)
  case atStart => exact ⟨0, 0, rfl, by omega, rfl, by rw [low_nought]; exact own_nil _ _ _ _ _, Below.refl _ _⟩
  case round =>
    obtain ⟨m, p, hp, hm, rfl, hown, hbel⟩ := hrel
    have HP := Lib.hid hp
    by_cases hlt : p < n
    · clear hp
      go_wp2
      go_loopw [5, 6] (fun ww k wr' => ∃ r q : Nat, wr' = wr ∧ r ≤ 4 ∧ k = .int .i64 ((r : Int) - 1) ∧ ww = .int .u64 (q : Int) ∧ q = dg W m x / 65536 ^ r) (fun _ k _ => (intOf k + 1).toNat)
      case atStart => exact ⟨4, 0, rfl, by omega, rfl, rfl, by rw [Nat.div_eq_of_lt]; exact dg_lt W_pos _ _⟩
      case round =>
        obtain ⟨r, q, rfl, hr, rfl, rfl, hq⟩ := hrel
        rcases r with _ | r
        · have HQ := Lib.hid (show q = dg W m x by simpa using hq)
          have hqW : q < W := by rw [HQ.out]; exact dg_lt W_pos _ _
          have hql := le_W hqW
          clear hq
          go_wp2_with (at_builtin; go_loud (refine wpList_push rfl _ _ 22 rfl w wr 30 i0 (.int .u64 0) 8 Try.underlying22 hi hz0 hz1 hz2 rfl .u64 W _ (m) (low W m x) rfl hown hbel _ rfl (dg W m x) (by rw [HQ.out]) (dg_lt W_pos _ _) (low_bound W_pos _ _) rfl (by unfold maxLen; omega) (by omega) ?_))
          intro v' w1 hown' hbel'
          rw [low_next] at hown'
          clear hown hbel
          go_wp2
          go_roundw
          case rel => exact ⟨m + 1, p + 4, by have := HP.out; omega, by have := HP.out; omega, by go_num, hown', hbel'⟩
          case measure => simp [intOf]; omega
        · have HS := Lib.hid (word_step (dg W m x) r)
          have HD := dg_split m r x (by omega)
          rw [← HP.out] at HD
          have hq2 : q ≤ 281474976710655 := by
            rw [hq]
            have h1 : dg W m x / 65536 ^ (r + 1) ≤ dg W m x / 65536 := by
              rw [Nat.pow_succ, Nat.mul_comm, ← Nat.div_div_eq_div_mul]; exact Nat.div_le_self _ _
            have h2 := dg_lt W_pos m x
            have : W = 18446744073709551616 := by decide
            omega
          have hd := dg_lt (b := 65536) (by decide) (p + r) x
          have hr4 : ((r + 1 : Nat) : Int) - 1 = (r : Int) := by omega
          rw [hr4]
          rw [← HD] at HS
          rw [← hq] at HS
          clear HD hq
          have hx := h.below hbel (Nat.le_refl _)
          go_wp2_with fail
          refine (ref2_Digit _ _ _ x _ (dg 65536 (p + r) x) _ hx ⟨p + r, by omega, rfl, by omega⟩).mono ?_
          rintro e w1 ⟨rfl, rfl⟩
          go_wp2
          go_roundw
          case rel => exact ⟨r, q * 65536 + dg 65536 (p + r) x, trivial, by omega, rfl, rfl, HS.out⟩
          case measure => simp [intOf]
    · have HM := Lib.hid (show m = (n + 3) / 4 by omega)
      have HX := low_all (b := W) (k := m) (x := x) (Nat.lt_of_lt_of_le h.lt (by rw [show W = 65536 ^ 4 from by decide, ← Nat.pow_mul]; exact Nat.pow_le_pow_right (by decide) (by omega)))
      rw [HX] at hown
      obtain ⟨A1, c1, rfl, hd1, hf⟩ := own_form hown (by have := low_bound (b := W) W_pos m x; rwa [HX] at this)
      clear HX hp hm
      go_wp2
      go_ret
      exact ⟨A1, c1, by rw [← HM.out]; rfl, by rw [← HM.out]; exact hown, hbel⟩
end Go.Proofs.Ytflleaifmeiikaa
