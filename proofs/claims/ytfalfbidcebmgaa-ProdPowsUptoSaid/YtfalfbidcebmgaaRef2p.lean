/- The walks of actuaryref02: Power, Shl. -/
import Derived.Test.YtfalfbidcebmgaaRef2m
namespace Go.Proofs.Ytfalfbidcebmgaa
open Go.RowKit
theorem ref2_Power (K : Int) (v : Nat) (w : World) (hK : ∃ j : Nat, K = (j : Int) ∧ v = 2 ^ j ∧ j ≤ 40) :
    Calls Try.prog 60 #[.int .i64 K] w fun e w' => e = .returned (.int .i64 (v : Nat)) ∧ w = w' := by
  obtain ⟨j, rfl, hv, hj⟩ := hK
  have HV := Lib.hid hv
  clear hv
  go_enter Try.func60, Try.ntmps60
  go_wp2
  go_loop [3, 4] (fun v i => ∃ t p : Nat, t ≤ j ∧ i = .int .i64 (t : Int) ∧ v = .int .i64 (p : Int) ∧ p = 2 ^ t) (fun _ i => j - (intOf i).toNat)
  case atStart => exact ⟨0, 1, by omega, rfl, rfl, rfl⟩
  case round =>
    obtain ⟨t, p, ht, rfl, rfl, hp⟩ := hrel
    have hpl : p ≤ 1099511627776 := by rw [hp]; exact Nat.le_trans (Nat.pow_le_pow_right (by decide) (show t ≤ 40 by omega)) (by decide)
    have HP := Lib.hid hp
    clear hp
    by_cases hlt : t < j
    · go_wp2
      go_round
      case rel => exact ⟨t + 1, 2 * p, by omega, by go_num, by go_num, by rw [HP.out, Nat.pow_succ, Nat.mul_comm]⟩
      case measure => simp [intOf]; omega
    · obtain rfl : t = j := by omega
      obtain rfl : p = v := by rw [HP.out, HV.out]
      go_wp2
      go_ret
      exact ⟨rfl, rfl⟩
theorem pow_split (k : Nat) : 65536 ^ (k / 16) * 2 ^ (k % 16) = 2 ^ k := by
  rw [show 65536 = 2 ^ 16 from rfl, ← Nat.pow_mul, ← Nat.pow_add, Nat.div_add_mod]
set_option maxRecDepth 100000 in
set_option maxHeartbeats 1000000 in
theorem ref2_Shl (A : Option Addr) (n c x k : Nat) (w : World) (h : Dig .i64 65536 w A n c x) (hk : k ≤ 1000000000) (hn : n ≤ 4000000000) :
    Calls Try.prog 25 #[.slice A n c, .int .i64 (k : Nat)] w (RetRef 65536 w (x * 2 ^ k)) := by
  obtain ⟨i0, hi, hz0, hz1, hz2⟩ := info_parts info_int
  have m1 := h.max
  have m2 := h.cap
  obtain ⟨q, hq⟩ : ∃ q, q = k / 16 := ⟨_, rfl⟩
  obtain ⟨r, hr⟩ : ∃ r, r = k % 16 := ⟨_, rfl⟩
  have e1 : (k : Int) / 16 = (q : Int) := by omega
  have e2 : (k : Int) % 16 = (r : Int) := by omega
  have hql : q ≤ 1000000000 := by omega
  have hrl : r ≤ 15 := by omega
  have HS := Lib.hid (show 65536 ^ q * 2 ^ r = 2 ^ k by rw [hq, hr]; exact pow_split k)
  obtain ⟨pw, hpw⟩ : ∃ pw, pw = 2 ^ r := ⟨_, rfl⟩
  have hpl : pw ≤ 65536 := by rw [hpw]; exact Nat.le_trans (Nat.pow_le_pow_right (by decide) hrl) (by decide)
  have hpr : pw ≤ 65536 ^ 1 := by omega
  have HPW := Lib.hid hpw
  clear hq hr hpw
  go_enter Try.func25, Try.ntmps25
  go_wp2
  go_loopw [5, 6] (fun d i wr => ∃ t : Nat, t ≤ q ∧ i = .int .i64 (t : Int) ∧ wr.ownsRow w.heap.size 3 1 d t (dl .i64 65536 t 0) ∧ Below w.heap.size w wr) (fun _ i _ => q - (intOf i).toNat)
  case atStart => exact ⟨0, by omega, rfl, own_nil _ _ _ _ _, Below.refl _ _⟩
  case round =>
    obtain ⟨t, ht, rfl, hown, hbel⟩ := hrel
    by_cases hlt : t < q
    · go_wp2_with (at_builtin; go_loud (refine wpList_push rfl _ _ 27 rfl w wr 3 i0 (.int .i64 0) 8 Try.underlying27 hi hz0 hz1 hz2 rfl .i64 65536 _ (t) (0) rfl hown hbel _ rfl (0) rfl (by decide) (Nat.pow_pos (by decide)) rfl (by unfold maxLen; omega) (by omega) ?_))
      intro v' w1 hown' hbel'
      clear hown hbel
      go_wp2
      go_roundw
      case rel => exact ⟨t + 1, by omega, by go_num, hown', hbel'⟩
      case measure => simp [intOf]; omega
    · obtain rfl : t = q := by omega
      go_wp2_with fail
      refine (ref2_Power _ pw _ ⟨r, by omega, HPW.out, by omega⟩).mono ?_
      rintro e w1 ⟨rfl, rfl⟩
      go_wp2_with fail
      refine (ref2_Small _ _ _ x pw 0 _ (h.below hbel (Nat.le_refl _)) hpl (by omega) hn).mono ?_
      rintro e w1 ⟨A1, n1, c1, rfl, hd1, hb1, hf1⟩
      have hn1 := hd1.le_of (by decide) (n + 1) (by rw [Nat.add_zero, Nat.pow_add]; exact Nat.lt_of_lt_of_le (Nat.mul_lt_mul_of_pos_right h.lt (by rw [HPW.out]; exact Nat.pow_pos (by decide))) (Nat.mul_le_mul_left _ hpr))
      have ho1 := own_below hown hb1
      have hbel1 := nx hbel hb1
      have hd2 := hd1.1
      have HX := Lib.hid (show x * pw * 65536 ^ t = x * 2 ^ k by
        rw [← HS.out, ← HPW.out, Nat.mul_assoc, Nat.mul_comm pw])
      have HLT := Lib.hid (show x * pw * 65536 ^ t < 65536 ^ (t + n1) by
        rw [Nat.pow_add, Nat.mul_comm (65536 ^ t)]
        exact Nat.mul_lt_mul_of_pos_right hd2.lt (Nat.pow_pos (by decide)))
      clear hown hbel hb1 hd1
      go_wp2_with (at_builtin; go_loud (refine wpList_append_dig2 _ rfl _ _ 27 28 rfl w.heap.size 3 3 i0 (.int .i64 0) 8 Try.underlying27 Try.underlying28 hi hz0 hz1 hz2 rfl .i64 65536 _ t 0 rfl ho1 A1 n1 c1 _ rfl hd2 (by unfold maxLen; omega) (by omega) hbel1.size (by decide) (Nat.pow_pos (by decide)) ?_))
      intro v2 w2 hown2 hgrow2
      have hb2 : Below w.heap.size w w2 := hbel1.grown hgrow2 hbel1.size (fun k hk => (ho1.lt k hk).1)
      rw [HX.out] at hown2
      obtain ⟨A2, c2, rfl, hd3, hf⟩ := own_form hown2 (by rw [← HX.out]; exact HLT.out)
      clear hown2 hgrow2 ho1 hbel1 hd2
      go_wp2_with fail
      refine (ref2_Trim _ _ _ _ _ hd3 (by omega)).mono ?_
      rintro e w3 ⟨A3, n3, c3, rfl, hd4, hb3, hf3⟩
      go_wp2_with fail
      go_ret
      exact ⟨A3, n3, c3, rfl, hd4, nx hb2 hb3, hf3.mono hb2.size⟩
end Go.Proofs.Ytfalfbidcebmgaa
