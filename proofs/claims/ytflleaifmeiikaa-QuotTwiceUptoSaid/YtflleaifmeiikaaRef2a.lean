/- The walks of actuaryref02: Add. -/
import Derived.Test.YtflleaifmeiikaaRef2c
namespace Go.Proofs.Ytflleaifmeiikaa
open Go.RowKit
theorem carry_none {b n n' kk x y : Nat} (hb : 2 ≤ b) (hx : x < b ^ n) (hy : y < b ^ n') (h1 : n < kk) (h2 : n' < kk) : carry b kk x y = 0 := by
  unfold carry
  obtain ⟨j, rfl⟩ : ∃ j, kk = j + 1 := ⟨kk - 1, by omega⟩
  have e1 : x < b ^ j := Nat.lt_of_lt_of_le hx (Nat.pow_le_pow_right (by omega) (by omega))
  have e2 : y < b ^ j := Nat.lt_of_lt_of_le hy (Nat.pow_le_pow_right (by omega) (by omega))
  have e3 : b ^ j * 2 ≤ b ^ (j + 1) := by rw [Nat.pow_succ]; exact Nat.mul_le_mul_left _ hb
  rw [low_all (by omega), low_all (by omega)]
  exact Nat.div_eq_of_lt (by omega)
theorem sum_low {b n n' kk x y : Nat} (hb : 0 < b) (hx : x < b ^ n) (hy : y < b ^ n') (h1 : n ≤ kk) (h2 : n' ≤ kk) (hc : carry b kk x y = 0) : x + y < b ^ kk := by
  unfold carry at hc
  rw [low_all (Nat.lt_of_lt_of_le hx (Nat.pow_le_pow_right hb h1)), low_all (Nat.lt_of_lt_of_le hy (Nat.pow_le_pow_right hb h2))] at hc
  have := Nat.pow_pos (n := kk) hb
  rcases Nat.div_eq_zero_iff.1 hc with h | h <;> omega
set_option maxRecDepth 100000 in
set_option maxHeartbeats 1000000 in
theorem ref2_Add (A : Option Addr) (n c x : Nat) (A' : Option Addr) (n' c' y : Nat) (w : World) (h : NumAt .i64 65536 w A n c x) (h' : NumAt .i64 65536 w A' n' c' y) (hn : n ≤ 4000000000) (hn' : n' ≤ 4000000000) :
    Calls Try.prog 68 #[.slice A n c, .slice A' n' c'] w (RetRef 65536 w (x + y)) := by
  obtain ⟨i0, hi, hz0, hz1, hz2⟩ := info_parts info_int
  have m1 := h.1.max
  have m2 := h.1.cap
  have m3 := h'.1.max
  have m4 := h'.1.cap
  go_enter Try.func68, Try.ntmps68
  go_wp2
  go_loopw [5, 6, 7, 8] (fun d cc k _ wr => ∃ kk q : Nat, kk ≤ max n n' + 1 ∧ k = .int .i64 (kk : Int) ∧ cc = .int .i64 (q : Int) ∧ q = carry 65536 kk x y ∧ wr.ownsRow w.heap.size 3 1 d kk (dl .i64 65536 kk (low 65536 kk (x + y))) ∧ Below w.heap.size w wr) (fun _ _ k _ _ => max n n' + 2 - (intOf k).toNat)
  case atStart => exact ⟨0, 0, by omega, rfl, rfl, by rw [carry_zero], by rw [low_nought]; exact own_nil _ _ _ _ _, Below.refl _ _⟩
  case round =>
    obtain ⟨kk, p, hk, rfl, rfl, hp, hown, hbel⟩ := hrel
    obtain ⟨a, ha⟩ : ∃ a, a = dg 65536 kk x := ⟨_, rfl⟩
    obtain ⟨b, hb⟩ : ∃ b, b = dg 65536 kk y := ⟨_, rfl⟩
    obtain ⟨q, hq⟩ : ∃ q, q = carry 65536 (kk + 1) x y := ⟨_, rfl⟩
    have hpc : p ≤ 1 := by rw [hp]; exact carry_le (by decide) _ _ _
    have hda : a ≤ 65535 := by have := dg_lt (b := 65536) (by decide) kk x; omega
    have hdb : b ≤ 65535 := by have := dg_lt (b := 65536) (by decide) kk y; omega
    obtain ⟨s1, s2⟩ := carry_step (b := 65536) (by decide) kk x y
    rw [← hp, ← ha, ← hb, Nat.add_assoc, Nat.add_comm p] at s1 s2
    rw [← hq] at s1
    have S1 := Lib.hid s1
    have S2 := Lib.hid s2
    have HC := Lib.hid hq
    have hx := h.1.below hbel (Nat.le_refl _)
    have hy := h'.1.below hbel (Nat.le_refl _)
    have hz : n < kk → n' < kk → p = 0 := fun e1 e2 => by rw [hp]; exact carry_none (by decide) h.lt h'.lt e1 e2
    have HZ := Lib.hid hz
    have HP := Lib.hid hp
    have HA := Lib.hid ha
    have HB := Lib.hid hb
    clear s1 s2 hq hz hp ha hb
    by_cases h1 : kk < n
    · have HK := Lib.hid (show kk + 1 ≤ max n n' + 1 by omega)
      have g1 : (kk : Int) < (n : Int) := by omega
      go_wp2_with fail
      refine (ref2_Digit _ _ _ x _ a _ hx ⟨kk, rfl, HA.out, by omega⟩).mono ?_
      rintro e w1 ⟨rfl, rfl⟩
      go_wp2_with fail
      refine (ref2_Digit _ _ _ y _ b _ hy ⟨kk, rfl, HB.out, by omega⟩).mono ?_
      rintro e w1 ⟨rfl, rfl⟩
      go_wp2_with (at_builtin; go_loud (refine wpList_push rfl _ _ 27 rfl w wr 3 i0 (.int .i64 0) 8 Try.underlying27 hi hz0 hz1 hz2 rfl .i64 65536 _ (kk) (low 65536 kk (x + y)) rfl hown hbel _ rfl (dg 65536 kk (x + y)) (by rw [← S2.out]; rfl) (dg_lt (by decide) _ _) (low_bound (by decide) _ _) rfl (by unfold maxLen; omega) (by omega) ?_))
      intro v' w1 hown' hbel'
      rw [low_next] at hown'
      clear hown hbel hx hy
      go_wp2
      go_roundw
      case rel => exact ⟨kk + 1, q, HK.out, by go_num, by rw [← S1.out]; rfl, HC.out, hown', hbel'⟩
      case measure => simp [intOf]; omega

    · by_cases h2 : kk < n'
      · have HK := Lib.hid (show kk + 1 ≤ max n n' + 1 by omega)
        have g1 : (n : Int) ≤ (kk : Int) := by omega
        have g2 : (kk : Int) < (n' : Int) := by omega
        go_wp2_with fail
        refine (ref2_Digit _ _ _ x _ a _ hx ⟨kk, rfl, HA.out, by omega⟩).mono ?_
        rintro e w1 ⟨rfl, rfl⟩
        go_wp2_with fail
        refine (ref2_Digit _ _ _ y _ b _ hy ⟨kk, rfl, HB.out, by omega⟩).mono ?_
        rintro e w1 ⟨rfl, rfl⟩
        go_wp2_with (at_builtin; go_loud (refine wpList_push rfl _ _ 27 rfl w wr 3 i0 (.int .i64 0) 8 Try.underlying27 hi hz0 hz1 hz2 rfl .i64 65536 _ (kk) (low 65536 kk (x + y)) rfl hown hbel _ rfl (dg 65536 kk (x + y)) (by rw [← S2.out]; rfl) (dg_lt (by decide) _ _) (low_bound (by decide) _ _) rfl (by unfold maxLen; omega) (by omega) ?_))
        intro v' w1 hown' hbel'
        rw [low_next] at hown'
        clear hown hbel hx hy
        go_wp2
        go_roundw
        case rel => exact ⟨kk + 1, q, HK.out, by go_num, by rw [← S1.out]; rfl, HC.out, hown', hbel'⟩
        case measure => simp [intOf]; omega

      · by_cases h3 : p = 0
        · have HX := Lib.hid (sum_low (b := 65536) (by decide) h.lt h'.lt (show n ≤ kk by omega) (show n' ≤ kk by omega) (by rw [← HP.out]; exact h3))
          rw [low_all HX.out] at hown
          obtain ⟨A1, c1, rfl, hd1, hf⟩ := own_form hown HX.out
          subst h3
          clear hown hx hy
          go_wp2_with fail
          refine (ref2_Trim _ _ _ _ _ hd1 (by omega)).mono ?_
          rintro e w2 ⟨A2, n2, c2, rfl, hd2, hb2, hf2⟩
          go_wp2_with fail
          go_ret
          exact ⟨A2, n2, c2, rfl, hd2, nx hbel hb2, hf2.mono hbel.size⟩
        · obtain rfl : p = 1 := by omega
          have HK := Lib.hid (show kk + 1 ≤ max n n' + 1 by
            rcases Nat.lt_or_ge n kk with e1 | e1
            · rcases Nat.lt_or_ge n' kk with e2 | e2
              · have := HZ.out e1 e2; omega
              · omega
            · omega)
          have g1 : (n : Int) ≤ (kk : Int) := by omega
          have g2 : (n' : Int) ≤ (kk : Int) := by omega
          go_wp2_with fail
          refine (ref2_Digit _ _ _ x _ a _ hx ⟨kk, rfl, HA.out, by omega⟩).mono ?_
          rintro e w1 ⟨rfl, rfl⟩
          go_wp2_with fail
          refine (ref2_Digit _ _ _ y _ b _ hy ⟨kk, rfl, HB.out, by omega⟩).mono ?_
          rintro e w1 ⟨rfl, rfl⟩
          go_wp2_with (at_builtin; go_loud (refine wpList_push rfl _ _ 27 rfl w wr 3 i0 (.int .i64 0) 8 Try.underlying27 hi hz0 hz1 hz2 rfl .i64 65536 _ (kk) (low 65536 kk (x + y)) rfl hown hbel _ rfl (dg 65536 kk (x + y)) (by rw [← S2.out]; rfl) (dg_lt (by decide) _ _) (low_bound (by decide) _ _) rfl (by unfold maxLen; omega) (by omega) ?_))
          intro v' w1 hown' hbel'
          rw [low_next] at hown'
          clear hown hbel hx hy
          go_wp2
          go_roundw
          case rel => exact ⟨kk + 1, q, HK.out, by go_num, by rw [← S1.out]; rfl, HC.out, hown', hbel'⟩
          case measure => simp [intOf]; omega

end Go.Proofs.Ytflleaifmeiikaa
