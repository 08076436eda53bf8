/- The walks of actuaryref02: Shr, Low. -/
import Derived.Test.YtfalfbidcebmgaaRef2h
namespace Go.Proofs.Ytfalfbidcebmgaa
open Go.RowKit
theorem shr_split (x k : Nat) : x / 65536 ^ (k / 16) / 2 ^ (k % 16) = x / 2 ^ k := by
  rw [Nat.div_div_eq_div_mul, pow_split]
theorem ref2_Shr_no (A : Option Addr) (n c : Nat) (k : Int) (w : World) (hk : k < 0) :
    Calls Try.prog 27 #[.slice A n c, .int .i64 k] w (RetRef 65536 w 0) := by
  go_enter Try.func27, Try.ntmps27
  go_wp2
  go_ret
  exact ⟨none, 0, 0, rfl, NumAt.nil _ _ _, Below.refl _ _, Fresh.none _⟩
set_option maxRecDepth 100000 in
set_option maxHeartbeats 1000000 in
theorem ref2_Shr (A : Option Addr) (n c x k : Nat) (w : World) (h : Dig .i64 65536 w A n c x) (hk : k ≤ 9223372036854775807) (hn : n ≤ 4000000000) :
    Calls Try.prog 27 #[.slice A n c, .int .i64 (k : Nat)] w (RetRef 65536 w (x / 2 ^ k)) := by
  have m1 := h.max
  have m2 := h.cap
  obtain ⟨q, hq⟩ : ∃ q, q = k / 16 := ⟨_, rfl⟩
  obtain ⟨r, hr⟩ : ∃ r, r = k % 16 := ⟨_, rfl⟩
  have e1 : (k : Int) / 16 = (q : Int) := by omega
  have e2 : (k : Int) % 16 = (r : Int) := by omega
  have hrl : r ≤ 15 := by omega
  have HS := Lib.hid (show x / 65536 ^ q / 2 ^ r = x / 2 ^ k by rw [hq, hr]; exact shr_split x k)
  have hk0 : ¬ (k : Int) < 0 := by omega
  obtain ⟨pw, hpw⟩ : ∃ pw, pw = 2 ^ r := ⟨_, rfl⟩
  have hpl : pw ≤ 65536 := by rw [hpw]; exact Nat.le_trans (Nat.pow_le_pow_right (by decide) hrl) (by decide)
  have hp0 : 0 < pw := by rw [hpw]; exact Nat.pow_pos (by decide)
  have HPW := Lib.hid hpw
  clear hq hr hpw
  by_cases hqn : q < n
  · obtain ⟨g, o, rfl, hg, hcell⟩ := h.at_ (by omega)
    have hf := h.from_ (i := q) (by omega) (A' := some ⟨g, o + q, none⟩) (fun g' o' e _ => by cases e; rfl)
    have hqi : (q : Int) < (n : Int) := by omega
    have hqi0 : (0 : Int) ≤ (q : Int) := by omega
    clear hcell
    go_enter Try.func27, Try.ntmps27
    go_wp2_with fail
    refine (ref2_Trim _ _ _ _ _ hf (by omega)).mono ?_
    rintro e w1 ⟨A1, n1, c1, rfl, hd1, hb1, _⟩
    go_wp2_with fail
    refine (ref2_Power _ pw _ ⟨r, by omega, HPW.out, by omega⟩).mono ?_
    rintro e w2 ⟨rfl, rfl⟩
    have hn1 := hd1.le_of (by decide) _ hf.lt
    go_wp2_with fail
    refine (ref2_Half _ _ _ _ pw _ hd1.1 hp0 hpl (by omega)).mono ?_
    rintro e w2 ⟨A2, n2, c2, rfl, hd2, hb2, hf2⟩
    go_wp2_with fail
    go_ret
    exact ⟨A2, n2, c2, rfl, by rw [← HS.out, ← HPW.out]; exact hd2, nx hb1 hb2, hf2.mono hb1.size⟩
  · have hqi : (n : Int) ≤ (q : Int) := by omega
    have HX := Lib.hid (show x / 2 ^ k = 0 by
      rw [← HS.out, Nat.div_eq_of_lt (Nat.lt_of_lt_of_le h.lt (Nat.pow_le_pow_right (by decide) (by omega))), Nat.zero_div])
    go_enter Try.func27, Try.ntmps27
    go_wp2
    go_ret
    exact ⟨none, 0, 0, rfl, by rw [HX.out]; exact NumAt.nil _ _ _, Below.refl _ _, Fresh.none _⟩
end Go.Proofs.Ytfalfbidcebmgaa
