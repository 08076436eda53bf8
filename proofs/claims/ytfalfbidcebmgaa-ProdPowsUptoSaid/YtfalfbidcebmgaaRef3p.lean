/- The walk of actuaryref03.Pow. -/
import Derived.Test.YtfalfbidcebmgaaRef3
import Derived.Test.YtfalfbidcebmgaaRef2b
set_option linter.unusedVariables false
set_option linter.unusedSimpArgs false
namespace Go.Proofs.Ytfalfbidcebmgaa
open Go.RowKit
set_option maxRecDepth 100000
def RetRefW (b : Nat) (w : World) (x : Nat) (e : Ending) (w' : World) : Prop := ∃ A n c, e = .returned (.slice A n c) ∧ NumAt .i64 b w' A n c x ∧ Below w.heap.size w w'
theorem num_one (w : World) (e : TypeId) : NumAt .i64 65536 (w.alloc (.cells #[.int .i64 1] e)) (some ⟨w.heap.size, 0, none⟩) 1 1 1 := by
  refine ⟨⟨by decide, by omega, by omega, fun _ => ⟨w.heap.size, 0, rfl, by simp, fun j hj => ?_⟩⟩, fun _ => by simp⟩
  obtain rfl : j = 0 := by omega
  rw [show dg 65536 0 1 = 1 by decide]; simp
set_option maxHeartbeats 1000000 in
theorem ref3_Pow_small (A : Option Addr) (n c x k : Nat) (w : World) (h : NumAt .i64 65536 w A n c x) (hn : n ≤ 1000000000) (hx : blen x ≤ 1) (hk : k ≤ 9223372036854775807) :
    Calls Try.prog 45 #[.slice A n c, .int .i64 (k : Nat)] w (RetRefW 65536 w (x ^ k)) := by
  have m1 := h.1.max
  have m2 := h.1.cap
  have hx1 : x ≤ 1 := by
    have h1 := blen_lt x
    have h2 := Nat.pow_le_pow_right (show 0 < 2 by decide) hx
    omega
  have hpw : 0 < k → x ^ k = x := fun h0 => by
    obtain ⟨j, rfl⟩ : ∃ j, k = j + 1 := ⟨k - 1, by omega⟩
    obtain rfl | rfl : x = 0 ∨ x = 1 := by omega
    · simp
    · simp
  have HP := Lib.hid hpw
  have h1 := h.to (w' := w.alloc (.cells #[.int .i64 1] 3)) (nxa (Below.refl _ _) _)
  have o1 := num_one w 3
  have hb : Below w.heap.size w (w.alloc (.cells #[.int .i64 1] 3)) := nxa (Below.refl _ _) _
  clear hpw
  rcases Nat.eq_zero_or_pos x with hz | hz
  · have hn0 : n = 0 := (h.zero_iff (by decide)).1 hz
    have hnI : ((n : Int) == 0) = true := by rw [hn0]; rfl
    have HN := Lib.hid hn0
    have HZ := Lib.hid hz
    clear hn0 hz
    by_cases h0 : 0 < k
    · have h0I : (0 : Int) < (k : Int) := by omega
      go_enter Try.func45, Try.ntmps45
      go_wp2_with fail
      go_ret
      exact ⟨A, n, c, rfl, by rw [HP.out h0]; exact h1, hb⟩
    · have h0I : ¬ (0 : Int) < (k : Int) := by omega
      have HK := Lib.hid (show k = 0 by omega)
      go_enter Try.func45, Try.ntmps45
      go_wp2_with fail
      go_ret
      exact ⟨_, 1, 1, rfl, by rw [HK.out, Nat.pow_zero]; exact o1, hb⟩
  · have hn0 : n ≠ 0 := fun e => by have := (h.zero_iff (by decide)).2 e; omega
    have hnI : ((n : Int) == 0) = false := by simp; omega
    have hbx : blen x = 1 := by have := blen_pos (x := x) (by omega); omega
    have HB := Lib.hid hbx
    clear hbx
    by_cases h0 : 0 < k
    · have h0I : (0 : Int) < (k : Int) := by omega
      go_enter Try.func45, Try.ntmps45
      go_wp2_with fail
      refine (ref2_Bits A n c x _ h1 (by omega)).mono ?_
      rw [HB.out]
      rintro e w1 ⟨rfl, rfl⟩
      go_wp2_with fail
      go_ret
      exact ⟨A, n, c, rfl, by rw [HP.out h0]; exact h1, hb⟩
    · have h0I : ¬ (0 : Int) < (k : Int) := by omega
      have HK := Lib.hid (show k = 0 by omega)
      go_enter Try.func45, Try.ntmps45
      go_wp2_with fail
      refine (ref2_Bits A n c x _ h1 (by omega)).mono ?_
      rw [HB.out]
      rintro e w1 ⟨rfl, rfl⟩
      go_wp2_with fail
      go_ret
      exact ⟨_, 1, 1, rfl, by rw [HK.out, Nat.pow_zero]; exact o1, hb⟩
set_option maxHeartbeats 1000000 in
theorem ref3_Pow_great (A : Option Addr) (n c x k m : Nat) (w : World) (h : NumAt .i64 65536 w A n c x) (hn : n ≤ 1000000000) (hx : 1 < blen x) (hk : k ≤ 9223372036854775807) (hm : m ≤ 1000000000) (hs : Hid (∀ j, j ≤ k → x ^ j < 65536 ^ m)) :
    Calls Try.prog 45 #[.slice A n c, .int .i64 (k : Nat)] w (RetRefW 65536 w (x ^ k)) := by
  have m1 := h.1.max
  have m2 := h.1.cap
  have h1 := h.to (w' := w.alloc (.cells #[.int .i64 1] 3)) (nxa (Below.refl _ _) _)
  have o1 := num_one w 3
  have hb : Below w.heap.size w (w.alloc (.cells #[.int .i64 1] 3)) := nxa (Below.refl _ _) _
  have hn0 : n ≠ 0 := fun e => by have := (h.zero_iff (by decide)).2 e; subst this; rw [blen_zero] at hx; omega
  have hnI : ((n : Int) == 0) = false := by simp; omega
  have hbI : ((blen x : Int) == 1) = false := by simp; omega
  go_enter Try.func45, Try.ntmps45
  go_wp2_with fail
  refine (ref2_Bits A n c x _ h1 (by omega)).mono ?_
  rintro e w1 ⟨rfl, rfl⟩
  go_wp2_with fail
  go_loopw [5, 6] (fun o t wr => ∃ j A1 n1 c1, j ≤ k ∧ t = .int .i64 ((j : Nat) : Int) ∧ o = .slice A1 n1 c1 ∧ NumAt .i64 65536 wr A1 n1 c1 (x ^ j) ∧ Below w.heap.size w wr) (fun _ t _ => k - (intOf t).toNat)
  case atStart => exact ⟨0, _, 1, 1, Nat.zero_le _, rfl, rfl, by rw [Nat.pow_zero]; exact o1, hb⟩
  case round =>
    obtain ⟨j, A1, n1, c1, hj, rfl, rfl, hp, hbl⟩ := hrel
    have q1 := hp.le_of (by decide) m (hs.out j hj)
    by_cases hlt : j < k
    · have jk : (j : Int) < (k : Int) := by omega
      have hx2 := h.to hbl
      go_wp2_with fail
      refine (ref3_Mul _ _ _ _ _ _ _ _ _ hp hx2 (by omega) hn).mono ?_
      rintro e w2 ⟨A2, n2, c2, rfl, h2, hb2, hf2⟩
      have hbl2 := nx hbl hb2
      clear hbl hb2 hp hx2
      go_wp2_with fail
      go_roundw
      case rel => exact ⟨j + 1, A2, n2, c2, by omega, by go_num, rfl, by rw [Nat.pow_succ]; exact h2, hbl2⟩
      case measure => simp [intOf]; omega
    · obtain rfl : j = k := by omega
      go_wp2_with fail
      go_ret
      exact ⟨A1, n1, c1, rfl, hp, hbl⟩
end Go.Proofs.Ytfalfbidcebmgaa
