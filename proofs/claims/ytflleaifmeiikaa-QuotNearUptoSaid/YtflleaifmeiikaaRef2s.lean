/- The walks of actuaryref02: Sub. -/
import Derived.Test.YtflleaifmeiikaaRef2a
namespace Go.Proofs.Ytflleaifmeiikaa
open Go.RowKit
set_option maxRecDepth 100000 in
set_option maxHeartbeats 1000000 in
theorem ref2_Sub (A : Option Addr) (n c D : Nat) (A' : Option Addr) (n' c' y : Nat) (w : World) (h : NumAt .i64 65536 w A n c (D + y)) (h' : NumAt .i64 65536 w A' n' c' y) (hn : n ≤ 4000000000) :
    Calls Try.prog 67 #[.slice A n c, .slice A' n' c'] w (RetRef 65536 w D) := by
  obtain ⟨i0, hi, hz0, hz1, hz2⟩ := info_parts info_int
  have m1 := h.1.max
  have m2 := h.1.cap
  have m3 := h'.1.max
  have m4 := h'.1.cap
  have HL := Lib.hid (Nat.lt_of_le_of_lt (Nat.le_add_right D y) h.lt)
  go_enter Try.func67, Try.ntmps67
  go_wp2
  go_loopw [5, 6, 7, 8] (fun d cc k _ wr => ∃ kk q : Nat, kk ≤ n ∧ k = .int .i64 (kk : Int) ∧ cc = .int .i64 (q : Int) ∧ q = carry 65536 kk D y ∧ wr.ownsRow w.heap.size 3 1 d kk (dl .i64 65536 kk (low 65536 kk D)) ∧ Below w.heap.size w wr) (fun _ _ k _ _ => n - (intOf k).toNat)
  case atStart => exact ⟨0, 0, by omega, rfl, rfl, by rw [carry_zero], by rw [low_nought]; exact own_nil _ _ _ _ _, Below.refl _ _⟩
  case round =>
    obtain ⟨kk, p, hk, rfl, rfl, hp, hown, hbel⟩ := hrel
    by_cases h1 : kk < n
    · obtain ⟨a, ha⟩ : ∃ a, a = dg 65536 kk (D + y) := ⟨_, rfl⟩
      obtain ⟨b, hb⟩ : ∃ b, b = dg 65536 kk y := ⟨_, rfl⟩
      obtain ⟨d, hd⟩ : ∃ d, d = dg 65536 kk D := ⟨_, rfl⟩
      obtain ⟨q, hq⟩ : ∃ q, q = carry 65536 (kk + 1) D y := ⟨_, rfl⟩
      have hpc : p ≤ 1 := by rw [hp]; exact carry_le (by decide) _ _ _
      have hqc : q ≤ 1 := by rw [hq]; exact carry_le (by decide) _ _ _
      have hda : a ≤ 65535 := by have := dg_lt (b := 65536) (by decide) kk (D + y); omega
      have hdb : b ≤ 65535 := by have := dg_lt (b := 65536) (by decide) kk y; omega
      have hdd : d ≤ 65535 := by have := dg_lt (b := 65536) (by decide) kk D; omega
      obtain ⟨s1, s2⟩ := carry_step (b := 65536) (by decide) kk D y
      rw [← hp, ← hd, ← hb] at s1 s2
      rw [← hq] at s1
      rw [← ha] at s2
      have key : p + d + b = a + 65536 * q := by omega
      have HC := Lib.hid hq
      have HD := Lib.hid hd
      have HB := Lib.hid hb
      have hx := h.1.below hbel (Nat.le_refl _)
      have hy := h'.1.below hbel (Nat.le_refl _)
      obtain ⟨g, o, rfl, hg, hcell⟩ := hx.at_ (by omega)
      have hcx := hcell kk h1
      rw [← ha] at hcx
      have hkN : (kk : Int) < (n : Int) := by omega
      have kM : kk ≤ 9223372036854775807 := by omega
      clear hcell s1 s2 hq hd hb ha hp
      have z1 : IntKind.i64.wrap ((a : Int) - (b : Int)) = (a : Int) - (b : Int) := IntWalk.i64_in _ (by omega)
      have z2 : IntKind.i64.wrap ((a : Int) - (b : Int) - (p : Int)) = (a : Int) - (b : Int) - (p : Int) := IntWalk.i64_in _ (by omega)
      go_wp2_with fail
      go_quiet ((go_at_call 48; exact quietL (ref2_Digit _ _ _ y _ b _ (hy.drewN _) ⟨kk, rfl, HB.out, kM⟩)))
      clear z1 z2
      have hbelq := nxd hbel nq
      by_cases hs : a < b + p
      · have hsi : (a : Int) - (b : Int) - (p : Int) < 0 := by omega
        have hq1 : q = 1 := by omega
        go_wp2_with (at_builtin; go_loud (refine wpList_push rfl _ _ 27 rfl w (wr.drewN nq) 3 i0 (.int .i64 0) 8 Try.underlying27 hi hz0 hz1 hz2 rfl .i64 65536 _ (kk) (low 65536 kk D) rfl hown hbelq _ rfl (d) (by omega) (by omega) (low_bound (by decide) _ _) rfl (by unfold maxLen; omega) (by omega) ?_))
        intro v' w1 hown' hbel'
        rw [HD.out, low_next] at hown'
        clear hown hbel hbelq hx hy
        go_wp2
        go_roundw
        case rel => exact ⟨kk + 1, q, by omega, by go_num, by rw [hq1]; rfl, HC.out, hown', hbel'⟩
        case measure => simp [intOf]; omega

      · have hsi : ¬ (a : Int) - (b : Int) - (p : Int) < 0 := by omega
        have hq1 : q = 0 := by omega
        go_wp2_with (at_builtin; go_loud (refine wpList_push rfl _ _ 27 rfl w (wr.drewN nq) 3 i0 (.int .i64 0) 8 Try.underlying27 hi hz0 hz1 hz2 rfl .i64 65536 _ (kk) (low 65536 kk D) rfl hown hbelq _ rfl (d) (by omega) (by omega) (low_bound (by decide) _ _) rfl (by unfold maxLen; omega) (by omega) ?_))
        intro v' w1 hown' hbel'
        rw [HD.out, low_next] at hown'
        clear hown hbel hbelq hx hy
        go_wp2
        go_roundw
        case rel => exact ⟨kk + 1, q, by omega, by go_num, by rw [hq1]; rfl, HC.out, hown', hbel'⟩
        case measure => simp [intOf]; omega

    · obtain rfl : kk = n := by omega
      rw [low_all HL.out] at hown
      obtain ⟨A1, c1, rfl, hd1, hf⟩ := own_form hown HL.out
      clear hown hp
      go_wp2_with fail
      refine (ref2_Trim _ _ _ _ _ hd1 (by omega)).mono ?_
      rintro e w2 ⟨A2, n2, c2, rfl, hd2, hb2, hf2⟩
      go_wp2_with fail
      go_ret
      exact ⟨A2, n2, c2, rfl, hd2, nx hbel hb2, hf2.mono hbel.size⟩
end Go.Proofs.Ytflleaifmeiikaa
