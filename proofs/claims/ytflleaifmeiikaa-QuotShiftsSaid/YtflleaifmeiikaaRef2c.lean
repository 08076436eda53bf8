/- The walks of actuaryref02: Cmp. -/
import Derived.Test.YtflleaifmeiikaaRef2i
namespace Go.Proofs.Ytflleaifmeiikaa
open Go.RowKit
set_option maxRecDepth 100000 in
set_option maxHeartbeats 1000000 in
theorem ref2_Cmp (A : Option Addr) (n c x : Nat) (A' : Option Addr) (n' c' y : Nat) (w : World) (h : NumAt .i64 65536 w A n c x) (h' : NumAt .i64 65536 w A' n' c' y) :
    Calls Try.prog 66 #[.slice A n c, .slice A' n' c'] w (Ret w (.int .i64 (cmpI x y))) := by
  have m1 := h.1.max
  have m2 := h.1.cap
  have m3 := h'.1.max
  have m4 := h'.1.cap
  rcases Nat.lt_trichotomy n n' with hn | hn | hn
  · have hxy : x < y := by
      have h1 := h.1.lt
      have h2 := h'.2 (by omega)
      have h3 := Nat.pow_le_pow_right (n := 65536) (by decide) (show n ≤ n' - 1 by omega)
      omega
    have C := Lib.hid (cmpI_lt hxy)
    have hB : (((n : Nat) : Int) != (n' : Nat)) = true := by rw [bne_iff_ne]; omega
    have hi : (n : Int) < (n' : Int) := by omega
    clear hxy hn
    go_enter Try.func66, Try.ntmps66
    go_wp2
    go_ret
    exact ⟨by rw [C.out]; rfl, Below.refl _ _⟩
  · subst hn
    have HX := Lib.hid h.1
    have HY := Lib.hid h'.1
    clear h h'
    go_enter Try.func66, Try.ntmps66
    go_wp2
    go_loopw [5] (fun k wr => ∃ kk m : Nat, kk ≤ n ∧ k = .int .i64 ((kk : Int) - 1) ∧ up 65536 kk x = up 65536 kk y ∧ wr = w.drewN m) (fun k _ => (intOf k + 1).toNat)
    case atStart => exact ⟨n, 0, Nat.le_refl _, rfl, by unfold up; rw [Nat.div_eq_of_lt HX.out.lt, Nat.div_eq_of_lt HY.out.lt], rfl⟩
    case round =>
      obtain ⟨kk, m, hk, rfl, hup, rfl⟩ := hrel
      rcases kk with _ | j
      · rw [up_zero, up_zero] at hup
        have C := Lib.hid (cmpI_eq hup)
        clear hup
        go_wp2
        go_ret
        exact ⟨by rw [C.out]; rfl, nxd (Below.refl _ _) _⟩
      · rw [show ((j + 1 : Nat) : Int) - 1 = (j : Int) by omega]
        obtain ⟨g, o, rfl, hg, hcell⟩ := HX.out.at_ (by omega)
        obtain ⟨g', o', rfl, hg', hcell'⟩ := HY.out.at_ (by omega)
        have hcx := hcell j (by omega)
        have hcy := hcell' j (by omega)
        clear hcell hcell'
        have e1 := up_step (b := 65536) j x
        have e2 := up_step (b := 65536) j y
        rw [← hup] at e2
        have hj : (j : Int) < (n : Int) := by omega
        rcases Nat.lt_trichotomy (dg 65536 j x) (dg 65536 j y) with hl | hl | hl
        · have C := Lib.hid (cmpI_lt (lt_of_up (b := 65536) (j := j) (x := x) (y := y) (by omega)))
          have hli : ((dg 65536 j x : Nat) : Int) < ((dg 65536 j y : Nat) : Int) := by omega
          clear e1 e2 hup hl
          go_wp2
          go_quiet (fail)
          go_wp2
          go_ret
          exact ⟨by rw [C.out]; rfl, nxd (nxd (Below.refl _ _) _) _⟩
        · have HU := Lib.hid (show up 65536 j x = up 65536 j y by omega)
          rw [← hl] at hcy
          clear e1 e2 hup hl
          go_wp2
          go_quiet (fail)
          go_wp2
          go_quiet (fail)
          go_wp2
          go_roundw
          case rel => exact ⟨j, _, by omega, rfl, HU.out, rfl⟩
          case measure => simp [intOf]
        · have C := Lib.hid (cmpI_gt (lt_of_up (b := 65536) (j := j) (x := y) (y := x) (by omega)))
          have hli : ¬ ((dg 65536 j x : Nat) : Int) < ((dg 65536 j y : Nat) : Int) := by omega
          have hlg : ((dg 65536 j y : Nat) : Int) < ((dg 65536 j x : Nat) : Int) := by omega
          clear e1 e2 hup hl
          go_wp2
          go_quiet (fail)
          go_wp2
          go_quiet (fail)
          go_wp2
          go_ret
          exact ⟨by rw [C.out]; rfl, nxd (nxd (nxd (Below.refl _ _) _) _) _⟩
  · have hxy : y < x := by
      have h1 := h'.1.lt
      have h2 := h.2 (by omega)
      have h3 := Nat.pow_le_pow_right (n := 65536) (by decide) (show n' ≤ n - 1 by omega)
      omega
    have C := Lib.hid (cmpI_gt hxy)
    have hB : (((n : Nat) : Int) != (n' : Nat)) = true := by rw [bne_iff_ne]; omega
    have hi : ¬ (n : Int) < (n' : Int) := by omega
    clear hxy hn
    go_enter Try.func66, Try.ntmps66
    go_wp2
    go_ret
    exact ⟨by rw [C.out]; rfl, Below.refl _ _⟩
end Go.Proofs.Ytflleaifmeiikaa
