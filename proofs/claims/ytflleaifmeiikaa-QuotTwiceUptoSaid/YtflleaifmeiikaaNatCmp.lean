/- The walk of nat.Cmp. -/
import Derived.Test.YtflleaifmeiikaaNat
namespace Go.Proofs.Ytflleaifmeiikaa
open Go.RowKit
theorem up_step {b : Nat} (j x : Nat) : up b j x = dg b j x + b * up b (j + 1) x := by
  rw [← up_succ, ← up_mod]; exact (Nat.mod_add_div _ _).symm
theorem lt_of_up {b j x y : Nat} (h : up b j x < up b j y) : x < y := by
  rcases Nat.lt_or_ge x y with h1 | h1
  · exact h1
  · have : up b j y ≤ up b j x := Nat.div_le_div_right h1
    omega
theorem cmpI_lt {x y : Nat} (h : x < y) : cmpI x y = -1 := if_pos h
theorem cmpI_eq {x y : Nat} (h : x = y) : cmpI x y = 0 := by unfold cmpI; rw [if_neg (by omega), if_pos h]
theorem cmpI_gt {x y : Nat} (h : y < x) : cmpI x y = 1 := by unfold cmpI; rw [if_neg (by omega), if_neg (by omega)]
set_option maxRecDepth 100000 in
set_option maxHeartbeats 1000000 in
theorem nat_Cmp (A : Option Addr) (n c x : Nat) (A' : Option Addr) (n' c' y : Nat) (w : World) (h : NatAt w A n c x) (h' : NatAt w A' n' c' y) :
    Calls Try.prog 29 #[.agg #[.slice A n c], .agg #[.slice A' n' c']] w (Ret w (.int .i64 (cmpI x y))) := by
  have m1 := h.1.max
  have m2 := h.1.cap
  have m3 := h'.1.max
  have m4 := h'.1.cap
  rcases Nat.lt_trichotomy n n' with hn | hn | hn
  · have hxy : x < y := by
      have h1 := h.1.lt
      have h2 := h'.2 (by omega)
      have h3 := Nat.pow_le_pow_right W_pos (show n ≤ n' - 1 by omega)
      omega
    have C := Lib.hid (cmpI_lt hxy)
    clear hxy
    go_enter Try.func29, Try.ntmps29
    go_wp2_with fail
    refine (cmp_int n n' (-1) _ ⟨fun _ => rfl, fun _ => by omega, fun _ => by omega⟩).mono ?_
    rintro e w1 ⟨rfl, rfl⟩
    go_wp2_with fail
    go_ret
    exact ⟨by rw [C.out]; rfl, nxa (nxa (Below.refl _ _) _) _⟩
  · subst hn
    have hd := h.1
    have hd' := h'.1
    have HX := Lib.hid hd
    have HY := Lib.hid hd'
    clear hd hd'
    go_enter Try.func29, Try.ntmps29
    go_wp2_with fail
    refine (cmp_int n n 0 _ ⟨fun _ => by omega, fun _ => rfl, fun _ => by omega⟩).mono ?_
    rintro e w1 ⟨rfl, rfl⟩
    go_wp2_with fail
    go_loopw [6, 7] (fun k _ wr => ∃ kk m : Nat, kk ≤ n ∧ k = .int .i64 ((kk : Int) - 1) ∧ up W kk x = up W kk y ∧ wr = ((w.alloc (.cells #[.slice A n c] 25)).alloc (.cells #[.slice A' n c'] 25)).drewN m) (fun k _ _ => (intOf k + 1).toNat)
    case atStart => exact ⟨n, 0, Nat.le_refl _, rfl, by unfold up; rw [Nat.div_eq_of_lt HX.out.lt, Nat.div_eq_of_lt HY.out.lt], rfl⟩
    case round =>
      obtain ⟨kk, m, hk, rfl, hup, rfl⟩ := hrel
      rcases kk with _ | j
      · rw [up_zero, up_zero] at hup
        have C := Lib.hid (cmpI_eq hup)
        clear hup
        go_wp2_with fail
        go_ret
        exact ⟨by rw [C.out]; rfl, nxd (nxa (nxa (Below.refl _ _) _) _) _⟩
      · rw [show ((j + 1 : Nat) : Int) - 1 = (j : Int) by omega]
        obtain ⟨g, o, rfl, hg, hcell⟩ := HX.out.at_ (by omega)
        obtain ⟨g', o', rfl, hg', hcell'⟩ := HY.out.at_ (by omega)
        have hcx := hcell j (by omega)
        have hcy := hcell' j (by omega)
        clear hcell hcell'
        have e1 := up_step (b := W) j x
        have e2 := up_step (b := W) j y
        rw [← hup] at e2
        have hj : (j : Int) < (n : Int) := by omega
        rcases Nat.lt_trichotomy (dg W j x) (dg W j y) with hl | hl | hl
        · have C := Lib.hid (cmpI_lt (lt_of_up (b := W) (j := j) (x := x) (y := y) (by omega)))
          have Q := fun W' => cmp_u64 (dg W j x) (dg W j y) (-1) W' ⟨fun _ => rfl, fun _ => by omega, fun _ => by omega⟩
          have HQ := Lib.hid Q
          clear e1 e2 hup hl Q
          go_wp2_with fail
          go_quiet ((go_at_call 60; exact quietDL (HQ.out _)))
          go_wp2_with fail
          go_ret
          exact ⟨by rw [C.out]; rfl, nxd (nxa (nxa (Below.refl _ _) _) _) _⟩
        · have C := Lib.hid (show up W j x = up W j y by rw [e1, e2, hl])
          have Q := fun W' => cmp_u64 (dg W j x) (dg W j y) 0 W' ⟨fun _ => by omega, fun _ => rfl, fun _ => by omega⟩
          have HQ := Lib.hid Q
          clear e1 e2 hup hl Q
          go_wp2_with fail
          go_quiet ((go_at_call 60; exact quietDL (HQ.out _)))
          go_wp2_with fail
          go_roundw
          case rel => exact ⟨j, _, by omega, by go_num, C.out, rfl⟩
          case measure => simp [intOf]
        · have C := Lib.hid (cmpI_gt (lt_of_up (b := W) (j := j) (x := y) (y := x) (by omega)))
          have Q := fun W' => cmp_u64 (dg W j x) (dg W j y) 1 W' ⟨fun _ => by omega, fun _ => by omega, fun _ => rfl⟩
          have HQ := Lib.hid Q
          clear e1 e2 hup hl Q
          go_wp2_with fail
          go_quiet ((go_at_call 60; exact quietDL (HQ.out _)))
          go_wp2_with fail
          go_ret
          exact ⟨by rw [C.out]; rfl, nxd (nxa (nxa (Below.refl _ _) _) _) _⟩
  · have hxy : y < x := by
      have h1 := h'.1.lt
      have h2 := h.2 (by omega)
      have h3 := Nat.pow_le_pow_right W_pos (show n' ≤ n - 1 by omega)
      omega
    have C := Lib.hid (cmpI_gt hxy)
    clear hxy
    go_enter Try.func29, Try.ntmps29
    go_wp2_with fail
    refine (cmp_int n n' 1 _ ⟨fun _ => by omega, fun _ => by omega, fun _ => rfl⟩).mono ?_
    rintro e w1 ⟨rfl, rfl⟩
    go_wp2_with fail
    go_ret
    exact ⟨by rw [C.out]; rfl, nxa (nxa (Below.refl _ _) _) _⟩
end Go.Proofs.Ytflleaifmeiikaa
