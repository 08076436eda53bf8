/- The walks of actuaryref02: Is, Cmp. -/
import Derived.Test.YtflleaifmeiikaaRef2w
import Derived.Test.YtflleaifmeiikaaNatKit
namespace Go.Proofs.Ytflleaifmeiikaa
open Go.RowKit
set_option maxRecDepth 100000 in
set_option maxHeartbeats 1000000 in
theorem ref2_Is (A : Option Addr) (n c x : Nat) (A' : Option Addr) (n' c' y : Nat) (w : World) (h : Dig .i64 65536 w A n c x) (h' : Dig .u64 W w A' n' c' y) (hn : n ≤ 4000000000) :
    Calls Try.prog 49 #[.slice A n c, .slice A' n' c'] w (Ret w (.bool (decide ((n + 3) / 4 = n' ∧ x = y)))) := by
  have m1 := h.max
  have m2 := h.cap
  have m3 := h'.max
  have m4 := h'.cap
  obtain ⟨m, HM⟩ : ∃ m, Hid (m = (n + 3) / 4) := ⟨_, Lib.hid rfl⟩
  rw [← HM.out]
  by_cases hnn : m = n'
  · subst hnn
    go_enter Try.func49, Try.ntmps49
    go_wp2_with fail
    refine (ref2_Words A n c x _ h hn).mono ?_
    rw [← HM.out]
    rintro e w1 ⟨A1, c1, rfl, hown, hb1⟩
    obtain ⟨A2, c2, hv, hd1, hf1⟩ := own_form hown (Nat.lt_of_lt_of_le h.lt (by rw [show W = 65536 ^ 4 from by decide, ← Nat.pow_mul, HM.out]; exact Nat.pow_le_pow_right (by decide) (by omega)))
    cases hv
    have m5 := hd1.max
    have m6 := hd1.cap
    clear hown hf1
    go_wp2_with fail
    go_loopw [6] (fun k wr => ∃ kk : Nat, kk ≤ m ∧ k = .int .i64 (kk : Int) ∧ low W kk x = low W kk y ∧ Below w.heap.size w wr ∧ Dig .u64 W wr A1 m c1 x) (fun k _ => m - (intOf k).toNat)
    case atStart => exact ⟨0, Nat.zero_le _, rfl, by rw [low_nought, low_nought], hb1, hd1⟩
    case round =>
      obtain ⟨kk, hk, rfl, hlow, hbel, hd⟩ := hrel
      clear hd1 hb1
      by_cases hlt : kk < m
      · obtain ⟨g1, o1, rfl, hg1, hcell1⟩ := hd.at_ (by omega)
        obtain ⟨g2, o2, rfl, hg2, hcell2⟩ := h'.at_ (by omega)
        have k1 := hcell1 kk hlt
        have k2 := (hbel.cell (p := ⟨g2, o2 + kk, none⟩) hg2).trans (hcell2 kk hlt)
        have hkN : (kk : Int) < (m : Int) := by omega
        clear hcell1 hcell2
        by_cases hdd : dg W kk x = dg W kk y
        · have hB : (((dg W kk x : Nat) : Int) != (dg W kk y : Nat)) = false := by simp [hdd]
          have HL := Lib.hid (low_eq_succ hlow hdd)
          clear hlow hdd
          go_wp2_with fail
          go_quiet (fail)
          have hbel2 := nxd hbel nq
          have hd2 := hd.drewN nq
          clear hd hbel k1 k2
          go_wp2_with fail
          go_roundw
          case rel => exact ⟨kk + 1, by omega, by go_num, HL.out, hbel2, hd2⟩
          case measure => simp [intOf]; omega
        · have hB : (((dg W kk x : Nat) : Int) != (dg W kk y : Nat)) = true := by rw [bne_iff_ne]; omega
          have HF := Lib.hid (show decide (m = m ∧ x = y) = false by
            simp only [decide_eq_false_iff_not, not_and]
            intro _ e; exact hdd (by rw [e]))
          clear hlow hdd
          go_wp2_with fail
          go_quiet (fail)
          go_wp2_with fail
          go_ret
          exact ⟨by rw [HF.out]; rfl, nxd hbel nq⟩
      · obtain rfl : kk = m := by omega
        rw [low_all hd.lt, low_all h'.lt] at hlow
        have HF := Lib.hid hlow
        clear hlow
        go_wp2_with fail
        go_ret
        exact ⟨retb (by have := HF.out; simp [this]), hbel⟩
  · have hB : (((m : Nat) : Int) != (n' : Nat)) = true := by rw [bne_iff_ne]; omega
    have HF := Lib.hid (show decide (m = n' ∧ x = y) = false by simp [hnn])
    clear hnn
    go_enter Try.func49, Try.ntmps49
    go_wp2_with fail
    refine (ref2_Words A n c x _ h hn).mono ?_
    rw [← HM.out]
    rintro e w1 ⟨A1, c1, rfl, hown, hb1⟩
    clear hown
    go_wp2_with fail
    go_ret
    exact ⟨by rw [HF.out]; rfl, hb1⟩
end Go.Proofs.Ytflleaifmeiikaa
