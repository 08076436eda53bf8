/- The walks of actuaryref02: Half, Shr, Low. -/
import Derived.Test.YtfalfbidcebmgaaRef2p
namespace Go.Proofs.Ytfalfbidcebmgaa
open Go.RowKit
theorem half_step {b : Nat} (hb : 0 < b) (j X m : Nat) (hm : 0 < m) :
    up b j (X / m) = (up b (j + 1) X % m * b + dg b j X) / m + b * up b (j + 1) (X / m) ∧ (up b (j + 1) X % m * b + dg b j X) % m = up b j X % m ∧ (up b (j + 1) X % m * b + dg b j X) / m < b := by
  have e0 : ∀ i, up b i (X / m) = up b i X / m := fun i => by unfold up; rw [Nat.div_div_eq_div_mul, Nat.div_div_eq_div_mul, Nat.mul_comm]
  have e1 := up_step (b := b) j X
  have e2 := Nat.mod_add_div (up b (j + 1) X) m
  have hd := dg_lt hb j X
  have e3 : up b j X = (up b (j + 1) X % m * b + dg b j X) + m * (b * (up b (j + 1) X / m)) := by
    rw [e1]
    conv => lhs; rw [← e2]
    rw [Nat.mul_add, ← Nat.mul_assoc, Nat.mul_comm b m, Nat.mul_assoc, Nat.mul_comm b (_ % m)]; omega
  refine ⟨?_, ?_, ?_⟩
  · rw [e0, e0, e3, Nat.add_mul_div_left _ _ hm]
  · rw [e3, Nat.add_mul_mod_self_left]
  · have hl := Nat.mod_lt (up b (j + 1) X) hm
    apply Nat.div_lt_of_lt_mul
    have := Nat.mul_le_mul_right b (show up b (j + 1) X % m + 1 ≤ m by omega)
    rw [Nat.add_mul] at this; omega
theorem put_up {b : Nat} (hb : 0 < b) (j U d : Nat) : put b j (U * b ^ (j + 1)) d = (d + b * U) * b ^ j := by
  unfold put
  rw [Nat.mul_div_cancel _ (Nat.pow_pos hb), Nat.pow_succ, show U * (b ^ j * b) % b ^ j = 0 by rw [← Nat.mul_assoc, Nat.mul_comm U, Nat.mul_assoc]; exact Nat.mul_mod_right _ _, Nat.zero_add, Nat.add_mul, Nat.mul_comm b U, Nat.mul_assoc U b, Nat.mul_comm b]
def RetHalf (w : World) (q r : Nat) (e : Ending) (w' : World) : Prop := ∃ A n c, e = .returned (.tuple #[.slice A n c, .int .i64 (r : Nat)]) ∧ NumAt .i64 65536 w' A n c q ∧ Below w.heap.size w w' ∧ Fresh w.heap.size A
set_option maxRecDepth 100000 in
set_option maxHeartbeats 1000000 in
theorem ref2_Half (A : Option Addr) (n c x m : Nat) (w : World) (h : Dig .i64 65536 w A n c x) (hm : 0 < m) (hm2 : m ≤ 65536) (hn : n ≤ 4000000000) :
    Calls Try.prog 61 #[.slice A n c, .int .i64 (m : Nat)] w (RetHalf w (x / m) (x % m)) := by
  obtain ⟨i0, hi, hz0, hz1, hz2⟩ := info_parts info_int
  have m1 := h.max
  have m2 := h.cap
  go_enter Try.func61, Try.ntmps61
  go_wp2_with (at_make; refine wpList_make_full _ rfl _ _ 27 rfl w.heap.size 3 i0 (.int .i64 0) 1 Try.underlying27 hi hz0 hz1 .i64 .i64 _ _ n rfl rfl rfl rfl (by rw [hz2]; omega) (by unfold maxLen; omega) (Nat.le_refl _) ?_)
  intro w1 hown hgrow
  rw [made_dl .i64 65536] at hown
  have hb1 := below_of_none hgrow
  clear hgrow
  go_wp2
  obtain ⟨G, hG⟩ : ∃ G, G = w.heap.size := ⟨_, rfl⟩
  have HG := Lib.hid hG
  rw [← hG] at hown ⊢
  clear hG
  go_loopw [7, 8, 9] (fun l k _ wr => ∃ kk r : Nat, kk ≤ n ∧ k = .int .i64 ((kk : Int) - 1) ∧ l = .int .i64 (r : Int) ∧ r = up 65536 kk x % m ∧ wr.ownsRow G 3 1 (.slice (some ⟨G, 0, none⟩) n n) n (dl .i64 65536 n (up 65536 kk (x / m) * 65536 ^ kk)) ∧ Below w.heap.size w wr) (fun _ k _ _ => (intOf k + 1).toNat)
  case atStart =>
    refine ⟨n, 0, by omega, rfl, rfl, ?_, ?_, hb1⟩
    · unfold up; rw [Nat.div_eq_of_lt h.lt, Nat.zero_mod]
    · unfold up; rw [Nat.div_eq_of_lt (Nat.lt_of_le_of_lt (Nat.div_le_self _ _) h.lt), Nat.zero_mul]; exact hown
  case round =>
    clear hown hb1
    obtain ⟨kk, r, hk, rfl, rfl, hr, hown, hbel⟩ := hrel
    have hrm : r < m := by rw [hr]; exact Nat.mod_lt _ hm
    rcases kk with _ | j
    · rw [up_zero] at hr hown
      rw [Nat.pow_zero, Nat.mul_one] at hown
      have HR := Lib.hid hr
      obtain ⟨A1, c1, hv, hd1, hf⟩ := own_form hown (Nat.lt_of_le_of_lt (Nat.div_le_self _ _) h.lt)
      cases hv
      clear hr hown
      go_wp2_with fail
      refine (ref2_Trim _ _ _ _ _ hd1 (by omega)).mono ?_
      rintro e w2 ⟨A2, n2, c2, rfl, hd2, hb2, hf2⟩
      go_wp2_with fail
      go_ret2
      exact ⟨A2, n2, c2, by rw [← HR.out]; rfl, hd2, nx hbel hb2, hf2.mono hbel.size⟩
    · obtain ⟨a, ha⟩ : ∃ a, a = dg 65536 j x := ⟨_, rfl⟩
      have hda : a ≤ 65535 := by have := dg_lt (b := 65536) (by decide) j x; omega
      obtain ⟨t1, t2, t3⟩ := half_step (b := 65536) (by decide) j x m hm
      rw [← hr, ← ha] at t1 t2 t3
      obtain ⟨s, hs⟩ : ∃ s, s = r * 65536 + a := ⟨_, rfl⟩
      rw [← hs] at t1 t2 t3
      have hsl : s ≤ 4294967296 := by omega
      have hsi : (r : Int) * 65536 + (a : Int) = (s : Int) := by omega
      obtain ⟨g, o, rfl, hg, hcell⟩ := h.at_ (by omega)
      have hcx : wr.cell? ⟨g, o + j, none⟩ = some (.int .i64 (a : Int)) := by rw [ha]; exact (hbel.cell (by exact hg)).trans (hcell j (by omega))
      have hj : (j : Int) < (n : Int) := by omega
      have hm0 : (m : Int) ≠ 0 := by omega
      have cG := hown.cellAt j (by omega)
      have fG := hown.frozenAt j
      rw [show ((j + 1 : Nat) : Int) - 1 = (j : Int) by omega]
      rw [dl_get _ _ _ _ _ (show j < n by omega)] at cG
      obtain ⟨d, hd⟩ : ∃ d, d = s / m := ⟨_, rfl⟩
      obtain ⟨t, ht⟩ : ∃ t, t = s % m := ⟨_, rfl⟩
      rw [← hd] at t1 t3
      rw [← ht] at t2
      have zd : (s : Int) / (m : Int) = (d : Int) := by rw [hd]; rfl
      have zw : wrap64 (d : Int) = (d : Int) := by unfold wrap64; omega
      have zt : (s : Int) % (m : Int) = (t : Int) := by rw [ht]; rfl
      have ho := (hown.stored j (.int .i64 (d : Nat))).1
      rw [dl_set (by decide) (show j < n by omega) t3, put_up (by decide), ← t1] at ho
      have hbel' := hbel.setCell (p := ⟨G, j, none⟩) (by show w.heap.size ≤ G; rw [HG.out]; omega) (.int .i64 (d : Nat))
      have T2 := Lib.hid t2
      clear t1 t2 t3 hcell hr hs ha hd ht hown hbel
      go_wp2
      go_roundw
      case rel => exact ⟨j, t, by omega, rfl, by rw [zt], T2.out, ho, hbel'⟩
      case measure => simp [intOf]
end Go.Proofs.Ytfalfbidcebmgaa
