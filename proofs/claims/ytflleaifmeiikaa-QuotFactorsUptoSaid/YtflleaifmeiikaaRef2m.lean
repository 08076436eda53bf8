/- The walks of actuaryref02: Small. -/
import Derived.Test.YtflleaifmeiikaaRef2s
namespace Go.Proofs.Ytflleaifmeiikaa
open Go.RowKit
theorem small_step {b : Nat} (hb : 0 < b) (k x m add : Nat) :
    ((low b k x * m + add) / b ^ k + dg b k x * m) / b = (low b (k + 1) x * m + add) / b ^ (k + 1) ∧
    ((low b k x * m + add) / b ^ k + dg b k x * m) % b = dg b k (x * m + add) := by
  have hp : 0 < b ^ k := Nat.pow_pos hb
  have e1 : low b (k + 1) x * m + add = (low b k x * m + add) + b ^ k * (dg b k x * m) := by
    rw [← low_next, Nat.add_mul, Nat.mul_comm (dg b k x) (b ^ k), Nat.mul_assoc]; omega
  have e2 : x * m + add = (low b k x * m + add) + b ^ k * (up b k x * m) := by
    have h : x = low b k x + b ^ k * up b k x := (Nat.mod_add_div x (b ^ k)).symm
    conv => lhs; rw [h]
    rw [Nat.add_mul, Nat.mul_assoc]; omega
  constructor
  · rw [e1, Nat.pow_succ, ← Nat.div_div_eq_div_mul, Nat.add_mul_div_left _ _ hp]
  · rw [e2]
    unfold dg
    rw [Nat.add_mul_div_left _ _ hp]
    have h : up b k x = dg b k x + b * up b (k + 1) x := up_step k x
    unfold dg at h
    rw [h, Nat.add_mul, Nat.mul_assoc, ← Nat.add_assoc, Nat.add_mul_mod_self_left]
theorem Dig.two (w : World) (e : TypeId) (u v : Int) (b x : Nat) (hu : u = (x % b : Nat)) (hv : v = (x / b : Nat)) (hx : x < b * b) :
    Dig .i64 b (w.alloc (.cells #[.int .i64 u, .int .i64 v] e)) (some ⟨w.heap.size, 0, none⟩) 2 2 x := by
  subst hu hv
  refine ⟨by rw [show (2 : Nat) = 1 + 1 from rfl, Nat.pow_succ, Nat.pow_one]; exact hx, by omega, by omega, fun _ => ⟨w.heap.size, 0, rfl, by simp, fun j hj => ?_⟩⟩
  obtain rfl | rfl : j = 0 ∨ j = 1 := by omega
  · rw [show dg b 0 x = x % b by unfold dg; rw [Nat.pow_zero, Nat.div_one]]; simp
  · rw [show dg b 1 x = x / b by unfold dg; rw [Nat.pow_one, Nat.mod_eq_of_lt (Nat.div_lt_of_lt_mul hx)]]; simp
set_option maxRecDepth 100000 in
set_option maxHeartbeats 1000000 in
theorem ref2_Small (A : Option Addr) (n c x m add : Nat) (w : World) (h : Dig .i64 65536 w A n c x) (hm : m ≤ 65536) (ha : add ≤ 4294967295) (hn : n ≤ 4000000000) :
    Calls Try.prog 65 #[.slice A n c, .int .i64 (m : Nat), .int .i64 (add : Nat)] w (RetRef 65536 w (x * m + add)) := by
  obtain ⟨i0, hi, hz0, hz1, hz2⟩ := info_parts info_int
  have m1 := h.max
  have m2 := h.cap
  go_enter Try.func65, Try.ntmps65
  go_wp2
  go_loopw [7, 8, 9, 10] (fun d cc k _ wr => ∃ kk q : Nat, kk ≤ n ∧ k = .int .i64 (kk : Int) ∧ cc = .int .i64 (q : Int) ∧ q = (low 65536 kk x * m + add) / 65536 ^ kk ∧ q ≤ 4294967295 ∧ wr.ownsRow w.heap.size 3 1 d kk (dl .i64 65536 kk (low 65536 kk (x * m + add))) ∧ Below w.heap.size w wr) (fun _ _ k _ _ => n - (intOf k).toNat)
  case atStart => exact ⟨0, add, by omega, rfl, rfl, by rw [low_nought]; simp, ha, by rw [low_nought]; exact own_nil _ _ _ _ _, Below.refl _ _⟩
  case round =>
    obtain ⟨kk, p, hk, rfl, rfl, hp, hpq, hown, hbel⟩ := hrel
    by_cases h1 : kk < n
    · obtain ⟨a, haa⟩ : ∃ a, a = dg 65536 kk x := ⟨_, rfl⟩
      obtain ⟨q, hq⟩ : ∃ q, q = (low 65536 (kk + 1) x * m + add) / 65536 ^ (kk + 1) := ⟨_, rfl⟩
      obtain ⟨t, ht⟩ : ∃ t, t = a * m := ⟨_, rfl⟩
      have hda : a ≤ 65535 := by have := dg_lt (b := 65536) (by decide) kk x; omega
      have htm : t ≤ 4294967296 := by rw [ht]; exact Nat.le_trans (Nat.mul_le_mul (show a ≤ 65536 by omega) hm) (by decide)
      have htm' : t ≤ 4294901760 := by rw [ht]; exact Nat.le_trans (Nat.mul_le_mul hda hm) (by decide)
      obtain ⟨s1, s2⟩ := small_step (b := 65536) (by decide) kk x m add
      rw [← hp, ← haa, ← ht, Nat.add_comm p] at s1 s2
      rw [← hq] at s1
      have hqq : q ≤ 4294967295 := by omega
      have hti : (a : Int) * (m : Int) = (t : Int) := by rw [ht]; exact (Int.natCast_mul _ _).symm
      have S1 := Lib.hid s1
      have S2 := Lib.hid s2
      have HC := Lib.hid hq
      have hx := h.below hbel (Nat.le_refl _)
      obtain ⟨g, o, rfl, hg, hcell⟩ := hx.at_ (by omega)
      have hcx := hcell kk h1
      rw [← haa] at hcx
      have hkN : (kk : Int) < (n : Int) := by omega
      clear hcell s1 s2 hq haa hp ht hx
      go_wp2_with (at_builtin; go_loud (refine wpList_push rfl _ _ 27 rfl w wr 3 i0 (.int .i64 0) 8 Try.underlying27 hi hz0 hz1 hz2 rfl .i64 65536 _ (kk) (low 65536 kk (x * m + add)) rfl hown hbel _ rfl (dg 65536 kk (x * m + add)) (by rw [← S2.out]; rfl) (dg_lt (by decide) _ _) (low_bound (by decide) _ _) rfl (by unfold maxLen; omega) (by omega) ?_))
      intro v' w1 hown' hbel'
      rw [low_next] at hown'
      clear hown hbel
      go_wp2
      go_roundw
      case rel => exact ⟨kk + 1, q, by omega, by go_num, by rw [← S1.out]; rfl, HC.out, hqq, hown', hbel'⟩
      case measure => simp [intOf]; omega
    · obtain rfl : kk = n := by omega
      rw [low_all h.lt] at hp
      have HP := Lib.hid hp
      have kl := Dig.two wr 3 ((p : Int) % 65536) ((p : Int) / 65536) 65536 p rfl rfl (by omega)
      clear hp
      go_wp2_with (at_builtin; go_loud (refine wpList_append_dig _ rfl _ _ 27 rfl w.heap.size 3 i0 (.int .i64 0) 8 Try.underlying27 hi hz0 hz1 hz2 rfl .i64 65536 _ kk (low 65536 kk (x * m + add)) rfl (hown.alloc _) _ 2 2 p rfl kl (by unfold maxLen; omega) (by omega) (Nat.le_trans hbel.size (by simp)) (by decide) (low_bound (by decide) _ _) ?_))
      intro v2 w1 hown2 hgrow2
      have hb1 : Below w.heap.size w w1 := (hbel.alloc hbel.size _).grown hgrow2 (Nat.le_trans hbel.size (by simp)) (fun k hk => (hown.lt k hk).1)
      have hX : low 65536 kk (x * m + add) + p * 65536 ^ kk = x * m + add := by rw [HP.out, Nat.mul_comm _ (65536 ^ kk)]; exact Nat.mod_add_div _ _
      have hlt : x * m + add < 65536 ^ (kk + 2) := by
        rw [← hX]
        have h2 : p * 65536 ^ kk ≤ 4294967295 * 65536 ^ kk := Nat.mul_le_mul_right _ hpq
        have h3 := low_bound (b := 65536) (by decide) kk (x * m + add)
        rw [Nat.pow_add, Nat.mul_comm (65536 ^ kk)]
        omega
      rw [hX] at hown2
      obtain ⟨A1, c1, rfl, hd1, hf⟩ := own_form hown2 hlt
      clear hown hown2 hgrow2 hX hlt kl hbel
      go_wp2_with fail
      refine (ref2_Trim _ _ _ _ _ hd1 (by omega)).mono ?_
      rintro e w2 ⟨A2, n2, c2, rfl, hd2, hb2, hf2⟩
      go_wp2_with fail
      go_ret
      exact ⟨A2, n2, c2, rfl, hd2, nx hb1 hb2, hf2.mono hb1.size⟩
end Go.Proofs.Ytflleaifmeiikaa
