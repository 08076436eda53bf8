/- The walks of ref05: taking away and halving. -/
import Derived.Test.YthjokpnihoigeaaKD
import Derived.Test.YthjokpnihoigeaaKC
import Derived.Deep.LoopGhost
import Derived.Deep.CutBlock
set_option linter.unusedVariables false
set_option linter.unusedSimpArgs false
namespace Go.Proofs.Ythjokpnihoigeaa
open Go.RowKit
set_option maxRecDepth 100000
theorem ref5_even_yes (A : Option Addr) (n c x : Nat) (w : World) (h : NumAt .i64 65536 w A n c x) (hx : x % 2 = 0) :
    Calls Try.prog 40 #[.slice A n c] w fun e w' => e = .returned (.bool true) ∧ w = w' := by
  obtain ⟨d, hd⟩ : ∃ d, d = dg 65536 0 x := ⟨_, rfl⟩
  have hdl : d < 65536 := by rw [hd]; exact dg_lt (by decide) _ _
  have hd2 : d % 2 = x % 2 := by rw [hd]; unfold dg; rw [Nat.pow_zero, Nat.div_one]; omega
  have z1 : ((d : Int) % 2 == 0) = true := by simp; omega
  have z2 : ((d : Int).tmod 2 == 0) = true := by rw [Int.tmod_eq_emod_of_nonneg (by omega)]; exact z1
  have HD := Lib.hid hd
  have dI : (d : Int) ≤ 65535 := by omega
  clear hd hd2 hx
  go_enter Try.func40, Try.ntmps40
  go_wp2_with fail
  refine (ref2_Digit A n c x 0 d _ h.1 ⟨0, rfl, HD.out, by decide⟩).mono ?_
  rintro e w1 ⟨rfl, rfl⟩
  go_wp2_with fail
  go_ret
  exact ⟨rfl, rfl⟩
theorem ref5_even_no (A : Option Addr) (n c x : Nat) (w : World) (h : NumAt .i64 65536 w A n c x) (hx : ¬ x % 2 = 0) :
    Calls Try.prog 40 #[.slice A n c] w fun e w' => e = .returned (.bool false) ∧ w = w' := by
  obtain ⟨d, hd⟩ : ∃ d, d = dg 65536 0 x := ⟨_, rfl⟩
  have hdl : d < 65536 := by rw [hd]; exact dg_lt (by decide) _ _
  have hd2 : d % 2 = x % 2 := by rw [hd]; unfold dg; rw [Nat.pow_zero, Nat.div_one]; omega
  have z1 : ((d : Int) % 2 == 0) = false := by simp; omega
  have z2 : ((d : Int).tmod 2 == 0) = false := by rw [Int.tmod_eq_emod_of_nonneg (by omega)]; exact z1
  have HD := Lib.hid hd
  have dI : (d : Int) ≤ 65535 := by omega
  clear hd hd2 hx
  go_enter Try.func40, Try.ntmps40
  go_wp2_with fail
  refine (ref2_Digit A n c x 0 d _ h.1 ⟨0, rfl, HD.out, by decide⟩).mono ?_
  rintro e w1 ⟨rfl, rfl⟩
  go_wp2_with fail
  go_ret
  exact ⟨rfl, rfl⟩
theorem ref5_halved (A : Option Addr) (n c x : Nat) (w : World) (h : NumAt .i64 65536 w A n c x) (hn : n ≤ 4000000000) :
    Calls Try.prog 41 #[.slice A n c] w fun e w' => ∃ A1 n1 c1, e = .returned (.slice A1 n1 c1) ∧ NumAt .i64 65536 w' A1 n1 c1 (x / 2) ∧ Below w.heap.size w w' ∧ Fresh w.heap.size A1 ∧ n1 ≤ n := by
  go_enter Try.func41, Try.ntmps41
  go_wp2_with fail
  refine (ref2_Half A n c x 2 _ h.1 (by decide) (by decide) hn).mono ?_
  rintro e w1 ⟨A1, n1, c1, rfl, h1, hb1, hf1⟩
  go_wp2_with fail
  go_ret
  exact ⟨_, _, _, rfl, h1, hb1, hf1, h1.le_of (by decide) _ (Nat.lt_of_le_of_lt (Nat.div_le_self _ _) h.lt)⟩
theorem gcd_lt_max {b x y n m : Nat} (hx : x < b ^ n) (hy : y < b ^ m) : Nat.gcd x y < b ^ max n m := by
  have hb : 0 < b ^ max n m := by
    rcases Nat.eq_zero_or_pos b with h0 | h0
    · subst h0
      have h1 : n = 0 := by rcases Nat.eq_zero_or_pos n with h | h; exact h; rw [Nat.zero_pow h] at hx; omega
      have h2 : m = 0 := by rcases Nat.eq_zero_or_pos m with h | h; exact h; rw [Nat.zero_pow h] at hy; omega
      rw [h1, h2]; decide
    · exact Nat.pow_pos h0
  have hb0 : 0 < b ∨ b = 0 := by omega
  rcases Nat.eq_zero_or_pos x with h0 | h0
  · rw [h0, Nat.gcd_zero_left]
    rcases hb0 with h1 | h1
    · exact Nat.lt_of_lt_of_le hy (Nat.pow_le_pow_right h1 (by omega))
    · subst h1
      have h2 : m = 0 := by rcases Nat.eq_zero_or_pos m with h | h; exact h; rw [Nat.zero_pow h] at hy; omega
      rw [h2] at hy; omega
  · rcases hb0 with h1 | h1
    · exact Nat.lt_of_le_of_lt (Nat.gcd_le_left y h0) (Nat.lt_of_lt_of_le hx (Nat.pow_le_pow_right h1 (by omega)))
    · subst h1
      have h2 : n = 0 := by rcases Nat.eq_zero_or_pos n with h | h; exact h; rw [Nat.zero_pow h] at hx; omega
      rw [h2] at hx; omega
theorem gcd_half {a b : Nat} (hb : ¬ b % 2 = 0) (ha : a % 2 = 0) : Nat.gcd (a / 2) b = Nat.gcd a b := by
  have h1 : Nat.Coprime 2 b := by
    unfold Nat.Coprime
    have h2 : Nat.gcd 2 b ∣ 2 := Nat.gcd_dvd_left 2 b
    have h3 : Nat.gcd 2 b ≤ 2 := Nat.le_of_dvd (by decide) h2
    have h4 : 0 < Nat.gcd 2 b := Nat.gcd_pos_of_pos_left _ (by decide)
    rcases (show Nat.gcd 2 b = 1 ∨ Nat.gcd 2 b = 2 by omega) with h | h
    · exact h
    · have := Nat.gcd_dvd_right 2 b
      rw [h] at this
      exact absurd (Nat.mod_eq_zero_of_dvd this) hb
  have e : a = 2 * (a / 2) := by omega
  conv => rhs; rw [e]
  exact (Nat.Coprime.gcd_mul_left_cancel (a / 2) h1).symm
theorem gcd_pow2 (a b t : Nat) : Nat.gcd (a * 2 ^ t) (b * 2 ^ t) = Nat.gcd a b * 2 ^ t := Nat.gcd_mul_right a (2 ^ t) b
set_option maxHeartbeats 4000000 in
theorem ref5_Gcd (A : Option Addr) (n c x : Nat) (A' : Option Addr) (n' c' y : Nat) (w : World) (h : NumAt .i64 65536 w A n c x) (h' : NumAt .i64 65536 w A' n' c' y) (hn : n ≤ 10000000) (hn' : n' ≤ 10000000) :
    Calls Try.prog 21 #[.slice A n c, .slice A' n' c'] w fun e w' => ∃ A1 n1 c1, e = .returned (.slice A1 n1 c1) ∧ NumAt .i64 65536 w' A1 n1 c1 (Nat.gcd x y) ∧ Below w.heap.size w w' := by
  by_cases hx : x = 0
  · obtain rfl : n = 0 := (h.zero_iff (by decide)).1 hx
    have HE := Lib.hid (show Nat.gcd x y = y by rw [hx, Nat.gcd_zero_left])
    clear hx
    go_enter Try.func21, Try.ntmps21
    go_wp2_with fail
    go_ret
    exact ⟨_, _, _, rfl, by rw [HE.out]; exact h', Below.refl _ _⟩
  · have hn0 : 0 < n := Nat.pos_of_ne_zero fun e => hx ((h.zero_iff (by decide)).2 e)
    have zn : (((n : Nat) : Int) == 0) = false := by simp; omega
    by_cases hy : y = 0
    · obtain rfl : n' = 0 := (h'.zero_iff (by decide)).1 hy
      have HE := Lib.hid (show Nat.gcd x y = x by rw [hy, Nat.gcd_zero_right])
      clear hy hx
      go_enter Try.func21, Try.ntmps21
      go_wp2_with fail
      go_ret
      exact ⟨_, _, _, rfl, by rw [HE.out]; exact h, Below.refl _ _⟩
    · have hn0' : 0 < n' := Nat.pos_of_ne_zero fun e => hy ((h'.zero_iff (by decide)).2 e)
      have zn' : (((n' : Nat) : Int) == 0) = false := by simp; omega
      have hxp : 0 < x := by omega
      have hyp : 0 < y := by omega
      clear hx hy
      go_enter Try.func21, Try.ntmps21
      go_upto_block 0 with (fail)
      go_cut [0, 1, 5] (fun a b t wc => ∃ A1 n1 c1 A2 n2 c2 aa bb tt, a = .slice A1 n1 c1 ∧ b = .slice A2 n2 c2 ∧ t = .int .i64 ((tt : Nat) : Int) ∧ NumAt .i64 65536 wc A1 n1 c1 aa ∧ NumAt .i64 65536 wc A2 n2 c2 bb ∧ Below w.heap.size w wc ∧ aa * 2 ^ tt = x ∧ bb * 2 ^ tt = y ∧ 0 < aa ∧ 0 < bb ∧ n1 ≤ n ∧ n2 ≤ n' ∧ tt ≤ 16 * n ∧ ¬ (aa % 2 = 0 ∧ bb % 2 = 0))
      case first =>
        go_wp2_with fail
        go_loopg [0, 1, 5] x (fun k a b t wr => ∃ A1 n1 c1 A2 n2 c2 bb tt, a = .slice A1 n1 c1 ∧ b = .slice A2 n2 c2 ∧ t = .int .i64 ((tt : Nat) : Int) ∧ NumAt .i64 65536 wr A1 n1 c1 k ∧ NumAt .i64 65536 wr A2 n2 c2 bb ∧ Below w.heap.size w wr ∧ k * 2 ^ tt = x ∧ bb * 2 ^ tt = y ∧ 0 < k ∧ 0 < bb ∧ n1 ≤ n ∧ n2 ≤ n')
        case atStart => exact ⟨_, _, _, _, _, _, y, 0, rfl, rfl, rfl, h, h', Below.refl _ _, by rw [Nat.pow_zero, Nat.mul_one], by rw [Nat.pow_zero, Nat.mul_one], hxp, hyp, Nat.le_refl _, Nat.le_refl _⟩
        case round =>
          obtain ⟨A1, n1, c1, A2, n2, c2, bb, tt, rfl, rfl, rfl, h1, h2, hb, e1, e2, p1, p2, q1, q2⟩ := hrel
          have ht : tt ≤ 16 * n := by
            have l1 : 2 ^ tt ≤ x := by rw [← e1]; exact Nat.le_mul_of_pos_left _ p1
            have l2 : x < 2 ^ (16 * n) := by rw [Nat.pow_mul]; exact h.lt
            exact Nat.le_of_lt ((Nat.pow_lt_pow_iff_right (by decide : 1 < 2)).1 (Nat.lt_of_le_of_lt l1 l2))
          have E1 := Lib.hid e1
          have E2 := Lib.hid e2
          clear e1 e2
          by_cases ha : gk % 2 = 0
          · by_cases hbb : bb % 2 = 0
            · have HA := Lib.hid ha
              have HB := Lib.hid hbb
              clear ha hbb
              have tI : (tt : Int) ≤ 1000000000 := by omega
              go_wp2_with fail
              refine (ref5_even_yes _ _ _ _ _ (h1.to (by with_reducible repeat (first | exact Below.refl _ _ | refine nxa ?_ _ | refine nxd ?_ _ | refine nxw ?_ | refine nx ?_ (by assumption)))) HA.out).mono ?_
              rintro e w1 ⟨rfl, rfl⟩
              go_wp2_with fail
              refine (ref5_even_yes _ _ _ _ _ (h2.to (by with_reducible repeat (first | exact Below.refl _ _ | refine nxa ?_ _ | refine nxd ?_ _ | refine nxw ?_ | refine nx ?_ (by assumption)))) HB.out).mono ?_
              rintro e w2 ⟨rfl, rfl⟩
              go_wp2_with fail
              refine (ref5_halved _ _ _ _ _ (h1.to (by with_reducible repeat (first | exact Below.refl _ _ | refine nxa ?_ _ | refine nxd ?_ _ | refine nxw ?_ | refine nx ?_ (by assumption)))) (by omega)).mono ?_
              rintro e w3 ⟨A3, n3, c3, rfl, h3, hb3, hf3, l3⟩
              go_wp2_with fail
              refine (ref5_halved _ _ _ _ _ (h2.to (by with_reducible repeat (first | exact Below.refl _ _ | refine nxa ?_ _ | refine nxd ?_ _ | refine nxw ?_ | refine nx ?_ (by assumption)))) (by omega)).mono ?_
              rintro e w4 ⟨A4, n4, c4, rfl, h4, hb4, hf4, l4⟩
              go_wp2_with fail
              go_roundg (gk / 2)
              case measure => omega
              case rel => exact ⟨_, _, _, _, _, _, bb / 2, tt + 1, rfl, rfl, by go_num, h3.to (by with_reducible repeat (first | exact Below.refl _ _ | refine nxa ?_ _ | refine nxd ?_ _ | refine nxw ?_ | refine nx ?_ (by assumption))), h4, (by with_reducible repeat (first | exact Below.refl _ _ | refine nxa ?_ _ | refine nxd ?_ _ | refine nxw ?_ | refine nx ?_ (by assumption))), by rw [← E1.out, Nat.pow_succ, Nat.mul_comm (2 ^ tt), ← Nat.mul_assoc, Nat.div_mul_cancel (Nat.dvd_of_mod_eq_zero HA.out)], by rw [← E2.out, Nat.pow_succ, Nat.mul_comm (2 ^ tt), ← Nat.mul_assoc, Nat.div_mul_cancel (Nat.dvd_of_mod_eq_zero HB.out)], by have := HA.out; omega, by have := HB.out; omega, by omega, by omega⟩
            · have HB := Lib.hid hbb
              have HA := Lib.hid ha
              clear ha hbb
              go_wp2_with fail
              refine (ref5_even_yes _ _ _ _ _ (h1.to (by with_reducible repeat (first | exact Below.refl _ _ | refine nxa ?_ _ | refine nxd ?_ _ | refine nxw ?_ | refine nx ?_ (by assumption)))) HA.out).mono ?_
              rintro e w5 ⟨rfl, rfl⟩
              go_wp2_with fail
              refine (ref5_even_no _ _ _ _ _ (h2.to (by with_reducible repeat (first | exact Below.refl _ _ | refine nxa ?_ _ | refine nxd ?_ _ | refine nxw ?_ | refine nx ?_ (by assumption)))) HB.out).mono ?_
              rintro e w6 ⟨rfl, rfl⟩
              go_wp2_with fail
              go_meet
              exact ⟨_, _, _, _, _, _, _, _, _, rfl, rfl, rfl, h1, h2, hb, E1.out, E2.out, p1, p2, q1, q2, ht, fun hh => HB.out hh.2⟩
          · have HA := Lib.hid ha
            clear ha
            go_wp2_with fail
            refine (ref5_even_no _ _ _ _ _ (h1.to (by with_reducible repeat (first | exact Below.refl _ _ | refine nxa ?_ _ | refine nxd ?_ _ | refine nxw ?_ | refine nx ?_ (by assumption)))) HA.out).mono ?_
            rintro e w7 ⟨rfl, rfl⟩
            go_wp2_with fail
            go_meet
            exact ⟨_, _, _, _, _, _, _, _, _, rfl, rfl, rfl, h1, h2, hb, E1.out, E2.out, p1, p2, q1, q2, ht, fun hh => HA.out hh.1⟩
      case rest =>
        rename World => w0
        obtain ⟨A1, n1, c1, A2, n2, c2, aa, bb, tt, rfl, rfl, rfl, h1, h2, hb, e1, e2, p1, p2, q1, q2, ht, hodd⟩ := hcut
        have EG := Lib.hid (show Nat.gcd x y = Nat.gcd aa bb * 2 ^ tt by rw [← e1, ← e2]; exact gcd_pow2 aa bb tt)
        have HO := Lib.hid hodd
        clear e1 e2 hodd
        obtain ⟨G, hG⟩ : ∃ G, G = Nat.gcd aa bb := ⟨_, rfl⟩
        rw [← hG] at EG
        have HG := Lib.hid hG
        clear hG
        go_wp2_with fail
        go_loopg [1] bb (fun k b wr => ∃ A2 n2 c2, b = .slice A2 n2 c2 ∧ NumAt .i64 65536 wr A2 n2 c2 k ∧ Below w0.heap.size w0 wr ∧ 0 < k ∧ Nat.gcd aa k = G ∧ ¬ (aa % 2 = 0 ∧ k % 2 = 0) ∧ n2 ≤ n')
        case atStart => exact ⟨_, _, _, rfl, h2, Below.refl _ _, p2, HG.out.symm, HO.out, q2⟩
        case round =>
          clear h2 p2 HO HG q2
          obtain ⟨A3, n3, c3, rfl, h3, hb3, p3, e3, o3, q3⟩ := hrel
          have E3 := Lib.hid e3
          have O3 := Lib.hid o3
          clear e3 o3
          by_cases he : gk % 2 = 0
          · have HE := Lib.hid he
            clear he
            go_wp2_with fail
            refine (ref5_even_yes _ _ _ _ _ (h3.to (by with_reducible repeat (first | exact Below.refl _ _ | refine nxa ?_ _ | refine nxd ?_ _ | refine nxw ?_ | refine nx ?_ (by assumption)))) HE.out).mono ?_
            rintro e w8 ⟨rfl, rfl⟩
            go_wp2_with fail
            refine (ref5_halved _ _ _ _ _ (h3.to (by with_reducible repeat (first | exact Below.refl _ _ | refine nxa ?_ _ | refine nxd ?_ _ | refine nxw ?_ | refine nx ?_ (by assumption)))) (by omega)).mono ?_
            rintro e w9 ⟨A9, n9, c9, rfl, h9, hb9, hf9, l9⟩
            go_wp2_with fail
            go_roundg (gk / 2)
            case measure => omega
            case rel => exact ⟨_, _, _, rfl, h9, (by with_reducible repeat (first | exact Below.refl _ _ | refine nxa ?_ _ | refine nxd ?_ _ | refine nxw ?_ | refine nx ?_ (by assumption))), by have := HE.out; omega, by rw [Nat.gcd_comm, gcd_half (fun hh => O3.out ⟨hh, HE.out⟩) HE.out, Nat.gcd_comm]; exact E3.out, fun hh => O3.out ⟨hh.1, HE.out⟩, by omega⟩
          · have HE := Lib.hid he
            clear he
            go_wp2_with fail
            refine (ref5_even_no _ _ _ _ _ (h3.to (by with_reducible repeat (first | exact Below.refl _ _ | refine nxa ?_ _ | refine nxd ?_ _ | refine nxw ?_ | refine nx ?_ (by assumption)))) HE.out).mono ?_
            rintro e w10 ⟨rfl, rfl⟩
            go_wp2_with fail
            replace h1 := h1.to hb3
            replace hb := nx hb hb3
            clear hb3 O3
            generalize wr = w2 at *
            generalize gk = bk at *
            obtain ⟨N, hN⟩ : ∃ N, N = max n n' := ⟨_, rfl⟩
            have q1N : n1 ≤ N := by omega
            have q3N : n3 ≤ N := by omega
            have NB : N ≤ 10000000 := by omega
            clear hN
            go_loopg [0, 1, 6] (aa + bk) (fun k a b _ wr => ∃ A2 n2 c2 A3 n3 c3 a2 b2, a = .slice A2 n2 c2 ∧ b = .slice A3 n3 c3 ∧ NumAt .i64 65536 wr A2 n2 c2 a2 ∧ NumAt .i64 65536 wr A3 n3 c3 b2 ∧ Below w2.heap.size w2 wr ∧ a2 + b2 = k ∧ ¬ b2 % 2 = 0 ∧ Nat.gcd a2 b2 = G ∧ n2 ≤ N ∧ n3 ≤ N)
            case atStart => exact ⟨_, _, _, _, _, _, aa, bk, rfl, rfl, h1, h3, Below.refl _ _, rfl, HE.out, E3.out, q1N, q3N⟩
            case round =>
              clear h1 h3 HE E3 q1N q3N
              obtain ⟨A4, n4, c4, A5, n5, c5, a2, b2, rfl, rfl, h4, h5, hb5, hsum, o5, e5, q4, q5⟩ := hrel
              have O5 := Lib.hid o5
              have E5 := Lib.hid e5
              have HS := Lib.hid hsum
              clear o5 e5 hsum
              rcases Nat.eq_zero_or_pos a2 with hz | hz
              · obtain rfl : n4 = 0 := (h4.zero_iff (by decide)).1 hz
                have HGb := Lib.hid (show Nat.gcd x y = b2 * 2 ^ tt by rw [EG.out, ← E5.out, hz, Nat.gcd_zero_left])
                clear hz
                go_wp2_with fail
                refine (ref2_Shl _ _ _ _ tt _ (h5.to (by with_reducible repeat (first | exact Below.refl _ _ | refine nxa ?_ _ | refine nxd ?_ _ | refine nxw ?_ | refine nx ?_ (by assumption)))).1 (by omega) (by omega)).mono ?_
                rintro e w11 ⟨A11, n11, c11, rfl, h11, hb11, hf11⟩
                go_wp2_with fail
                go_ret
                exact ⟨_, _, _, rfl, by rw [HGb.out]; exact h11, nx hb (show Below w2.heap.size w2 w11 from (by with_reducible repeat (first | exact Below.refl _ _ | refine nxa ?_ _ | refine nxd ?_ _ | refine nxw ?_ | refine nx ?_ (by assumption))))⟩
              · have hn4 : 0 < n4 := Nat.pos_of_ne_zero fun e => by have := (h4.zero_iff (by decide)).2 e; omega
                have zi : (0 : Int) < ((n4 : Nat) : Int) := by omega
                go_wp2_with fail
                generalize wr = w3 at *
                generalize gk = g1 at *
                go_loopg [0] a2 (fun k a wr => ∃ A2 n2 c2, a = .slice A2 n2 c2 ∧ NumAt .i64 65536 wr A2 n2 c2 k ∧ Below w3.heap.size w3 wr ∧ 0 < k ∧ k ≤ a2 ∧ Nat.gcd k b2 = G ∧ n2 ≤ N)
                case atStart => exact ⟨_, _, _, rfl, h4, Below.refl _ _, hz, Nat.le_refl _, E5.out, q4⟩
                case round =>
                  clear h4 hn4 zi E5 q4
                  obtain ⟨A6, n6, c6, rfl, h6, hb6, p6, l6, e6, q6⟩ := hrel
                  have E6 := Lib.hid e6
                  clear e6
                  by_cases he : gk % 2 = 0
                  · have HE := Lib.hid he
                    clear he
                    go_wp2_with fail
                    refine (ref5_even_yes _ _ _ _ _ (h6.to (by with_reducible repeat (first | exact Below.refl _ _ | refine nxa ?_ _ | refine nxd ?_ _ | refine nxw ?_ | refine nx ?_ (by assumption)))) HE.out).mono ?_
                    rintro e w12 ⟨rfl, rfl⟩
                    go_wp2_with fail
                    refine (ref5_halved _ _ _ _ _ (h6.to (by with_reducible repeat (first | exact Below.refl _ _ | refine nxa ?_ _ | refine nxd ?_ _ | refine nxw ?_ | refine nx ?_ (by assumption)))) (by omega)).mono ?_
                    rintro e w13 ⟨A13, n13, c13, rfl, h13, hb13, hf13, l13⟩
                    go_wp2_with fail
                    go_roundg (gk / 2)
                    case measure => omega
                    case rel => exact ⟨_, _, _, rfl, h13, (by with_reducible repeat (first | exact Below.refl _ _ | refine nxa ?_ _ | refine nxd ?_ _ | refine nxw ?_ | refine nx ?_ (by assumption))), by have := HE.out; omega, by omega, by rw [gcd_half O5.out HE.out]; exact E6.out, by omega⟩
                  · have HE := Lib.hid he
                    clear he
                    go_wp2_with fail
                    refine (ref5_even_no _ _ _ _ _ (h6.to (by with_reducible repeat (first | exact Below.refl _ _ | refine nxa ?_ _ | refine nxd ?_ _ | refine nxw ?_ | refine nx ?_ (by assumption)))) HE.out).mono ?_
                    rintro e w14 ⟨rfl, rfl⟩
                    rcases Nat.lt_or_ge gk b2 with hlt | hge
                    · have HC := Lib.hid (cmpI_lt hlt)
                      go_wp2_with fail
                      refine (ref2_Cmp _ _ _ _ _ _ _ _ _ (h6.to (by with_reducible repeat (first | exact Below.refl _ _ | refine nxa ?_ _ | refine nxd ?_ _ | refine nxw ?_ | refine nx ?_ (by assumption)))) (h5.to (by with_reducible repeat (first | exact Below.refl _ _ | refine nxa ?_ _ | refine nxd ?_ _ | refine nxw ?_ | refine nx ?_ (by assumption))))).mono ?_
                      rw [HC.out]
                      rintro e w15 ⟨rfl, hb15⟩
                      go_wp2_with fail
                      refine (ref2_Sub _ _ _ (b2 - gk) _ _ _ _ _ (show NumAt _ _ _ _ _ _ (b2 - gk + gk) from (show b2 = b2 - gk + gk by omega) ▸ (h5.to (by with_reducible repeat (first | exact Below.refl _ _ | refine nxa ?_ _ | refine nxd ?_ _ | refine nxw ?_ | refine nx ?_ (by assumption))))) (h6.to (by with_reducible repeat (first | exact Below.refl _ _ | refine nxa ?_ _ | refine nxd ?_ _ | refine nxw ?_ | refine nx ?_ (by assumption)))) (by omega)).mono ?_
                      rintro e w16 ⟨A16, n16, c16, rfl, h16, hb16, hf16⟩
                      have l16 := h16.le_of (by decide) _ (Nat.lt_of_le_of_lt (Nat.sub_le _ _) h5.lt)
                      go_wp2_with fail
                      go_roundg (b2 - gk + gk)
                      case measure => have := HS.out; have := O5.out; omega
                      case rel => exact ⟨_, _, _, _, _, _, _, _, rfl, rfl, h16, h6.to (by with_reducible repeat (first | exact Below.refl _ _ | refine nxa ?_ _ | refine nxd ?_ _ | refine nxw ?_ | refine nx ?_ (by assumption))), nx hb5 (show Below w3.heap.size w3 w16 from (by with_reducible repeat (first | exact Below.refl _ _ | refine nxa ?_ _ | refine nxd ?_ _ | refine nxw ?_ | refine nx ?_ (by assumption)))), rfl, HE.out, by rw [Nat.gcd_comm, Nat.gcd_sub_self_right (Nat.le_of_lt hlt)]; exact E6.out, by omega, by omega⟩
                    · obtain ⟨v, hv, v0⟩ : ∃ v : Int, cmpI gk b2 = v ∧ ¬ v < 0 := ⟨_, rfl, by rcases Nat.lt_or_eq_of_le hge with h1 | h1; (rw [cmpI_gt h1]; decide); (rw [cmpI_eq h1.symm]; decide)⟩
                      have HC := Lib.hid hv
                      clear hv
                      go_wp2_with fail
                      refine (ref2_Cmp _ _ _ _ _ _ _ _ _ (h6.to (by with_reducible repeat (first | exact Below.refl _ _ | refine nxa ?_ _ | refine nxd ?_ _ | refine nxw ?_ | refine nx ?_ (by assumption)))) (h5.to (by with_reducible repeat (first | exact Below.refl _ _ | refine nxa ?_ _ | refine nxd ?_ _ | refine nxw ?_ | refine nx ?_ (by assumption))))).mono ?_
                      rw [HC.out]
                      rintro e w17 ⟨rfl, hb17⟩
                      go_wp2_with fail
                      refine (ref2_Sub _ _ _ (gk - b2) _ _ _ _ _ (show NumAt _ _ _ _ _ _ (gk - b2 + b2) from (show gk = gk - b2 + b2 by omega) ▸ (h6.to (by with_reducible repeat (first | exact Below.refl _ _ | refine nxa ?_ _ | refine nxd ?_ _ | refine nxw ?_ | refine nx ?_ (by assumption))))) (h5.to (by with_reducible repeat (first | exact Below.refl _ _ | refine nxa ?_ _ | refine nxd ?_ _ | refine nxw ?_ | refine nx ?_ (by assumption)))) (by omega)).mono ?_
                      rintro e w18 ⟨A18, n18, c18, rfl, h18, hb18, hf18⟩
                      have l18 := h18.le_of (by decide) _ (Nat.lt_of_le_of_lt (Nat.sub_le _ _) h6.lt)
                      go_wp2_with fail
                      go_roundg (gk - b2 + b2)
                      case measure => have := HS.out; have := O5.out; omega
                      case rel => exact ⟨_, _, _, _, _, _, _, _, rfl, rfl, h18, h5.to (by with_reducible repeat (first | exact Below.refl _ _ | refine nxa ?_ _ | refine nxd ?_ _ | refine nxw ?_ | refine nx ?_ (by assumption))), nx hb5 (show Below w3.heap.size w3 w18 from (by with_reducible repeat (first | exact Below.refl _ _ | refine nxa ?_ _ | refine nxd ?_ _ | refine nxw ?_ | refine nx ?_ (by assumption)))), rfl, O5.out, by rw [Nat.gcd_comm, Nat.gcd_sub_self_right hge, Nat.gcd_comm]; exact E6.out, by omega, by omega⟩
end Go.Proofs.Ythjokpnihoigeaa
