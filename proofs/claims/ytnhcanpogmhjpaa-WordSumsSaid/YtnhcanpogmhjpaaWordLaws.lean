/- The walks of the statements of layer 1: each returns true. -/
import Derived.Test.YtnhcanpogmhjpaaRef1b
namespace Go.Proofs.Ytnhcanpogmhjpaa
open Go.RowKit
/-! ### the document's examples -/
theorem lit_Add (w : World) : Calls Try.prog 15 #[.int .u64 18446744073709551615, .int .u64 0, .int .u64 1] w fun e w' => e = .returned (.tuple #[.int .u64 0, .int .u64 1]) ∧ w = w' := by
  have h := word_Add 18446744073709551615 0 1 w (by decide) (by decide) (by decide)
  rw [show addLo 18446744073709551615 0 1 = 0 by decide, show addHi 18446744073709551615 0 1 = 1 by decide] at h
  exact h
theorem lit_Sub (w : World) : Calls Try.prog 17 #[.int .u64 0, .int .u64 0, .int .u64 3] w fun e w' => e = .returned (.tuple #[.int .u64 18446744073709551615, .int .u64 1]) ∧ w = w' := by
  have h := word_Sub 0 0 3 w (by decide) (by decide) (by decide)
  rw [show subLo 0 0 3 = 18446744073709551615 by decide, show subHi 0 0 3 = 1 by decide] at h
  exact h
theorem lit_Mul (w : World) : Calls Try.prog 25 #[.int .u64 18446744073709551615, .int .u64 18446744073709551615] w fun e w' => e = .returned (.tuple #[.int .u64 18446744073709551614, .int .u64 1]) ∧ w = w' := by
  have h := word_Mul 18446744073709551615 18446744073709551615 w (by decide) (by decide)
  rw [show mulHi 18446744073709551615 18446744073709551615 = 18446744073709551614 by decide, show mulLo 18446744073709551615 18446744073709551615 = 1 by decide] at h
  exact h
theorem lit_Div (w : World) : Calls Try.prog 31 #[.int .u64 1, .int .u64 0, .int .u64 3] w fun e w' => e = .returned (.tuple #[.int .u64 6148914691236517205, .int .u64 1, .bool true]) ∧ ∃ n, w' = w.drewN n := by
  have h := word_Div_yes 1 0 3 w (by decide) (by decide) (by decide)
  rw [show (1 * W + 0) / 3 = 6148914691236517205 by decide, show (1 * W + 0) % 3 = 1 by decide] at h
  exact h
theorem lit_DivNo (w : World) : Calls Try.prog 31 #[.int .u64 3, .int .u64 0, .int .u64 3] w fun e w' => e = .returned (.tuple #[.int .u64 0, .int .u64 0, .bool false]) ∧ ∃ n, w' = w.drewN n :=
  word_Div_no 3 0 3 w (by decide)
theorem lit_Len (w : World) : Calls Try.prog 20 #[.int .u64 0] w fun e w' => e = .returned (.int .i64 0) ∧ ∃ n, w' = w.drewN n := word_Len 0 w (by decide)
theorem lit_Lead (w : World) : Calls Try.prog 22 #[.int .u64 1] w fun e w' => e = .returned (.int .i64 63) ∧ ∃ n, w' = w.drewN n := by
  have h := word_Lead 1 w (by decide)
  rw [show lead 1 = 63 by unfold lead; rw [show blen 1 = 1 from blen_unique (by decide) (fun _ => by decide)]] at h
  exact h
theorem lit_Trail (w : World) : Calls Try.prog 23 #[.int .u64 40] w fun e w' => e = .returned (.int .i64 3) ∧ ∃ n, w' = w.drewN n := by
  have h := word_Trail 40 w (by decide)
  rw [show tz 40 = 3 from tz_odd 3 2 (by decide)] at h
  exact h
set_option maxRecDepth 100000 in
set_option maxHeartbeats 1000000 in
theorem awake1 (w : World) : Calls Try.prog 19 #[] w fun e w' => e = .returned (.bool true) ∧ ∃ n, w' = w.drewN n := by
  go_enter Try.func19, Try.ntmps19
  go_wp2_with fail
  refine (lit_Add _).mono ?_
  rintro e w1 ⟨rfl, rfl⟩
  go_wp2_with fail
  refine (lit_Sub _).mono ?_
  rintro e w1 ⟨rfl, rfl⟩
  go_wp2_with fail
  refine (lit_Mul _).mono ?_
  rintro e w1 ⟨rfl, rfl⟩
  go_wp2_with fail
  refine (lit_Div _).mono ?_
  rintro e w1 ⟨rfl, n1, rfl⟩
  go_wp2_with fail
  refine (lit_DivNo _).mono ?_
  rintro e w1 ⟨rfl, n2, rfl⟩
  go_wp2_with fail
  refine (lit_Len _).mono ?_
  rintro e w1 ⟨rfl, n3, rfl⟩
  go_wp2_with fail
  refine (lit_Lead _).mono ?_
  rintro e w1 ⟨rfl, n4, rfl⟩
  go_wp2_with fail
  refine (lit_Trail _).mono ?_
  rintro e w1 ⟨rfl, n5, rfl⟩
  go_wp2_with fail
  go_ret
  exact ⟨rfl, _, rfl⟩

theorem retB {b : Bool} (h : b = true) : Ending.returned (.bool b) = Ending.returned (.bool true) := by rw [h]

/-! ### the statements -/
set_option maxRecDepth 100000 in
set_option maxHeartbeats 1000000 in
theorem law_WordSums (x y c : Nat) (w : World) (hx : x < W) (hy : y < W) (hc : c < W) :
    Calls Try.prog 3 #[.int .u64 (x : Int), .int .u64 (y : Int), .int .u64 (c : Int)] w (Ret w (.bool true)) := by
  go_enter Try.func3, Try.ntmps3
  go_wp2_with fail
  refine (word_Add x y c _ hx hy hc).mono ?_
  rintro e w1 ⟨rfl, rfl⟩
  go_wp2_with fail
  refine (ref1_Sum x y c _ hx hy hc).mono ?_
  rintro e w1 ⟨rfl, hb1⟩
  go_wp2_with fail
  refine (word_Sub x y c _ hx hy hc).mono ?_
  rintro e w2 ⟨rfl, rfl⟩
  go_wp2_with fail
  refine (ref1_Less x y c _ hx hy hc).mono ?_
  rintro e w2 ⟨rfl, hb2⟩
  go_wp2_with fail
  refine (awake1 _).mono ?_
  rintro e w3 ⟨rfl, n, rfl⟩
  go_wp2_with fail
  go_ret
  exact ⟨rfl, below_drewN (hb1.trans (hb2.mono hb1.size)) n⟩
set_option maxRecDepth 100000 in
set_option maxHeartbeats 1000000 in
theorem law_WordLens (x : Nat) (w : World) (hx : x < W) :
    Calls Try.prog 4 #[.int .u64 (x : Int)] w (Ret w (.bool true)) := by
  have hl := blen_le_of_lt (x := x) (k := 64) hx
  have e1 : lead x = 64 - blen x := rfl
  have E1 := Lib.hid (show (64 : Int) - (blen x : Nat) = (lead x : Nat) by rw [e1]; omega)
  clear e1
  go_enter Try.func4, Try.ntmps4
  go_wp2_with fail
  refine (awake1 _).mono ?_
  rintro e w1 ⟨rfl, n1, rfl⟩
  go_wp2_with fail
  refine (word_Len x _ hx).mono ?_
  rintro e w1 ⟨rfl, n2, rfl⟩
  go_wp2_with fail
  refine (ref1_Len x _ hx).mono ?_
  rintro e w1 ⟨rfl, hb1⟩
  go_wp2_with fail
  refine (word_Lead x _ hx).mono ?_
  rintro e w2 ⟨rfl, n3, rfl⟩
  go_wp2_with fail
  refine (ref1_Len x _ hx).mono ?_
  rintro e w2 ⟨rfl, hb2⟩
  have E := E1.out
  have hL : (((lead x : Nat) : Int) == 64 - (blen x : Nat)) = true := by rw [E]; simp
  clear E
  go_wp2_with fail
  refine (word_Trail x _ hx).mono ?_
  rintro e w3 ⟨rfl, n4, rfl⟩
  go_wp2_with fail
  refine (ref1_Trail x _ hx).mono ?_
  rintro e w3 ⟨rfl, hb3⟩
  go_wp2_with fail
  go_ret
  exact ⟨rfl, (by repeat (first | exact Below.refl _ _ | refine nxd ?_ _ | refine nxa ?_ _ | refine nx ?_ (by assumption)))⟩
/-! what is added is taken away again -/
theorem back_add (x y c : Nat) (hx : x < W) (hy : y < W) : subLo (addLo x y c) y c = x ∧ subHi (addLo x y c) y c = addHi x y c := by
  have h1 := add_split x y c
  have h2 := addLo_lt x y c
  have h3 := addHi_le c hx hy
  have h4 := sub_split (addLo x y c) y c h2 hy
  have h5 := subLo_lt (addLo x y c) y c
  have h6 := subHi_le (addLo x y c) y c
  generalize subLo (addLo x y c) y c = l at *
  generalize subHi (addLo x y c) y c = u at *
  generalize addLo x y c = s at *
  generalize addHi x y c = o at *
  have ho : o = 0 ∨ o = 1 := by omega
  have hu : u = 0 ∨ u = 1 := by omega
  rcases ho with rfl | rfl <;> rcases hu with rfl | rfl <;> refine ⟨?_, ?_⟩ <;> omega
theorem back_sub (x y c : Nat) (hx : x < W) (hy : y < W) : addLo (subLo x y c) y c = x ∧ addHi (subLo x y c) y c = subHi x y c := by
  have h2 := subLo_lt x y c
  have h3 := subHi_le x y c
  have h4 := sub_split x y c hx hy
  have h1 := add_split (subLo x y c) y c
  have h5 := addLo_lt (subLo x y c) y c
  have h6 := addHi_le (x := subLo x y c) c h2 hy
  generalize addLo (subLo x y c) y c = l at *
  generalize addHi (subLo x y c) y c = u at *
  generalize subLo x y c = s at *
  generalize subHi x y c = o at *
  have ho : o = 0 ∨ o = 1 := by omega
  have hu : u = 0 ∨ u = 1 := by omega
  rcases ho with rfl | rfl <;> rcases hu with rfl | rfl <;> refine ⟨?_, ?_⟩ <;> omega
set_option maxRecDepth 100000 in
set_option maxHeartbeats 1000000 in
theorem law_WordBack (x y c : Nat) (w : World) (hx : x < W) (hy : y < W) (hc : c < W) :
    Calls Try.prog 5 #[.int .u64 (x : Int), .int .u64 (y : Int), .int .u64 (c : Int)] w (Ret w (.bool true)) := by
  have B1 := Lib.hid (back_add x y c hx hy)
  have B2 := Lib.hid (back_sub x y c hx hy)
  have l1 := addLo_lt x y c
  have l2 := subLo_lt x y c
  have l3 := addHi_le c hx hy
  have l4 := subHi_le x y c
  go_enter Try.func5, Try.ntmps5
  go_wp2_with fail
  refine (word_Add x y c _ hx hy hc).mono ?_
  rintro e w1 ⟨rfl, rfl⟩
  go_wp2_with fail
  refine (word_Sub (addLo x y c) y c _ l1 hy hc).mono ?_
  rw [B1.out.1, B1.out.2]
  rintro e w1 ⟨rfl, rfl⟩
  go_wp2_with fail
  refine (word_Sub x y c _ hx hy hc).mono ?_
  rintro e w1 ⟨rfl, rfl⟩
  go_wp2_with fail
  refine (word_Add (subLo x y c) y c _ l2 hy hc).mono ?_
  rw [B2.out.1, B2.out.2]
  rintro e w1 ⟨rfl, rfl⟩
  go_wp2_with fail
  refine (awake1 _).mono ?_
  rintro e w3 ⟨rfl, n, rfl⟩
  go_wp2_with fail
  go_ret
  exact ⟨retB (by simp; omega), (by repeat (first | exact Below.refl _ _ | refine nxd ?_ _ | refine nxa ?_ _ | refine nx ?_ (by assumption)))⟩
set_option maxRecDepth 100000 in
set_option maxHeartbeats 1000000 in
theorem law_WordMuls (x y a b : Nat) (w : World) (hx : x < W) (hy : y < W) (ha : a < W) (hb : b < W) :
    Calls Try.prog 8 #[.int .u64 (x : Int), .int .u64 (y : Int), .int .u64 (a : Int), .int .u64 (b : Int)] w (Ret w (.bool true)) := by
  have ml := ma_lt hx hy ha hb
  have e0 : W * W = 2 ^ 128 := by decide
  have E0 := Lib.hid (show low 2 64 (x * y) = mulLo x y from rfl)
  have E1 := Lib.hid (show low 2 64 (up 2 64 (x * y)) = mulHi x y from Nat.mod_eq_of_lt (mulHi_lt hx hy))
  have E2 := Lib.hid (low_all (b := 2) (k := 128) (show x * y + a < 2 ^ 128 by omega))
  have E3 := Lib.hid (low_all (b := 2) (k := 128) (show x * y + a + b < 2 ^ 128 by omega))
  have E4 := Lib.hid (show low 2 64 (x * y + a + b) = maLo x y a b from rfl)
  have E5 := Lib.hid (show low 2 64 (up 2 64 (x * y + a + b)) = maHi x y a b from Nat.mod_eq_of_lt (maHi_lt hx hy ha hb))
  clear ml e0
  go_enter Try.func8, Try.ntmps8
  go_wp2_with fail
  refine (word_Mul x y _ hx hy).mono ?_
  rintro e w1 ⟨rfl, rfl⟩
  go_wp2_with fail
  refine (ref1_Mul x y _ hx hy).mono ?_
  rintro e w1 ⟨A1, c1, rfl, hd1, hb1, _⟩
  go_wp2_with fail
  refine (ref1_Two A1 c1 _ _ hd1).mono ?_
  rw [E0.out, E1.out]
  rintro e w2 ⟨rfl, n1, rfl⟩
  go_wp2_with fail
  refine (word_MulAdd x y a b _ hx hy ha hb).mono ?_
  rintro e w2 ⟨rfl, rfl⟩
  go_wp2_with fail
  refine (ref1_Mul x y _ hx hy).mono ?_
  rintro e w2 ⟨A2, c2, rfl, hd2, hb2, _⟩
  go_wp2_with fail
  refine (ref1_Bits a _ ha).mono ?_
  rintro e w3 ⟨A3, c3, rfl, hd3, hb3, _⟩
  go_wp2_with fail
  refine (ref1_Add A2 128 c2 _ A3 64 c3 a _ (hd2.below hb3 (Nat.le_refl _)) hd3).mono ?_
  rw [E2.out]
  rintro e w4 ⟨A4, c4, rfl, hd4, hb4, _⟩
  go_wp2_with fail
  refine (ref1_Bits b _ hb).mono ?_
  rintro e w5 ⟨A5, c5, rfl, hd5, hb5, _⟩
  go_wp2_with fail
  refine (ref1_Add A4 128 c4 _ A5 64 c5 b _ (hd4.below hb5 (Nat.le_refl _)) hd5).mono ?_
  rw [E3.out]
  rintro e w6 ⟨A6, c6, rfl, hd6, hb6, _⟩
  go_wp2_with fail
  refine (ref1_Two A6 c6 _ _ hd6).mono ?_
  rw [E4.out, E5.out]
  rintro e w7 ⟨rfl, n2, rfl⟩
  go_wp2_with fail
  refine (awake1 _).mono ?_
  rintro e w8 ⟨rfl, n, rfl⟩
  go_wp2_with fail
  go_ret
  exact ⟨rfl, (by repeat (first | exact Below.refl _ _ | refine nxd ?_ _ | refine nxa ?_ _ | refine nx ?_ (by assumption)))⟩
/-! division -/
theorem div_back {hi lo y : Nat} (hlo : lo < W) : maHi ((hi * W + lo) / y) y ((hi * W + lo) % y) 0 = hi ∧ maLo ((hi * W + lo) / y) y ((hi * W + lo) % y) 0 = lo := by
  have h := Nat.div_add_mod' (hi * W + lo) y
  unfold maHi maLo
  rw [Nat.add_zero, h]
  exact ⟨by rw [Nat.mul_comm, Nat.mul_add_div W_pos, Nat.div_eq_of_lt hlo]; rfl, by rw [Nat.mul_comm, Nat.mul_add_mod, Nat.mod_eq_of_lt hlo]⟩
set_option maxRecDepth 100000 in
set_option maxHeartbeats 1000000 in
theorem law_WordDivs (hi lo y : Nat) (w : World) (_hh : hi < W) (hlo : lo < W) (hy : y < W) :
    Calls Try.prog 9 #[.int .u64 (hi : Int), .int .u64 (lo : Int), .int .u64 (y : Int)] w (Ret w (.bool true)) := by
  by_cases h : hi < y
  · have hB : decide ((hi : Int) < (y : Int)) = true := by simp; omega
    obtain ⟨d1, d2⟩ := div_back (hi := hi) (lo := lo) (y := y) hlo
    have d3 : (hi * W + lo) % y < y := Nat.mod_lt _ (by omega)
    have d4 := (div_all hy h hlo).2.2.2.2.2.2.2
    obtain ⟨Q, hQ⟩ : ∃ Q, Q = (hi * W + lo) / y := ⟨_, rfl⟩
    obtain ⟨R, hR⟩ : ∃ R, R = (hi * W + lo) % y := ⟨_, rfl⟩
    rw [← hQ, ← hR] at d1 d2
    rw [← hR] at d3
    rw [← hQ] at d4
    have D1 := Lib.hid d1
    have D2 := Lib.hid d2
    have HQ := Lib.hid hQ
    have HR := Lib.hid hR
    have d5 : R < W := Nat.lt_trans d3 hy
    clear d1 d2 hQ hR
    go_enter Try.func9, Try.ntmps9
    go_wp2_with fail
    refine (word_Div_yes hi lo y _ hy hlo h).mono ?_
    rw [← HQ.out, ← HR.out]
    rintro e w1 ⟨rfl, n1, rfl⟩
    go_wp2_with fail
    refine (word_MulAdd Q y R 0 _ d4 hy d5 W_pos).mono ?_
    rw [D1.out, D2.out]
    rintro e w1 ⟨rfl, rfl⟩
    go_wp2_with fail
    refine (awake1 _).mono ?_
    rintro e w8 ⟨rfl, n, rfl⟩
    go_wp2_with fail
    go_ret
    exact ⟨rfl, (by repeat (first | exact Below.refl _ _ | refine nxd ?_ _ | refine nxa ?_ _ | refine nx ?_ (by assumption)))⟩
  · have hB : decide ((hi : Int) < (y : Int)) = false := by simp; omega
    go_enter Try.func9, Try.ntmps9
    go_wp2_with fail
    refine (word_Div_no hi lo y _ (by omega)).mono ?_
    rintro e w1 ⟨rfl, n1, rfl⟩
    go_wp2_with fail
    refine (awake1 _).mono ?_
    rintro e w8 ⟨rfl, n, rfl⟩
    go_wp2_with fail
    go_ret
    exact ⟨rfl, (by repeat (first | exact Below.refl _ _ | refine nxd ?_ _ | refine nxa ?_ _ | refine nx ?_ (by assumption)))⟩
/-! products -/
theorem mul_two {x : Nat} : mulHi x 2 = addHi x x 0 ∧ mulLo x 2 = addLo x x 0 := by
  unfold mulHi mulLo addHi addLo
  rw [show x + x + 0 % 2 = x * 2 by omega]
  exact ⟨rfl, rfl⟩
set_option maxRecDepth 100000 in
set_option maxHeartbeats 1000000 in
theorem law_WordTurns (x y : Nat) (w : World) (hx : x < W) (hy : y < W) :
    Calls Try.prog 6 #[.int .u64 (x : Int), .int .u64 (y : Int)] w (Ret w (.bool true)) := by
  have c1 := Lib.hid (show mulHi y x = mulHi x y by unfold mulHi; rw [Nat.mul_comm])
  have c2 := Lib.hid (show mulLo y x = mulLo x y by unfold mulLo; rw [Nat.mul_comm])
  have c3 := Lib.hid (show mulHi x 1 = 0 by unfold mulHi; rw [Nat.mul_one]; exact Nat.div_eq_of_lt hx)
  have c4 := Lib.hid (show mulLo x 1 = x by unfold mulLo; rw [Nat.mul_one]; exact Nat.mod_eq_of_lt hx)
  have c5 := Lib.hid (mul_two (x := x))
  go_enter Try.func6, Try.ntmps6
  go_wp2_with fail
  refine (word_Mul x y _ hx hy).mono ?_
  rintro e w1 ⟨rfl, rfl⟩
  go_wp2_with fail
  refine (word_Mul y x _ hy hx).mono ?_
  rw [c1.out, c2.out]
  rintro e w1 ⟨rfl, rfl⟩
  go_wp2_with fail
  refine (word_Mul x 1 _ hx (by decide)).mono ?_
  rw [c3.out, c4.out]
  rintro e w1 ⟨rfl, rfl⟩
  go_wp2_with fail
  refine (word_Mul x 2 _ hx (by decide)).mono ?_
  rw [c5.out.1, c5.out.2]
  rintro e w1 ⟨rfl, rfl⟩
  go_wp2_with fail
  refine (word_Add x x 0 _ hx hx W_pos).mono ?_
  rintro e w1 ⟨rfl, rfl⟩
  go_wp2_with fail
  refine (awake1 _).mono ?_
  rintro e w8 ⟨rfl, n, rfl⟩
  go_wp2_with fail
  go_ret
  exact ⟨rfl, (by repeat (first | exact Below.refl _ _ | refine nxd ?_ _ | refine nxa ?_ _ | refine nx ?_ (by assumption)))⟩
theorem shift_facts {x : Nat} (h : x ≠ 0) (hx : x < W) : 1 ≤ blen x ∧ blen x ≤ 64 ∧ tz x < blen x ∧ x / 2 ^ (blen x - 1) = 1 ∧ x / 2 ^ tz x % 2 = 1 ∧ x * 2 ^ (63 - tz x) % W * 2 % W = 0 := by
  obtain ⟨t, m, e⟩ := odd_part x h
  have ht : tz x = t := by subst e; exact tz_odd t m hx
  have b1 := blen_lt x
  have b2 := blen_le h
  have b3 := blen_pos h
  have b4 := blen_le_of_lt (x := x) (k := 64) hx
  have hp : 0 < 2 ^ t := Nat.pow_pos (by decide)
  have hle : 2 ^ t ≤ x := by rw [e]; exact Nat.le_mul_of_pos_right _ (by omega)
  have htl : t < blen x := by
    rcases Nat.lt_or_ge t (blen x) with h1 | h1
    · exact h1
    · have := Nat.pow_le_pow_right (n := 2) (by decide) h1; omega
  rw [ht]
  refine ⟨b3, b4, htl, ?_, ?_, ?_⟩
  · have hq : 0 < 2 ^ (blen x - 1) := Nat.pow_pos (by decide)
    have h1 : 1 ≤ x / 2 ^ (blen x - 1) := Nat.div_pos b2 hq
    have h2 : x / 2 ^ (blen x - 1) < 2 := by
      apply Nat.div_lt_of_lt_mul
      rw [← Nat.pow_succ, show (blen x - 1).succ = blen x by omega]; exact b1
    omega
  · rw [e, Nat.mul_div_cancel_left _ hp]; omega
  · have e2 : x * 2 ^ (63 - t) * 2 = (2 * m + 1) * W := by
      rw [e, Nat.mul_assoc, ← Nat.pow_succ, show (63 - t).succ = 64 - t by omega, Nat.mul_comm (2 ^ t), Nat.mul_assoc, ← Nat.pow_add, show t + (64 - t) = 64 by omega]; rfl
    rw [Nat.mod_mul_mod, e2]; exact Nat.mul_mod_left _ _
set_option maxRecDepth 100000 in
set_option maxHeartbeats 1000000 in
theorem law_WordShifts (x : Nat) (w : World) (hx : x < W) :
    Calls Try.prog 7 #[.int .u64 (x : Int)] w (Ret w (.bool true)) := by
  by_cases h0 : x = 0
  · subst h0
    go_enter Try.func7, Try.ntmps7
    go_wp2_with fail
    refine (word_Len 0 _ W_pos).mono ?_
    rw [blen_zero]
    rintro e w1 ⟨rfl, n1, rfl⟩
    go_wp2_with fail
    refine (word_Trail 0 _ W_pos).mono ?_
    rw [tz_zero]
    rintro e w1 ⟨rfl, n2, rfl⟩
    go_wp2_with fail
    refine (awake1 _).mono ?_
    rintro e w8 ⟨rfl, n, rfl⟩
    go_wp2_with fail
    go_ret
    exact ⟨rfl, (by repeat (first | exact Below.refl _ _ | refine nxd ?_ _ | refine nxa ?_ _ | refine nx ?_ (by assumption)))⟩
  · obtain ⟨s1, s2, s3, s4, s5, s6⟩ := shift_facts h0 hx
    obtain ⟨n, hn⟩ : ∃ n, n = blen x := ⟨_, rfl⟩
    obtain ⟨t, ht⟩ : ∃ t, t = tz x := ⟨_, rfl⟩
    rw [← hn] at s1 s2 s3 s4
    rw [← ht] at s3 s5 s6
    have q1 : (x : Int) / 2 ^ (n - 1) = 1 := by
      rw [show ((2 : Int) ^ (n - 1)) = ((2 ^ (n - 1) : Nat) : Int) by simp, div_nat, s4]; rfl
    have q2 : bits .and .u64 ((x : Int) / 2 ^ t) 1 = 1 := by
      rw [show ((2 : Int) ^ t) = ((2 ^ t : Nat) : Int) by simp, div_nat, show (1 : Int) = ((1 : Nat) : Int) from rfl, and_nat _ 1 (Nat.lt_of_le_of_lt (Nat.div_le_self _ _) hx) (by decide), and_one, s5]
    have q3 : IntKind.u64.wrap (IntKind.u64.wrap ((x : Int) * 2 ^ (63 - t)) * 2) = 0 := by
      rw [show ((2 : Int) ^ (63 - t)) = ((2 ^ (63 - t) : Nat) : Int) by simp, wrap_mul, show (2 : Int) = ((2 : Nat) : Int) from rfl, wrap_mul, s6]; rfl
    have HN := Lib.hid hn
    have HT := Lib.hid ht
    have hx1 : 1 ≤ x := by omega
    clear s4 s5 s6 hn ht h0
    go_enter Try.func7, Try.ntmps7
    go_wp2_with fail
    refine (word_Len x _ hx).mono ?_
    rw [← HN.out]
    rintro e w1 ⟨rfl, n1, rfl⟩
    go_wp2_with fail
    refine (word_Trail x _ hx).mono ?_
    rw [← HT.out]
    rintro e w1 ⟨rfl, n2, rfl⟩
    go_wp2_with fail
    refine (awake1 _).mono ?_
    rintro e w8 ⟨rfl, n3, rfl⟩
    go_wp2_with fail
    go_ret
    exact ⟨rfl, (by repeat (first | exact Below.refl _ _ | refine nxd ?_ _ | refine nxa ?_ _ | refine nx ?_ (by assumption)))⟩
end Go.Proofs.Ytnhcanpogmhjpaa
