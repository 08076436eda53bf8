/- The walks of package word: what each function returns, as numbers. -/
import Derived.Test.YtflleaifmeiikaaRows
import Derived.Test.YtflleaifmeiikaaWordLaw2
import Derived.WalkKit
import Derived.WalkLawsBesides
import Derived.WalkSpells
import Derived.Below
import Derived.Deep.Draws
import Derived.Deep.QuietTactic
import Derived.BigQuiet
import Derived.Lib.Hide
import Derived.Outline
namespace Go.Proofs.Ytflleaifmeiikaa
open Go.RowKit
theorem ret1 {k : IntKind} {a b : Int} (h1 : a = b) : Ending.returned (.int k a) = Ending.returned (.int k b) := by rw [h1]
theorem ret2 {k l : IntKind} {a b c d : Int} (h1 : a = b) (h2 : c = d) : Ending.returned (.tuple #[.int k a, .int l c]) = Ending.returned (.tuple #[.int k b, .int l d]) := by rw [h1, h2]

theorem word_Add (x y c : Nat) (w : World) (hx : x < W) (hy : y < W) (hc : c < W) :
    Calls Try.prog 58 #[.int .u64 (x : Int), .int .u64 (y : Int), .int .u64 (c : Int)] w fun e w' => e = .returned (.tuple #[.int .u64 (addLo x y c : Nat), .int .u64 (addHi x y c : Nat)]) ∧ w = w' := by
  go_enter Try.func58, Try.ntmps58
  go_wp2
  go_ret2
  exact ⟨ret2 (add_lo x y c hc) (add_hi x y c hx hy hc), rfl⟩
theorem word_Sub (x y c : Nat) (w : World) (hx : x < W) (hy : y < W) (hc : c < W) :
    Calls Try.prog 70 #[.int .u64 (x : Int), .int .u64 (y : Int), .int .u64 (c : Int)] w fun e w' => e = .returned (.tuple #[.int .u64 (subLo x y c : Nat), .int .u64 (subHi x y c : Nat)]) ∧ w = w' := by
  go_enter Try.func70, Try.ntmps70
  go_wp2
  go_ret2
  exact ⟨ret2 (sub_lo x y c hy hc) (sub_hi x y c hx hy hc), rfl⟩
theorem word_Mul (x y : Nat) (w : World) (hx : x < W) (hy : y < W) :
    Calls Try.prog 74 #[.int .u64 (x : Int), .int .u64 (y : Int)] w fun e w' => e = .returned (.tuple #[.int .u64 (mulHi x y : Nat), .int .u64 (mulLo x y : Nat)]) ∧ w = w' := by
  go_enter Try.func74, Try.ntmps74
  go_wp2
  go_ret2
  exact ⟨ret2 (mul_hi x y hx hy) (mul_lo x y), rfl⟩
theorem word_MulAdd (x y a b : Nat) (w : World) (hx : x < W) (hy : y < W) (ha : a < W) (hb : b < W) :
    Calls Try.prog 71 #[.int .u64 (x : Int), .int .u64 (y : Int), .int .u64 (a : Int), .int .u64 (b : Int)] w fun e w' => e = .returned (.tuple #[.int .u64 (maHi x y a b : Nat), .int .u64 (maLo x y a b : Nat)]) ∧ w = w' := by
  have z0 : 0 < W := W_pos
  have h1 := mulLo_lt x y
  have h2 := addLo_lt (mulLo x y) a 0
  have H1 := Lib.hid (ma_lo x y a b)
  have H2 := Lib.hid (ma_hi x y a b hx hy ha hb)
  go_enter Try.func71, Try.ntmps71
  go_wp2_with fail
  refine (word_Mul x y _ hx hy).mono ?_
  rintro e w1 ⟨rfl, rfl⟩
  go_wp2_with fail
  refine (word_Add (mulLo x y) a 0 _ h1 ha z0).mono ?_
  rintro e w1 ⟨rfl, rfl⟩
  go_wp2_with fail
  refine (word_Add (addLo (mulLo x y) a 0) b 0 _ h2 hb z0).mono ?_
  rintro e w1 ⟨rfl, rfl⟩
  go_wp2_with fail
  go_ret2
  refine ⟨ret2 ?_ ?_, rfl⟩
  · rw [← H2.out, wrap_add, wrap_add]
  · rw [← H1.out]
set_option maxHeartbeats 400000 in
theorem word_Len (x : Nat) (w : World) (hx : x < W) :
    Calls Try.prog 51 #[.int .u64 (x : Int)] w fun e w' => e = .returned (.int .i64 (blen x : Nat)) ∧ ∃ n, w' = w.drewN n := by
  go_enter Try.func51, Try.ntmps51
  go_wp2
  go_loopw [0, 3, 4] (fun y n k wr => ∃ kk m yy nn : Nat, k = .int .i64 (kk : Int) ∧ y = .int .u64 (yy : Int) ∧ n = .int .i64 (nn : Int) ∧ LenRel x kk yy nn ∧ wr = w.drewN m) (fun _ _ k _ => (intOf k).toNat)
  case atStart => exact ⟨32, 0, x, 0, rfl, rfl, rfl, ⟨by omega, hx, by omega⟩, rfl⟩
  case round =>
    obtain ⟨kk, m, yy, nn, rfl, rfl, rfl, HR, rfl⟩ := hrel
    have hn := HR.le hx
    have hk : kk ≤ 32 := by have := HR.1; omega
    by_cases hk0 : kk = 0
    · subst hk0
      have hy := HR.small
      go_wp2
      go_ret
      refine ⟨ret1 ?_, m, rfl⟩
      have := HR.fin
      first | omega | (simp; omega)
    · have hk1 : 0 < kk := by omega
      clear hk0
      by_cases hc : yy / 2 ^ kk = 0
      · have hb : ((yy : Int) / 2 ^ kk != 0) = false := by
          have : ((yy / 2 ^ kk : Nat) : Int) = 0 := by rw [hc]; rfl
          rw [Int.natCast_ediv, Int.natCast_pow] at this
          simpa using this
        have HR' := HR.no hk1 hc
        clear hc
        go_wp2
        go_roundw
        case rel => exact ⟨kk / 2, m, yy, nn, by go_num, rfl, rfl, HR', rfl⟩
        case measure => simp [intOf]; omega
      · have hb : ((yy : Int) / 2 ^ kk != 0) = true := by
          have : ((yy / 2 ^ kk : Nat) : Int) ≠ 0 := by omega
          rw [Int.natCast_ediv, Int.natCast_pow] at this
          simpa using this
        have HR' := HR.yes hk1 hc
        clear hc
        go_wp2
        go_quiet (fail)
        go_wp2
        go_roundw
        case rel => exact ⟨kk / 2, _, yy / 2 ^ kk, nn + kk, by go_num, by simp, by go_num, HR', rfl⟩
        case measure => simp [intOf]; omega
set_option maxHeartbeats 1000000 in
theorem word_digit (u nx y : Nat) (w : World) (hy : 9223372036854775808 ≤ y) (hyw : y < W) (hu : u < y) (hn : nx < H) :
    Calls Try.prog 75 #[.int .u64 (u : Int), .int .u64 (nx : Int), .int .u64 (y : Int)] w fun e w' => e = .returned (.tuple #[.int .u64 ((u * H + nx) / y : Nat), .int .u64 ((u * H + nx) % y : Nat)]) ∧ ∃ n, w' = w.drewN n := by
  obtain ⟨y1, hy1⟩ : ∃ y1, y1 = y / H := ⟨_, rfl⟩
  obtain ⟨y0, hy0⟩ : ∃ y0, y0 = y % H := ⟨_, rfl⟩
  obtain ⟨Q, hQ⟩ : ∃ Q, Q = (u * H + nx) / y := ⟨_, rfl⟩
  obtain ⟨R, hR⟩ : ∃ R, R = (u * H + nx) % y := ⟨_, rfl⟩
  rw [← hQ, ← hR]
  have e8 : (y : Int) / 4294967296 = (y1 : Int) := by rw [hy1]; exact div_nat y 4294967296
  have e9 : bits .and .u64 (y : Int) 4294967295 = (y0 : Int) := by
    rw [show (4294967295 : Int) = ((4294967295 : Nat) : Int) from rfl, and_nat y _ hyw (by decide), and_low, hy0]; rfl
  have hs := DigRel.start hy hyw hu hn
  have b1 : 1 ≤ (y1 : Int) := by unfold H at hy1; omega
  have b2 : y1 < 4294967296 := by unfold H W at *; omega
  have b3 : y0 < 4294967296 := by unfold H W at *; omega
  have b4 : nx < 4294967296 := hn
  have b5 : (u : Int) / (y1 : Int) ≤ 4294967297 := by have := hs.2.2.2; rw [← hy1] at this; rw [div_nat]; unfold H at this; omega
  have HS := Lib.hid hs
  have HY1 := Lib.hid hy1
  have HY0 := Lib.hid hy0
  have HYW := Lib.hid hyw
  have HY := Lib.hid hy
  have HU := Lib.hid hu
  have HQ := Lib.hid hQ
  have HRR := Lib.hid hR
  clear hy1 hy0 hyw hy hu hQ hR hs
  go_enter Try.func75, Try.ntmps75
  go_wp2
  go_quiet (fail)
  go_wp2
  go_loopw [10, 11] (fun q r wr => ∃ m qq rr : Nat, q = .int .u64 (qq : Int) ∧ r = .int .u64 (rr : Int) ∧ DigRel u nx y qq rr ∧ wr = w.drewN m) (fun q _ _ => (intOf q).toNat)
  case atStart => exact ⟨_, u / y1, u % y1, by rw [div_nat, wrap_nat, Nat.mod_eq_of_lt (by unfold W; rw [div_nat] at b5; omega)], by rw [Int.natCast_emod], by rw [HY1.out]; exact HS.out, rfl⟩
  case round =>
    obtain ⟨m, qq, rr, rfl, rfl, HR, rfl⟩ := hrel
    have g1 : rr < 4294967296 := HR.2.2.1
    have g2 : qq ≤ 4294967297 := HR.2.2.2
    have g3 : (qq : Int) * (y0 : Int) ≤ 18446744082299486215 := by
      have : qq * y0 ≤ 4294967297 * 4294967295 := Nat.mul_le_mul g2 (by omega)
      rw [← Int.natCast_mul]; omega
    by_cases hc : H ≤ qq ∨ rr * H + nx < qq * y0
    · obtain ⟨k1, k2, k3⟩ := HR.step HY.out HU.out hn (by rw [← HY0.out]; exact hc)
      rw [← HY1.out] at k2 k3
      have K2 := Lib.hid k2
      have K3 := Lib.hid k3
      clear k2 k3
      by_cases hq : H ≤ qq
      · have hq' : 4294967295 < (qq : Int) := by unfold H at hq; omega
        clear hc hq
        by_cases hz : H ≤ rr + y1
        · have hz' : 4294967295 < (rr : Int) + (y1 : Int) := by unfold H at hz; omega
          have K := K3.out hz
          clear hz
          go_wp2
          go_ret2
          refine ⟨ret2 ?_ ?_, m, rfl⟩
          · rw [HQ.out, K]; omega
          · rw [HRR.out, ← digit_rest u nx y (qq - 1) (by have := HY.out; omega) HYW.out K, show ((qq : Int) - 1) = ((qq - 1 : Nat) : Int) from by omega]
        · have hz' : (rr : Int) + (y1 : Int) ≤ 4294967295 := by unfold H at hz; omega
          have K := K2.out (by omega)
          clear hz
          go_wp2
          go_roundw
          case rel => exact ⟨m, qq - 1, rr + y1, by go_num, by go_num, K, rfl⟩
          case measure => simp [intOf]; omega
      · have hq' : (qq : Int) ≤ 4294967295 := by unfold H at hq; omega
        have hw : (qq : Int) * (y0 : Int) ≤ 18446744065119617025 := by
          have : qq * y0 ≤ 4294967295 * 4294967295 := Nat.mul_le_mul (by omega) (by omega)
          rw [← Int.natCast_mul]; omega
        have hw3 : IntKind.u64.wrap ((qq : Int) * (y0 : Int)) = (qq : Int) * (y0 : Int) := by rw [IntKind.wrap_u64]; exact Int.emod_eq_of_lt (by rw [← Int.natCast_mul]; omega) (by omega)
        have hw2 : (rr : Int) * 4294967296 + (nx : Int) < (qq : Int) * (y0 : Int) := by
          have : rr * H + nx < qq * y0 := by rcases hc with h | h; exact absurd h hq; exact h
          rw [← Int.natCast_mul]; unfold H at this; omega
        clear hc hq
        by_cases hz : H ≤ rr + y1
        · have hz' : 4294967295 < (rr : Int) + (y1 : Int) := by unfold H at hz; omega
          have K := K3.out hz
          clear hz
          go_wp2
          go_ret2
          refine ⟨ret2 ?_ ?_, m, rfl⟩
          · rw [HQ.out, K]; omega
          · rw [HRR.out, ← digit_rest u nx y (qq - 1) (by have := HY.out; omega) HYW.out K, show ((qq : Int) - 1) = ((qq - 1 : Nat) : Int) from by omega]
        · have hz' : (rr : Int) + (y1 : Int) ≤ 4294967295 := by unfold H at hz; omega
          have K := K2.out (by omega)
          clear hz
          go_wp2
          go_roundw
          case rel => exact ⟨m, qq - 1, rr + y1, by go_num, by go_num, K, rfl⟩
          case measure => simp [intOf]; omega
    · have hq' : (qq : Int) ≤ 4294967295 := by unfold H at hc; omega
      have hw : (qq : Int) * (y0 : Int) ≤ 18446744065119617025 := by
        have : qq * y0 ≤ 4294967295 * 4294967295 := Nat.mul_le_mul (by omega) (by omega)
        rw [← Int.natCast_mul]; omega
      have hw3 : IntKind.u64.wrap ((qq : Int) * (y0 : Int)) = (qq : Int) * (y0 : Int) := by rw [IntKind.wrap_u64]; exact Int.emod_eq_of_lt (by rw [← Int.natCast_mul]; omega) (by omega)
      have hw2 : (qq : Int) * (y0 : Int) ≤ (rr : Int) * 4294967296 + (nx : Int) := by
        have : qq * y0 ≤ rr * H + nx := by omega
        rw [← Int.natCast_mul]; unfold H at this; omega
      have K := HR.done HY.out HU.out hn (by rw [← HY0.out]; omega)
      clear hc
      go_wp2
      go_ret2
      refine ⟨ret2 ?_ ?_, m, rfl⟩
      · rw [HQ.out, K]
      · rw [HRR.out, ← digit_rest u nx y qq (by have := HY.out; omega) HYW.out K]


def lead (x : Nat) : Nat := 64 - blen x
theorem word_Lead (x : Nat) (w : World) (hx : x < W) :
    Calls Try.prog 61 #[.int .u64 (x : Int)] w fun e w' => e = .returned (.int .i64 (lead x : Nat)) ∧ ∃ n, w' = w.drewN n := by
  have h := blen_le_of_lt (x := x) (k := 64) hx
  go_enter Try.func61, Try.ntmps61
  go_wp2_with fail
  refine (word_Len x _ hx).mono ?_
  rintro e w1 ⟨rfl, n, rfl⟩
  go_wp2_with fail
  go_ret
  exact ⟨ret1 (by unfold lead; omega), n, rfl⟩
theorem tz_zero : tz 0 = 64 := rfl
theorem word_Trail (x : Nat) (w : World) (hx : x < W) :
    Calls Try.prog 52 #[.int .u64 (x : Int)] w fun e w' => e = .returned (.int .i64 (tz x : Nat)) ∧ ∃ n, w' = w.drewN n := by
  by_cases h0 : x = 0
  · subst h0
    go_enter Try.func52, Try.ntmps52
    go_wp2_with fail
    go_ret
    exact ⟨ret1 rfl, 0, rfl⟩
  · obtain ⟨t, m, e⟩ := odd_part x h0
    have hand : x &&& (W - x) = 2 ^ t := by subst e; exact and_neg t m hx
    have htz : tz x = t := by subst e; exact tz_odd t m hx
    have hp : 2 ^ t < W := by rw [← hand]; exact and_lt _ _ hx
    obtain ⟨p, hp2⟩ : ∃ p, p = 2 ^ t := ⟨_, rfl⟩
    have hb : blen p = t + 1 := by rw [hp2]; exact blen_pow t
    have hb2 : blen p ≤ 64 := blen_le_of_lt (by rw [hp2]; exact hp)
    have e1 : bits .and .u64 (x : Int) (IntKind.u64.wrap (-(x : Int))) = (p : Int) := by
      rw [hp2, ← hand, ← and_nat x (W - x) hx (by omega)]
      congr 1
      rw [IntKind.wrap_u64]; unfold W at *; omega
    have hb3 : 1 ≤ blen p := by omega
    have hpw : p < W := by rw [hp2]; exact hp
    have HB := Lib.hid hb
    have HT := Lib.hid htz
    have hx1 : 1 ≤ x := by omega
    clear e hand htz hp hp2 hb h0
    go_enter Try.func52, Try.ntmps52
    go_wp2_with fail
    refine (word_Len p _ hpw).mono ?_
    rintro e w1 ⟨rfl, n, rfl⟩
    go_wp2_with fail
    go_ret
    exact ⟨ret1 (by rw [HT.out]; have := HB.out; omega), n, rfl⟩
/-! ### Div -/
theorem word_Div_no (hi lo y : Nat) (w : World) (h : y ≤ hi) :
    Calls Try.prog 69 #[.int .u64 (hi : Int), .int .u64 (lo : Int), .int .u64 (y : Int)] w fun e w' => e = .returned (.tuple #[.int .u64 0, .int .u64 0, .bool false]) ∧ ∃ n, w' = w.drewN n := by
  go_enter Try.func69, Try.ntmps69
  go_wp2_with fail
  go_ret3
  exact ⟨rfl, 0, rfl⟩
set_option maxHeartbeats 1000000 in
theorem word_Div_yes (hi lo y : Nat) (w : World) (hyw : y < W) (hlo : lo < W) (h : hi < y) :
    Calls Try.prog 69 #[.int .u64 (hi : Int), .int .u64 (lo : Int), .int .u64 (y : Int)] w fun e w' => e = .returned (.tuple #[.int .u64 ((hi * W + lo) / y : Nat), .int .u64 ((hi * W + lo) % y : Nat), .bool true]) ∧ ∃ n, w' = w.drewN n := by
  obtain ⟨d1, d2, d3, d4, d5, d6, d7, d8⟩ := div_all hyw h hlo
  obtain ⟨s, hs⟩ : ∃ s, s = lead y := ⟨_, rfl⟩
  rw [show 64 - blen y = s from hs.symm] at d1 d2 d3 d4 d5 d6 d7
  obtain ⟨Q, hQ⟩ : ∃ Q, Q = (hi * W + lo) / y := ⟨_, rfl⟩
  obtain ⟨R, hR⟩ : ∃ R, R = (hi * W + lo) % y := ⟨_, rfl⟩
  rw [← hQ] at d5 d8 ⊢
  rw [← hR] at d6 ⊢
  have hs63 : s ≤ 63 := by
    have := (lead_bounds (y := y) (by omega) hyw).2.1
    rw [hs]; unfold lead; omega
  have hor := shl_or hi lo s hs63 hlo
  obtain ⟨Y, hY⟩ : ∃ Y, Y = y * 2 ^ s := ⟨_, rfl⟩
  obtain ⟨p, hp⟩ : ∃ p, p = hi * 2 ^ s + lo / 2 ^ (64 - s) := ⟨_, rfl⟩
  obtain ⟨l, hl⟩ : ∃ l, l = lo * 2 ^ s % W := ⟨_, rfl⟩
  have hlw : l < W := by rw [hl]; exact Nat.mod_lt _ W_pos
  rw [← hY, ← hp] at d1
  rw [← hY] at d2 d3
  rw [← hY, ← hp, ← hl] at d4 d5 d6
  -- the code's own spellings
  have e1 : IntKind.u64.wrap ((y : Int) * 2 ^ s) = (Y : Int) := by
    rw [show ((2 : Int) ^ s) = ((2 ^ s : Nat) : Int) by simp, wrap_mul, ← hY, Nat.mod_eq_of_lt d2]
  have e2 : bits .or .u64 (IntKind.u64.wrap ((hi : Int) * 2 ^ s)) ((lo : Int) / 2 ^ (64 - s)) = (p : Int) := by
    rw [show ((2 : Int) ^ s) = ((2 ^ s : Nat) : Int) by simp, show ((2 : Int) ^ (64 - s)) = ((2 ^ (64 - s) : Nat) : Int) by simp, wrap_mul, Nat.mod_eq_of_lt d7, div_nat, or_nat _ _ d7 (Nat.lt_of_le_of_lt (Nat.div_le_self _ _) hlo), hor, ← hp]
  have e3 : IntKind.u64.wrap ((lo : Int) * 2 ^ s) = (l : Int) := by
    rw [show ((2 : Int) ^ s) = ((2 ^ s : Nat) : Int) by simp, wrap_mul, ← hl]
  have e4 : (l : Int) / 4294967296 = ((l / H : Nat) : Int) := div_nat l 4294967296
  have e5 : bits .and .u64 (l : Int) 4294967295 = ((l % H : Nat) : Int) := by
    rw [show (4294967295 : Int) = ((4294967295 : Nat) : Int) from rfl, and_nat l _ hlw (by decide), and_low]; rfl
  have l1 : l / H < H := by unfold W at hlw; unfold H; omega
  have l2 : l % H < H := Nat.mod_lt _ (by decide)
  obtain ⟨la, hla⟩ : ∃ la, la = l / H := ⟨_, rfl⟩
  obtain ⟨lb, hlb⟩ : ∃ lb, lb = l % H := ⟨_, rfl⟩
  rw [← hla] at e4 l1 d4 d5 d6
  rw [← hlb] at e5 l2 d5 d6
  obtain ⟨q1, hq1⟩ : ∃ q1, q1 = (p * H + la) / Y := ⟨_, rfl⟩
  obtain ⟨r1, hr1⟩ : ∃ r1, r1 = (p * H + la) % Y := ⟨_, rfl⟩
  rw [← hr1] at d4 d5 d6
  rw [← hq1] at d5
  obtain ⟨q0, hq0⟩ : ∃ q0, q0 = (r1 * H + lb) / Y := ⟨_, rfl⟩
  obtain ⟨r0, hr0⟩ : ∃ r0, r0 = (r1 * H + lb) % Y := ⟨_, rfl⟩
  rw [← hr0] at d6
  rw [← hq0] at d5
  have e6 : IntKind.u64.wrap (IntKind.u64.wrap ((q1 : Int) * 4294967296) + (q0 : Int)) = (Q : Int) := by
    rw [show (4294967296 : Int) = ((H : Nat) : Int) from rfl, wrap_mul, wrap_add, Nat.mod_add_mod, d5, Nat.mod_eq_of_lt d8]
  have e7 : (r0 : Int) / 2 ^ s = (R : Int) := by
    rw [show ((2 : Int) ^ s) = ((2 ^ s : Nat) : Int) by simp, div_nat, d6]
  have Q1 := Lib.hid hq1
  have R1 := Lib.hid hr1
  have Q0 := Lib.hid hq0
  have R0 := Lib.hid hr0
  have hyw' : y < W := hyw
  have HSS := Lib.hid hs
  have D1 := Lib.hid d1
  have D2 := Lib.hid d2
  have D3 := Lib.hid d3
  have D4 := Lib.hid d4
  have L1 := Lib.hid l1
  have L2 := Lib.hid l2
  have h' : ¬ y ≤ hi := by omega
  clear hq1 hr1 hq0 hr0 d1 d2 d3 d4 d5 d6 d7 d8 l1 l2 hla hlb hl hp hY hR hQ hor hs h hlw hyw' 
  go_enter Try.func69, Try.ntmps69
  go_wp2_with fail
  refine (word_Lead y _ hyw).mono ?_
  rw [← HSS.out]
  rintro e w1 ⟨rfl, n1, rfl⟩
  go_wp2_with fail
  go_quiet (fail)
  go_wp2_with fail
  refine (word_digit p la Y _ D3.out D2.out D1.out L1.out).mono ?_
  rw [← Q1.out, ← R1.out]
  rintro e w1 ⟨rfl, n2, rfl⟩
  go_wp2_with fail
  refine (word_digit r1 lb Y _ D3.out D2.out D4.out L2.out).mono ?_
  rw [← Q0.out, ← R0.out]
  rintro e w1 ⟨rfl, n3, rfl⟩
  go_wp2_with fail
  go_quiet (fail)
  go_wp2_with fail
  go_ret3
  exact ⟨rfl, _, World.drewN_drewN _ _ _⟩
end Go.Proofs.Ytflleaifmeiikaa
