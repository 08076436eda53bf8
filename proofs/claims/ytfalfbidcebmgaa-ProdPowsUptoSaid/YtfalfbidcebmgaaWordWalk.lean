/- The walks of package word: what each function returns, as numbers. -/
import Derived.Test.YtfalfbidcebmgaaRows
import Derived.Test.YtfalfbidcebmgaaWordLaw2
import Derived.WalkKit
import Derived.WalkLawsBesides
import Derived.WalkSpells
import Derived.Below
import Derived.Deep.Draws
import Derived.Deep.QuietTactic
import Derived.BigQuiet
import Derived.Lib.Hide
import Derived.Outline
namespace Go.Proofs.Ytfalfbidcebmgaa
open Go.RowKit
theorem ret1 {k : IntKind} {a b : Int} (h1 : a = b) : Ending.returned (.int k a) = Ending.returned (.int k b) := by rw [h1]
theorem ret2 {k l : IntKind} {a b c d : Int} (h1 : a = b) (h2 : c = d) : Ending.returned (.tuple #[.int k a, .int l c]) = Ending.returned (.tuple #[.int k b, .int l d]) := by rw [h1, h2]

theorem word_Add (x y c : Nat) (w : World) (hx : x < W) (hy : y < W) (hc : c < W) :
    Calls Try.prog 57 #[.int .u64 (x : Int), .int .u64 (y : Int), .int .u64 (c : Int)] w fun e w' => e = .returned (.tuple #[.int .u64 (addLo x y c : Nat), .int .u64 (addHi x y c : Nat)]) ∧ w = w' := by
  go_enter Try.func57, Try.ntmps57
  go_wp2
  go_ret2
  exact ⟨ret2 (add_lo x y c hc) (add_hi x y c hx hy hc), rfl⟩
theorem word_Sub (x y c : Nat) (w : World) (hx : x < W) (hy : y < W) (hc : c < W) :
    Calls Try.prog 53 #[.int .u64 (x : Int), .int .u64 (y : Int), .int .u64 (c : Int)] w fun e w' => e = .returned (.tuple #[.int .u64 (subLo x y c : Nat), .int .u64 (subHi x y c : Nat)]) ∧ w = w' := by
  go_enter Try.func53, Try.ntmps53
  go_wp2
  go_ret2
  exact ⟨ret2 (sub_lo x y c hy hc) (sub_hi x y c hx hy hc), rfl⟩
theorem word_Mul (x y : Nat) (w : World) (hx : x < W) (hy : y < W) :
    Calls Try.prog 70 #[.int .u64 (x : Int), .int .u64 (y : Int)] w fun e w' => e = .returned (.tuple #[.int .u64 (mulHi x y : Nat), .int .u64 (mulLo x y : Nat)]) ∧ w = w' := by
  go_enter Try.func70, Try.ntmps70
  go_wp2
  go_ret2
  exact ⟨ret2 (mul_hi x y hx hy) (mul_lo x y), rfl⟩
theorem word_MulAdd (x y a b : Nat) (w : World) (hx : x < W) (hy : y < W) (ha : a < W) (hb : b < W) :
    Calls Try.prog 67 #[.int .u64 (x : Int), .int .u64 (y : Int), .int .u64 (a : Int), .int .u64 (b : Int)] w fun e w' => e = .returned (.tuple #[.int .u64 (maHi x y a b : Nat), .int .u64 (maLo x y a b : Nat)]) ∧ w = w' := by
  have z0 : 0 < W := W_pos
  have h1 := mulLo_lt x y
  have h2 := addLo_lt (mulLo x y) a 0
  have H1 := Lib.hid (ma_lo x y a b)
  have H2 := Lib.hid (ma_hi x y a b hx hy ha hb)
  go_enter Try.func67, Try.ntmps67
  go_wp2_with fail
  refine (word_Mul x y _ hx hy).mono ?_
  rintro e w1 ⟨rfl, rfl⟩
  go_wp2_with fail
  refine (word_Add (mulLo x y) a 0 _ h1 ha z0).mono ?_
  rintro e w1 ⟨rfl, rfl⟩
  go_wp2_with fail
  refine (word_Add (addLo (mulLo x y) a 0) b 0 _ h2 hb z0).mono ?_
  rintro e w1 ⟨rfl, rfl⟩
  go_wp2_with fail
  go_ret2
  refine ⟨ret2 ?_ ?_, rfl⟩
  · rw [← H2.out, wrap_add, wrap_add]
  · rw [← H1.out]
set_option maxHeartbeats 400000 in
theorem word_Len (x : Nat) (w : World) (hx : x < W) :
    Calls Try.prog 62 #[.int .u64 (x : Int)] w fun e w' => e = .returned (.int .i64 (blen x : Nat)) ∧ ∃ n, w' = w.drewN n := by
  go_enter Try.func62, Try.ntmps62
  go_wp2
  go_loopw [0, 3, 4] (fun y n k wr => ∃ kk m yy nn : Nat, k = .int .i64 (kk : Int) ∧ y = .int .u64 (yy : Int) ∧ n = .int .i64 (nn : Int) ∧ LenRel x kk yy nn ∧ wr = w.drewN m) (fun _ _ k _ => (intOf k).toNat)
  case atStart => exact ⟨32, 0, x, 0, rfl, rfl, rfl, ⟨by omega, hx, by omega⟩, rfl⟩
  case round =>
    obtain ⟨kk, m, yy, nn, rfl, rfl, rfl, HR, rfl⟩ := hrel
    have hn := HR.le hx
    have hk : kk ≤ 32 := by have := HR.1; omega
    by_cases hk0 : kk = 0
    · subst hk0
      have hy := HR.small
      go_wp2
      go_ret
      refine ⟨ret1 ?_, m, rfl⟩
      have := HR.fin
      first | omega | (simp; omega)
    · have hk1 : 0 < kk := by omega
      clear hk0
      by_cases hc : yy / 2 ^ kk = 0
      · have hb : ((yy : Int) / 2 ^ kk != 0) = false := by
          have : ((yy / 2 ^ kk : Nat) : Int) = 0 := by rw [hc]; rfl
          rw [Int.natCast_ediv, Int.natCast_pow] at this
          simpa using this
        have HR' := HR.no hk1 hc
        clear hc
        go_wp2
        go_roundw
        case rel => exact ⟨kk / 2, m, yy, nn, by go_num, rfl, rfl, HR', rfl⟩
        case measure => simp [intOf]; omega
      · have hb : ((yy : Int) / 2 ^ kk != 0) = true := by
          have : ((yy / 2 ^ kk : Nat) : Int) ≠ 0 := by omega
          rw [Int.natCast_ediv, Int.natCast_pow] at this
          simpa using this
        have HR' := HR.yes hk1 hc
        clear hc
        go_wp2
        go_quiet (fail)
        go_wp2
        go_roundw
        case rel => exact ⟨kk / 2, _, yy / 2 ^ kk, nn + kk, by go_num, by simp, by go_num, HR', rfl⟩
        case measure => simp [intOf]; omega
def lead (x : Nat) : Nat := 64 - blen x
theorem tz_zero : tz 0 = 64 := rfl
theorem word_Trail (x : Nat) (w : World) (hx : x < W) :
    Calls Try.prog 63 #[.int .u64 (x : Int)] w fun e w' => e = .returned (.int .i64 (tz x : Nat)) ∧ ∃ n, w' = w.drewN n := by
  by_cases h0 : x = 0
  · subst h0
    go_enter Try.func63, Try.ntmps63
    go_wp2_with fail
    go_ret
    exact ⟨ret1 rfl, 0, rfl⟩
  · obtain ⟨t, m, e⟩ := odd_part x h0
    have hand : x &&& (W - x) = 2 ^ t := by subst e; exact and_neg t m hx
    have htz : tz x = t := by subst e; exact tz_odd t m hx
    have hp : 2 ^ t < W := by rw [← hand]; exact and_lt _ _ hx
    obtain ⟨p, hp2⟩ : ∃ p, p = 2 ^ t := ⟨_, rfl⟩
    have hb : blen p = t + 1 := by rw [hp2]; exact blen_pow t
    have hb2 : blen p ≤ 64 := blen_le_of_lt (by rw [hp2]; exact hp)
    have e1 : bits .and .u64 (x : Int) (IntKind.u64.wrap (-(x : Int))) = (p : Int) := by
      rw [hp2, ← hand, ← and_nat x (W - x) hx (by omega)]
      congr 1
      rw [IntKind.wrap_u64]; unfold W at *; omega
    have hb3 : 1 ≤ blen p := by omega
    have hpw : p < W := by rw [hp2]; exact hp
    have HB := Lib.hid hb
    have HT := Lib.hid htz
    have hx1 : 1 ≤ x := by omega
    clear e hand htz hp hp2 hb h0
    go_enter Try.func63, Try.ntmps63
    go_wp2_with fail
    refine (word_Len p _ hpw).mono ?_
    rintro e w1 ⟨rfl, n, rfl⟩
    go_wp2_with fail
    go_ret
    exact ⟨ret1 (by rw [HT.out]; have := HB.out; omega), n, rfl⟩
/-! ### Div -/
end Go.Proofs.Ytfalfbidcebmgaa
