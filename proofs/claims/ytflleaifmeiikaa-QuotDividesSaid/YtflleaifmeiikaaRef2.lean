/- The walks of actuaryref02, first part: numbers as digits to the base 65536. -/
import Derived.Test.YtflleaifmeiikaaWordWalk
import Derived.Test.YtflleaifmeiikaaPush
import Derived.Test.YtflleaifmeiikaaRef1
import Derived.Test.YtflleaifmeiikaaNat
import Derived.Deep.DeepCutAuto
namespace Go.Proofs.Ytflleaifmeiikaa
open Go.RowKit
def natOf : Value → Nat | .int _ i => i.toNat | _ => 0
set_option maxRecDepth 100000 in
set_option maxHeartbeats 1000000 in
theorem ref2_Trim (A : Option Addr) (n c x : Nat) (w : World) (h : Dig .i64 65536 w A n c x) (hn : n ≤ 17592186044416) :
    Calls Try.prog 47 #[.slice A n c] w (RetRef 65536 w x) := by
  obtain ⟨i0, hi, hz0, hz1, hz2⟩ := info_parts info_int
  have m1 := h.max
  have m2 := h.cap
  go_enter Try.func47, Try.ntmps47
  go_wp2
  go_loop [3] (fun v => ∃ m : Nat, m ≤ n ∧ v = .int .i64 (m : Int) ∧ x < 65536 ^ m) (fun v => (intOf v).toNat)
  case atStart => exact ⟨n, Nat.le_refl _, rfl, h.lt⟩
  case round =>
    obtain ⟨m, hm, rfl, hlt⟩ := hrel
    rcases m with _ | j
    · have HD := h.shrink hm hlt
      clear hlt h
      go_wp2_with (at_builtin; refine wpList_append_dig _ rfl _ _ 27 rfl w.heap.size 3 i0 (.int .i64 0) 8 Try.underlying27 hi hz0 hz1 hz2 rfl .i64 65536 _ 0 0 rfl (own_nil _ _ _ _ _) A (0) c x rfl HD (by unfold maxLen; omega) (by omega) (Nat.le_refl _) (by decide) (by decide) ?_)
      intro v' w1 hown hgrow
      have hb := below_of_none hgrow
      obtain ⟨A1, c1, rfl, hd1, hf⟩ := own_form (k := .i64) (b := 65536) (x := x) (n := 0) (by simpa using hown) HD.lt
      clear hown hgrow
      go_wp2
      go_ret
      exact ⟨A1, _, c1, rfl, ⟨hd1, fun h => absurd h (by omega)⟩, hb, hf⟩
    · obtain ⟨g, o, rfl, hg, hcell⟩ := h.at_ (by omega)
      have hcj := hcell j (by omega)
      have hpos : (0 : Int) < ((j + 1 : Nat) : Int) := by omega
      have ej : ((j + 1 : Nat) : Int) - 1 = (j : Int) := by omega
      have hjc : j + 1 ≤ c := by omega
      have hs := low_next 65536 j x
      rw [low_all hlt] at hs
      have hl := low_bound (b := 65536) (by decide) j x
      clear hcell
      by_cases hz : dg 65536 j x = 0
      · rw [hz] at hcj
        have HL := Lib.hid (show x < 65536 ^ j by rw [← hs, hz]; simpa using hl)
        clear hz hs hl hlt
        go_wp2
        go_round
        case rel => exact ⟨j, by omega, by simp, HL.out⟩
        case measure => simp [intOf]
      · have hb : (((dg 65536 j x : Nat) : Int) == 0) = false := by simp; exact hz
        have HD := h.shrink hm hlt
        have hge : 65536 ^ j ≤ x := by
          rw [← hs]
          have := Nat.mul_le_mul_right (65536 ^ j) (show 1 ≤ dg 65536 j x by omega)
          omega
        have HG := Lib.hid hge
        clear hz hs hl hlt hge h
        go_wp2_with (at_builtin; refine wpList_append_dig _ rfl _ _ 27 rfl w.heap.size 3 i0 (.int .i64 0) 8 Try.underlying27 hi hz0 hz1 hz2 rfl .i64 65536 _ 0 0 rfl (own_nil _ _ _ _ _) (some ⟨g, o, none⟩) (j + 1) c x rfl HD (by unfold maxLen; omega) (by omega) (Nat.le_refl _) (by decide) (by decide) ?_)
        intro v' w1 hown hgrow
        have hb := below_of_none hgrow
        obtain ⟨A1, c1, rfl, hd1, hf⟩ := own_form (k := .i64) (b := 65536) (x := x) (n := j + 1) (by simpa using hown) HD.lt
        clear hown hgrow
        go_wp2
        go_ret
        exact ⟨A1, _, c1, rfl, ⟨hd1, fun _ => HG.out⟩, hb, hf⟩
-- OF --
theorem dg_split (m j x : Nat) (hj : j < 4) : dg 65536 (4 * m + j) x = dg W m x / 65536 ^ j % 65536 := by
  unfold dg
  rw [show W = 65536 ^ 4 from by decide, ← Nat.pow_mul, Nat.pow_add, ← Nat.div_div_eq_div_mul]
  obtain rfl | rfl | rfl | rfl : j = 0 ∨ j = 1 ∨ j = 2 ∨ j = 3 := by omega
  all_goals (generalize x / 65536 ^ (4 * m) = y; omega)
set_option maxRecDepth 100000 in
set_option maxHeartbeats 1000000 in
theorem ref2_Of (A : Option Addr) (n c x : Nat) (w : World) (h : Dig .u64 W w A n c x) (hn : n ≤ 1000000000) :
    Calls Try.prog 14 #[.slice A n c] w (RetRef 65536 w x) := by
  obtain ⟨i0, hi, hz0, hz1, hz2⟩ := info_parts info_int
  have m1 := h.max
  have m2 := h.cap
  go_enter Try.func14, Try.ntmps14
  go_wp2
  go_loopw [3, 4, 5, 6] (fun d i _ _ wr => ∃ m : Nat, m ≤ n ∧ i = .int .i64 (m : Int) ∧ wr.ownsRow w.heap.size 3 1 d (4 * m) (dl .i64 65536 (4 * m) (low 65536 (4 * m) x)) ∧ Below w.heap.size w wr) (fun _ i _ _ _ => n - (intOf i).toNat)
  case atStart => exact ⟨0, by omega, rfl, by rw [low_nought]; exact own_nil _ _ _ _ _, Below.refl _ _⟩
  case round =>
    obtain ⟨m, hm, rfl, hown, hbel⟩ := hrel
    by_cases hlt : m < n
    · obtain ⟨g, o, rfl, hg, hcell⟩ := h.at_ (by omega)
      have hcx : wr.cell? ⟨g, o + m, none⟩ = some (.int .u64 (dg W m x : Nat)) := (hbel.cell (by exact hg)).trans (hcell m hlt)
      clear hcell
      go_wp2
      go_loopw [3, 5, 6] (fun d ww k wr => ∃ j q : Nat, j ≤ 4 ∧ k = .int .i64 (j : Int) ∧ ww = .int .u64 (q : Int) ∧ q = dg W m x / 65536 ^ j ∧ wr.ownsRow w.heap.size 3 1 d (4 * m + j) (dl .i64 65536 (4 * m + j) (low 65536 (4 * m + j) x)) ∧ Below w.heap.size w wr) (fun _ _ k _ => 4 - (intOf k).toNat)
      case atStart => exact ⟨0, _, by omega, rfl, rfl, by simp, hown, hbel⟩
      case round =>
        clear hown hbel hcx
        obtain ⟨j, q, hj, rfl, rfl, hq, hown, hbel⟩ := hrel
        have hqW : q < W := by rw [hq]; exact Nat.lt_of_le_of_lt (Nat.div_le_self _ _) (dg_lt W_pos _ _)
        have hql := le_W hqW
        by_cases hj4 : j < 4
        · have HD := Lib.hid (dg_split m j x hj4)
          have HQ := Lib.hid (show q / 65536 = dg W m x / 65536 ^ (j + 1) by rw [hq, Nat.div_div_eq_div_mul, Nat.pow_succ])
          rw [← hq] at HD
          clear hq hqW
          go_wp2_with (at_builtin; go_loud (refine wpList_push rfl _ _ 27 rfl w wr 3 i0 (.int .i64 0) 8 Try.underlying27 hi hz0 hz1 hz2 rfl .i64 65536 _ (4 * m + j) (low 65536 (4 * m + j) x) rfl hown hbel _ rfl (dg 65536 (4 * m + j) x) (by rw [HD.out]; rfl) (dg_lt (by decide) _ _) (low_bound (by decide) _ _) rfl (by unfold maxLen; omega) (by omega) ?_))
          intro v' w1 hown' hbel'
          rw [low_next] at hown'
          clear hown hbel
          go_wp2
          go_roundw
          case rel => exact ⟨j + 1, q / 65536, by omega, by go_num, rfl, HQ.out, hown', hbel'⟩
          case measure => simp [intOf]; omega
        · obtain rfl : j = 4 := by omega
          clear hq
          go_wp2
          go_roundw
          case rel => exact ⟨m + 1, by omega, by go_num, hown, hbel⟩
          case measure => simp [intOf]; omega
    · obtain rfl : m = n := by omega
      have HX := low_all (Nat.lt_of_lt_of_le h.lt (Nat.le_of_eq (show W ^ m = 65536 ^ (4 * m) by rw [Nat.pow_mul]; rfl)))
      rw [HX] at hown
      obtain ⟨A1, c1, rfl, hd1, hf⟩ := own_form hown (low_bound (b := 65536) (by decide) (4 * m) x |> fun hb => by rwa [HX] at hb)
      clear hown
      go_wp2_with fail
      refine (ref2_Trim _ _ _ _ _ hd1 (by omega)).mono ?_
      rintro e w2 ⟨A2, n2, c2, rfl, hd2, hb2, hf2⟩
      go_wp2_with fail
      go_ret
      exact ⟨A2, n2, c2, rfl, hd2, nx hbel hb2, hf2.mono hbel.size⟩
-- DIGIT --
theorem ref2_Digit (A : Option Addr) (n c x : Nat) (K : Int) (v : Nat) (w : World) (h : Dig .i64 65536 w A n c x) (hK : ∃ j : Nat, K = (j : Int) ∧ v = dg 65536 j x ∧ j ≤ 9223372036854775807) :
    Calls Try.prog 48 #[.slice A n c, .int .i64 K] w fun e w' => e = .returned (.int .i64 (v : Nat)) ∧ w = w' := by
  obtain ⟨j, rfl, rfl, hj⟩ := hK
  have m1 := h.max
  have m2 := h.cap
  go_enter Try.func48, Try.ntmps48
  by_cases hlt : j < n
  · obtain ⟨g, o, rfl, hg, hcell⟩ := h.at_ (by omega)
    have hcj := hcell j hlt
    have hjn : (j : Int) < (n : Int) := by omega
    have hjn0 : ¬ (j : Int) < 0 := by omega
    clear hcell
    go_wp2
    go_ret
    exact ⟨rfl, rfl⟩
  · have HX := Lib.hid (show dg 65536 j x = 0 from dg_of_lt (Nat.lt_of_lt_of_le h.lt (Nat.pow_le_pow_right (by decide) (by omega))))
    have hjn : (n : Int) ≤ (j : Int) := by omega
    go_wp2
    go_ret
    exact ⟨by rw [HX.out]; rfl, rfl⟩
end Go.Proofs.Ytflleaifmeiikaa
