/- The walks of package actuaryref01, second part: Mul, Sum, Less, Len, Trail. -/
import Derived.Test.YtnhcanpogmhjpaaRef1
namespace Go.Proofs.Ytnhcanpogmhjpaa
open Go.RowKit
theorem mul_low_lt {x y kk : Nat} (hx : x < W) (hk : kk ≤ 64) : x * low 2 kk y < 2 ^ 128 := by
  have h1 := low_bound (b := 2) (by decide) kk y
  have h2 : 2 ^ kk ≤ 2 ^ 64 := Nat.pow_le_pow_right (by decide) hk
  have h3 : x * low 2 kk y ≤ W * 2 ^ 64 := Nat.mul_le_mul (Nat.le_of_lt hx) (by omega)
  rcases Nat.eq_zero_or_pos (low 2 kk y) with h | h
  · rw [h, Nat.mul_zero]; decide
  · have h4 : x * low 2 kk y < W * low 2 kk y := Nat.mul_lt_mul_of_pos_right hx h
    have h5 : W * low 2 kk y ≤ W * 2 ^ 64 := Nat.mul_le_mul_left _ (by omega)
    exact Nat.lt_of_lt_of_le h4 (Nat.le_trans h5 (by decide))
set_option maxRecDepth 100000 in
set_option maxHeartbeats 1000000 in
theorem ref1_Mul (x y : Nat) (w : World) (hx : x < W) (hy : y < W) :
    Calls Try.prog 27 #[.int .u64 (x : Int), .int .u64 (y : Int)] w (RetDig .i64 2 w 128 (x * y)) := by
  go_enter Try.func27, Try.ntmps27
  go_wp2_with fail
  refine (ref1_Bits y _ hy).mono ?_
  rintro e w1 ⟨A, c, rfl, hdb, hb1, _⟩
  go_wp2_with fail
  go_loopw [5, 7] (fun out k wr => ∃ (kk n : Nat) (A' : Option Addr) (c' : Nat), kk ≤ 64 ∧ k = .int .i64 (kk : Int) ∧ out = .slice A' n c' ∧ Dig .i64 2 wr A' n c' (x * low 2 kk y) ∧ Below w.heap.size w wr ∧ Dig .i64 2 wr A 64 c y) (fun _ k _ => 64 - (intOf k).toNat)
  case atStart => exact ⟨0, 0, none, 0, by omega, rfl, rfl, by rw [low_nought]; exact Dig.nil _ _ _ _ (by omega), hb1, hdb⟩
  case round =>
    obtain ⟨kk, n, A', c', hk, rfl, rfl, hd, hbel, hdy⟩ := hrel
    clear hdb hb1
    by_cases hlt : kk < 64
    · obtain ⟨g, o, rfl, hg, hcell⟩ := hdy.at_ (by omega)
      have hc := hcell kk hlt
      clear hcell
      have hdl := dg_lt (b := 2) (by decide) kk y
      have hlow := low_next 2 kk y
      have m1 := hdy.max
      have m2 := hdy.cap
      have hP := mul_low_lt (x := x) (y := y) (kk := kk + 1) hx (by omega)
      by_cases hbit : dg 2 kk y = 1
      · rw [hbit] at hc hlow
        have e : low 2 128 (x * low 2 kk y + x * 2 ^ kk) = x * low 2 (kk + 1) y := by
          rw [← Nat.mul_add, show low 2 kk y + 2 ^ kk = low 2 (kk + 1) y by rw [← hlow, Nat.one_mul], low_all hP]
        have E := Lib.hid e
        clear e hlow hP hdl hbit
        go_wp2_with fail
        refine (ref1_Bits x _ hx).mono ?_
        rintro e w2 ⟨A2, c2, rfl, hd2, hb2, _⟩
        go_wp2_with fail
        refine (ref1_Shift A2 64 c2 x kk _ hd2 (by omega) (by omega)).mono ?_
        rintro e w3 ⟨A3, c3, rfl, hd3, hb3, _⟩
        go_wp2_with fail
        have hd' := (hd.below hb2 (Nat.le_refl _)).below hb3 (Nat.le_refl _)
        refine (ref1_Add A' n c' _ A3 _ c3 _ _ hd' hd3).mono ?_
        rintro e w4 ⟨A4, c4, rfl, hd4, hb4, _⟩
        rw [E.out] at hd4
        have hdy' := ((hdy.below hb2 (Nat.le_refl _)).below hb3 (Nat.le_refl _)).below hb4 (Nat.le_refl _)
        have hbel' := ((hbel.trans (hb2.mono hbel.size)).trans (hb3.mono (Nat.le_trans hbel.size hb2.size))).trans (hb4.mono (Nat.le_trans hbel.size (Nat.le_trans hb2.size hb3.size)))
        clear hd hd' hd2 hd3 hb2 hb3 hb4 hbel hdy
        go_wp2_with fail
        go_roundw
        case rel => exact ⟨kk + 1, _, A4, c4, by omega, by go_num, rfl, hd4, hbel', hdy'⟩
        case measure => simp [intOf]; omega
      · have hz : dg 2 kk y = 0 := by omega
        rw [hz] at hc hlow
        rw [Nat.zero_mul, Nat.add_zero] at hlow
        rw [hlow] at hd
        clear hlow hP hdl hbit hz
        go_wp2_with fail
        go_roundw
        case rel => exact ⟨kk + 1, _, A', c', by omega, by go_num, rfl, hd, hbel, hdy⟩
        case measure => simp [intOf]; omega
    · obtain rfl : kk = 64 := by omega
      rw [low_all (show y < 2 ^ 64 from hy)] at hd
      have hP := mul_low_lt (x := x) (y := y) (kk := 64) hx (by omega)
      rw [low_all (show y < 2 ^ 64 from hy)] at hP
      go_wp2_with fail
      refine (ref1_Add A' n c' _ none 0 0 0 _ hd (Dig.nil _ _ _ _ (by omega))).mono ?_
      rintro e w4 ⟨A4, c4, rfl, hd4, hb4, hf⟩
      rw [Nat.add_zero, low_all hP] at hd4
      go_wp2_with fail
      go_ret
      exact ⟨A4, c4, rfl, hd4, hbel.trans (hb4.mono hbel.size), hf.mono hbel.size⟩
theorem ref1_Len (x : Nat) (w : World) (hx : x < W) :
    Calls Try.prog 21 #[.int .u64 (x : Int)] w (Ret w (.int .i64 (blen x : Nat))) := by
  go_enter Try.func21, Try.ntmps21
  go_wp2_with fail
  refine (ref1_Bits x _ hx).mono ?_
  rintro e w1 ⟨A, c, rfl, hd, hb1, _⟩
  have m1 := hd.max
  have m2 := hd.cap
  obtain ⟨g, o, rfl, hg, hcell⟩ := hd.at_ (by omega)
  have HC := Lib.hid hcell
  clear hcell
  go_wp2_with fail
  go_loop [4] (fun k => ∃ kk : Nat, kk ≤ 64 ∧ k = .int .i64 ((kk : Int) - 1) ∧ x < 2 ^ kk) (fun k => (intOf k + 1).toNat)
  case atStart => exact ⟨64, by omega, rfl, hx⟩
  case round =>
    obtain ⟨kk, hk, rfl, hlt⟩ := hrel
    rcases kk with _ | j
    · have h0 : x = 0 := by simpa using hlt
      subst h0
      clear hlt
      go_wp2_with fail
      go_ret
      exact ⟨rfl, hb1⟩
    · rw [show ((j + 1 : Nat) : Int) - 1 = (j : Int) by omega]
      have hc := HC.out j (by omega)
      have hdl := dg_lt (b := 2) (by decide) j x
      have hs := low_next 2 j x
      rw [low_all hlt] at hs
      have hl := low_bound (b := 2) (by decide) j x
      by_cases hbit : dg 2 j x = 1
      · rw [hbit] at hc hs
        have hB : blen x = j + 1 := blen_unique hlt (fun _ => by rw [← hs]; simp)
        have HB := Lib.hid hB
        clear hB hs hl hdl hbit hlt
        go_wp2_with fail
        go_ret
        exact ⟨ret1 (by rw [HB.out]; omega), hb1⟩
      · have hz : dg 2 j x = 0 := by omega
        rw [hz] at hc hs
        have hlt' : x < 2 ^ j := by rw [← hs]; simpa using hl
        have HL := Lib.hid hlt'
        clear hs hl hdl hbit hz hlt hlt'
        go_wp2_with fail
        go_round
        case rel => exact ⟨j, by omega, by go_num, HL.out⟩
        case measure => simp [intOf]
theorem ref1_Trail (x : Nat) (w : World) (hx : x < W) :
    Calls Try.prog 24 #[.int .u64 (x : Int)] w (Ret w (.int .i64 (tz x : Nat))) := by
  go_enter Try.func24, Try.ntmps24
  go_wp2_with fail
  refine (ref1_Bits x _ hx).mono ?_
  rintro e w1 ⟨A, c, rfl, hd, hb1, _⟩
  have m1 := hd.max
  have m2 := hd.cap
  obtain ⟨g, o, rfl, hg, hcell⟩ := hd.at_ (by omega)
  have HC := Lib.hid hcell
  clear hcell
  go_wp2_with fail
  go_loop [4] (fun k => ∃ kk : Nat, kk ≤ 64 ∧ k = .int .i64 (kk : Int) ∧ low 2 kk x = 0) (fun k => 64 - (intOf k).toNat)
  case atStart => exact ⟨0, by omega, rfl, low_nought _ _⟩
  case round =>
    obtain ⟨kk, hk, rfl, hlow⟩ := hrel
    have hs := low_next 2 kk x
    rw [hlow, Nat.zero_add] at hs
    have hu := low_add_up 2 kk x
    rw [hlow, Nat.zero_add] at hu
    clear hlow
    by_cases h64 : kk < 64
    · have hc := HC.out kk (by omega)
      have hdl := dg_lt (b := 2) (by decide) kk x
      have hud : up 2 kk x % 2 = dg 2 kk x := up_mod _ _ _
      by_cases hbit : dg 2 kk x = 1
      · rw [hbit] at hc hud
        have hT : tz x = kk := by
          have e : x = 2 ^ kk * (2 * (up 2 kk x / 2) + 1) := by
            rw [show 2 * (up 2 kk x / 2) + 1 = up 2 kk x by omega, Nat.mul_comm]; exact hu.symm
          rw [e]; exact tz_odd kk _ (by rw [← e]; exact hx)
        have HT := Lib.hid hT
        clear hT hs hu hud hdl hbit
        go_wp2_with fail
        go_ret
        exact ⟨ret1 (by rw [HT.out]), hb1⟩
      · have hz : dg 2 kk x = 0 := by omega
        rw [hz] at hc hs
        have HL := Lib.hid (show low 2 (kk + 1) x = 0 by rw [← hs, Nat.zero_mul])
        clear hs hu hud hdl hbit hz
        go_wp2_with fail
        go_round
        case rel => exact ⟨kk + 1, by omega, by go_num, HL.out⟩
        case measure => simp [intOf]; omega
    · obtain rfl : kk = 64 := by omega
      have h0 : x = 0 := by
        have : up 2 64 x = 0 := Nat.div_eq_of_lt hx
        rw [← hu, this, Nat.zero_mul]
      subst h0
      clear hs hu
      go_wp2_with fail
      go_ret
      exact ⟨rfl, hb1⟩
theorem Dig.lit1 (w : World) (e : TypeId) (d : Nat) (hd : d < 2) : Dig .i64 2 (w.alloc (.cells #[.int .i64 (d : Int)] e)) (some ⟨w.heap.size, 0, none⟩) 1 1 d := by
  refine ⟨by simpa using hd, by omega, by omega, fun _ => ⟨w.heap.size, 0, rfl, by simp, fun j hj => ?_⟩⟩
  obtain rfl : j = 0 := by omega
  rw [show dg 2 0 d = d by unfold dg; rw [Nat.pow_zero, Nat.div_one, Nat.mod_eq_of_lt hd]]
  simp
theorem ref1_Sum (x y c : Nat) (w : World) (hx : x < W) (hy : y < W) (hc : c < W) :
    Calls Try.prog 16 #[.int .u64 (x : Int), .int .u64 (y : Int), .int .u64 (c : Int)] w (Ret w (.tuple #[.int .u64 (addLo x y c : Nat), .int .u64 (addHi x y c : Nat)])) := by
  have hcl := le_W hc
  have hc2 : c % 2 < 2 := Nat.mod_lt _ (by decide)
  have L1 : x + y < 2 ^ 128 := by
    have : W + W ≤ 2 ^ 128 := by decide
    omega
  have L2 : x + y + c % 2 < 2 ^ 128 := by
    have : W + W + 2 ≤ 2 ^ 128 := by decide
    omega
  have E1 := Lib.hid (low_all L1)
  have E2 := Lib.hid (low_all L2)
  have A1 := Lib.hid (show low 2 64 (x + y + c % 2) = addLo x y c by unfold low addLo; rw [W_eq])
  have A2 := Lib.hid (show low 2 64 (up 2 64 (x + y + c % 2)) = addHi x y c by
    unfold low up addHi; rw [← W_eq]
    exact Nat.mod_eq_of_lt (Nat.div_lt_of_lt_mul (Nat.lt_of_lt_of_le L2 (by decide))))
  clear L1 L2 hc
  go_enter Try.func16, Try.ntmps16
  go_wp2_with fail
  refine (ref1_Bits x _ hx).mono ?_
  rintro e w1 ⟨B1, c1, rfl, hd1, hb1, _⟩
  go_wp2_with fail
  refine (ref1_Bits y _ hy).mono ?_
  rintro e w2 ⟨B2, c2, rfl, hd2, hb2, _⟩
  go_wp2_with fail
  refine (ref1_Add B1 64 c1 x B2 64 c2 y _ (hd1.below hb2 (Nat.le_refl _)) hd2).mono ?_
  rintro e w3 ⟨B3, c3, rfl, hd3, hb3, _⟩
  rw [E1.out] at hd3
  go_wp2_with fail
  refine (ref1_Add B3 128 c3 _ (some ⟨w3.heap.size, 0, none⟩) 1 1 (c % 2) _ (hd3.alloc _) (Dig.lit1 w3 _ _ hc2)).mono ?_
  rintro e w4 ⟨B4, c4, rfl, hd4, hb4, _⟩
  rw [E2.out] at hd4
  have hbel : Below w.heap.size w w4 := ((((hb1.trans (hb2.mono hb1.size)).trans (hb3.mono (Nat.le_trans hb1.size hb2.size))).alloc (Nat.le_trans hb1.size (Nat.le_trans hb2.size hb3.size)) _).trans (hb4.mono (by have := hb1.size; have := hb2.size; have := hb3.size; simp; omega)))
  clear hb1 hb2 hb3 hb4 hd1 hd2 hd3
  go_wp2_with fail
  refine (ref1_Two B4 c4 _ _ hd4).mono ?_
  rintro e w5 ⟨rfl, n, rfl⟩
  rw [A1.out, A2.out]
  go_wp2_with fail
  go_ret2
  exact ⟨rfl, below_drewN hbel n⟩
/-! ### Less -/
/-- what is lacking at place k of a difference -/
def lack (k x y c : Nat) : Nat := if k = 0 then 0 else if low 2 k x < low 2 k y + c then 1 else 0
theorem lack_le (k x y c : Nat) : lack k x y c ≤ 1 := by
  unfold lack
  split
  · omega
  · split <;> omega
/-- the code's step: d is the digits' difference less what is lacking, the first one less c -/
theorem lack_step (k x y c : Nat) (hc : c ≤ 1) :
    ((dg 2 k x : Int) - dg 2 k y - lack k x y c - (if k = 0 then (c : Int) else 0) < 0 → lack (k + 1) x y c = 1) ∧
    (0 ≤ (dg 2 k x : Int) - dg 2 k y - lack k x y c - (if k = 0 then (c : Int) else 0) → lack (k + 1) x y c = 0) := by
  have h1 := low_next 2 k x
  have h2 := low_next 2 k y
  have b1 := low_bound (b := 2) (by decide) k x
  have b2 := low_bound (b := 2) (by decide) k y
  have d1 := dg_lt (b := 2) (by decide) k x
  have d2 := dg_lt (b := 2) (by decide) k y
  unfold lack
  rw [← h1, ← h2]
  have hx : dg 2 k x = 0 ∨ dg 2 k x = 1 := by omega
  have hy : dg 2 k y = 0 ∨ dg 2 k y = 1 := by omega
  by_cases hk : k = 0
  · subst hk
    simp only [Nat.pow_zero] at b1 b2
    rcases hx with e1 | e1 <;> rcases hy with e2 | e2 <;> rw [e1, e2] <;> simp <;> omega
  · have hp : 2 ≤ 2 ^ k := by
      have := Nat.pow_le_pow_right (n := 2) (by decide) (show 1 ≤ k by omega)
      simpa using this
    simp only [hk, if_false, Nat.add_eq_zero_iff, and_false, Nat.one_ne_zero]
    generalize 2 ^ k = p at *
    rcases hx with e1 | e1 <;> rcases hy with e2 | e2 <;> rw [e1, e2] <;> (constructor <;> intro h <;> (repeat' split at h) <;> (repeat' split) <;> first | rfl | omega | (simp at *; done) | (simp at *; omega))
/-- what stands in the answer's array after k places: the difference of the lowest k bits -/
def LessRel (k x y c b S : Nat) : Prop := b = lack k x y c ∧ S < 2 ^ k ∧ (k = 0 → S = 0) ∧ (k ≠ 0 → low 2 k x + 2 ^ k * b = S + low 2 k y + c)
theorem LessRel.start (x y c : Nat) : LessRel 0 x y c 0 0 := ⟨rfl, by decide, fun _ => rfl, fun h => absurd rfl h⟩
theorem LessRel.step {k x y c b S : Nat} (hc : c ≤ 1) (h : LessRel k x y c b S) (D : Int) (hD : D = (dg 2 k x : Int) - dg 2 k y - b - (if k = 0 then (c : Int) else 0)) :
    -2 ≤ D ∧ D ≤ 1 ∧ (0 ≤ D → LessRel (k + 1) x y c 0 (S + D.toNat * 2 ^ k)) ∧ (D < 0 → LessRel (k + 1) x y c 1 (S + (D + 2).toNat * 2 ^ k)) := by
  obtain ⟨h1, h2, h3, h4⟩ := h
  have ls := lack_step k x y c hc
  rw [← h1, ← hD] at ls
  have hb : b ≤ 1 := by rw [h1]; exact lack_le k x y c
  have d1 := dg_lt (b := 2) (by decide) k x
  have d2 := dg_lt (b := 2) (by decide) k y
  have e1 := low_next 2 k x
  have e2 := low_next 2 k y
  have hlo : -2 ≤ D ∧ D ≤ 1 := by
    by_cases hk : k = 0
    · subst hk
      have hb0 : b = 0 := by rw [h1]; rfl
      rw [hD, hb0]; simp; omega
    · rw [hD, if_neg hk]; omega
  refine ⟨hlo.1, hlo.2, fun h => ⟨(ls.2 h).symm, add_lt_succ h2 (by omega), by omega, fun _ => ?_⟩, fun h => ⟨(ls.1 h).symm, add_lt_succ h2 (by omega), by omega, fun _ => ?_⟩⟩
  · obtain ⟨d, hd⟩ := Int.eq_ofNat_of_zero_le h
    rw [hd, Int.toNat_natCast, ← e1, ← e2]
    rw [hd] at hD
    by_cases hk : k = 0
    · subst hk
      have hb0 : b = 0 := by rw [h1]; rfl
      have hS := h3 rfl
      rw [low_nought, low_nought, hS]
      simp only [hb0, if_true] at hD
      simp; omega
    · have h4 := h4 hk
      rw [if_neg hk] at hD
      have e : dg 2 k x = d + dg 2 k y + b := by omega
      rw [e, Nat.add_mul, Nat.add_mul, Nat.mul_comm b]
      simp; omega
  · obtain ⟨d, hd⟩ := Int.eq_ofNat_of_zero_le (show 0 ≤ D + 2 by omega)
    rw [hd, Int.toNat_natCast, ← e1, ← e2]
    by_cases hk : k = 0
    · subst hk
      have hb0 : b = 0 := by rw [h1]; rfl
      have hS := h3 rfl
      rw [low_nought, low_nought, hS]
      simp only [hb0, if_true] at hD
      simp; omega
    · have h4 := h4 hk
      rw [if_neg hk] at hD
      have e : dg 2 k x + 2 = d + dg 2 k y + b := by omega
      have e3 : (dg 2 k x + 2) * 2 ^ k = (d + dg 2 k y + b) * 2 ^ k := by rw [e]
      rw [Nat.add_mul, Nat.add_mul, Nat.add_mul, Nat.mul_comm b] at e3
      rw [Nat.pow_succ]
      omega
theorem LessRel.fin {x y c b S : Nat} (hx : x < W) (hy : y < W) (h : LessRel 64 x y c b S) (C : Nat) (hC : C % 2 = c) : S = subLo x y C ∧ b = subHi x y C ∧ S < W := by
  obtain ⟨h1, h2, _, h4⟩ := h
  have h4 := h4 (by decide)
  rw [low_all (show x < 2 ^ 64 from hx), low_all (show y < 2 ^ 64 from hy)] at h4
  have hs := sub_split x y C hx hy
  have hl := subLo_lt x y C
  have hh := subHi_le x y C
  have hb : b ≤ 1 := by rw [h1]; exact lack_le _ x y c
  rw [hC] at hs
  have hS : S < W := h2
  rw [show (2 : Nat) ^ 64 = W from rfl] at h4
  generalize subLo x y C = l at *
  generalize subHi x y C = u at *
  have hb' : b = 0 ∨ b = 1 := by omega
  have hu' : u = 0 ∨ u = 1 := by omega
  rcases hb' with rfl | rfl <;> rcases hu' with rfl | rfl <;> refine ⟨?_, ?_, hS⟩ <;> omega
set_option maxRecDepth 100000 in
set_option maxHeartbeats 2000000 in
theorem ref1_Less (x y C : Nat) (w : World) (hx : x < W) (hy : y < W) (hC : C < W) :
    Calls Try.prog 18 #[.int .u64 (x : Int), .int .u64 (y : Int), .int .u64 (C : Int)] w (Ret w (.tuple #[.int .u64 (subLo x y C : Nat), .int .u64 (subHi x y C : Nat)])) := by
  obtain ⟨i0, hi, hz0, hz1, hz2⟩ := info_parts info_int
  have hcl := le_W hC
  obtain ⟨cc, hcc⟩ : ∃ cc, cc = C % 2 := ⟨_, rfl⟩
  have hc1 : cc ≤ 1 := by omega
  have ec : (C : Int) % 2 = (cc : Int) := by omega
  have HCC := Lib.hid hcc
  clear hcc hC
  go_enter Try.func18, Try.ntmps18
  go_wp2_with (at_make; refine wpList_make_full _ rfl _ _ 33 rfl w.heap.size 3 i0 (.int .i64 0) 1 Try.underlying33 hi hz0 hz1 .i64 .i64 64 64 64 rfl rfl rfl rfl (by omega) (by unfold maxLen; omega) (Nat.le_refl _) ?_)
  intro w1 hown hgrow
  rw [made_dl .i64 2] at hown
  have hb0 : Below w.heap.size w w1 := (Below.refl _ _).grown hgrow (Nat.le_refl _) (fun _ h => by cases h)
  have hG := (hown.lt _ rfl).2
  go_wp2_with fail
  refine (ref1_Bits x _ hx).mono ?_
  rintro e w2 ⟨A2, c2, rfl, hd2, hb2, hf2⟩
  go_wp2_with fail
  refine (ref1_Bits y _ hy).mono ?_
  rintro e w3 ⟨A3, c3, rfl, hd3, hb3, hf3⟩
  go_wp2_with fail
  have hdx0 := hd2.below hb3 (Nat.le_refl _)
  have hbel0 : Below w.heap.size w w3 := (hb0.trans (hb2.mono (by omega))).trans (hb3.mono (Nat.le_trans hb0.size hb2.size))
  have hown0 := own_below (own_below hown hb2) hb3
  have hf3' := hf3.mono hb2.size
  have m1 := hdx0.max
  have m2 := hdx0.cap
  have m3 := hd3.max
  have m4 := hd3.cap
  clear hown hb0 hgrow hb2 hb3 hd2
  go_loopw [8, 12, 13] (fun b k _ wr => ∃ kk bb S : Nat, kk ≤ 64 ∧ k = .int .i64 (kk : Int) ∧ b = .int .i64 (bb : Int) ∧ LessRel kk x y cc bb S ∧ wr.ownsRow w.heap.size 3 1 (.slice (some ⟨w.heap.size, 0, none⟩) 64 64) 64 (dl .i64 2 64 S) ∧ Below w.heap.size w wr ∧ Dig .i64 2 wr A2 64 c2 x ∧ Dig .i64 2 wr A3 64 c3 y) (fun _ k _ _ => 64 - (intOf k).toNat)
  case atStart => exact ⟨0, 0, 0, by omega, rfl, rfl, LessRel.start _ _ _, hown0, hbel0, hdx0, hd3⟩
  case round =>
    obtain ⟨kk, bb, S, hk, rfl, rfl, hrel, hown, hbel, hdx, hdy⟩ := hrel
    clear hdx0 hd3 hown0 hbel0
    by_cases hlt : kk < 64
    · have hcw := hown.cellAt kk (by omega)
      rw [dl_get _ _ _ _ _ hlt] at hcw
      have hfz := hown.frozenAt kk
      obtain ⟨g2, o2, rfl, hg2, hcx⟩ := hdx.at_ (by omega)
      obtain ⟨g3, o3, rfl, hg3, hcy⟩ := hdy.at_ (by omega)
      have hcx := hcx kk hlt
      have hcy := hcy kk hlt
      have hb1 : bb ≤ 1 := by rw [hrel.1]; exact lack_le _ _ _ _
      have d1 := dg_lt (b := 2) (by decide) kk x
      have d2 := dg_lt (b := 2) (by decide) kk y
      obtain ⟨D1, hD1⟩ : ∃ D1 : Int, D1 = (dg 2 kk x : Int) - dg 2 kk y := ⟨_, rfl⟩
      obtain ⟨D2, hD2⟩ : ∃ D2 : Int, D2 = D1 - bb := ⟨_, rfl⟩
      have q1 : IntKind.i64.wrap ((dg 2 kk x : Int) - dg 2 kk y) = D1 := by rw [IntWalk.i64_in _ (by omega)]; exact hD1.symm
      have q2 : IntKind.i64.wrap (D1 - bb) = D2 := by rw [IntWalk.i64_in _ (by omega)]; exact hD2.symm
      have B1 : -2 ≤ D2 ∧ D2 ≤ 1 := by omega
      obtain ⟨B1, B2⟩ := B1
      have HREL := Lib.hid hrel
      have Q := Lib.hid (show D2 = (dg 2 kk x : Int) - dg 2 kk y - bb by omega)
      clear hrel hD1 hD2
      have hkb : (kk : Int) < 64 := by omega
      go_wp2_with fail
      go_quiet (fail)
      clear q1 q2
      have hbel := below_drewN hbel nq
      have hown := own_drewN hown nq
      have hdx := hdx.drewN nq
      have hdy := hdy.drewN nq
      by_cases hk0 : kk = 0
      · have hkB : ((kk : Int) == 0) = true := by simp [hk0]
        obtain ⟨D, hD⟩ : ∃ D : Int, D = D2 - cc := ⟨_, rfl⟩
        have B3 : -3 ≤ D := by omega
        have B4 : D ≤ 1 := by omega
        have q3 : D2 - (cc : Int) = D := hD.symm
        have ST := Lib.hid (LessRel.step hc1 HREL.out D (by rw [hD, Q.out, if_pos hk0]))
        have HK := Lib.hid hk0
        clear hk0 hD
        go_wp2_with fail
        go_loop [8, 13] (fun b d => (b = .int .i64 0 ∧ d = .int .i64 D) ∨ (D < 0 ∧ b = .int .i64 1 ∧ d = .int .i64 (D + 2))) (fun _ d => (2 - intOf d).toNat)
        case atStart => exact .inl ⟨rfl, rfl⟩
        case round =>
          rcases hrel with ⟨rfl, rfl⟩ | ⟨hneg, rfl, rfl⟩
          · by_cases hneg : D < 0
            · go_wp2_with fail
              go_round
              case rel => exact .inr ⟨hneg, rfl, rfl⟩
              case measure => simp [intOf]; omega
            · have hpos : 0 ≤ D := by omega
              clear hneg
              obtain ⟨dd, hdd⟩ := Int.eq_ofNat_of_zero_le (show 0 ≤ D by omega)
              have REL := ST.out.2.2.1 (by omega)
              rw [hdd, Int.toNat_natCast] at REL
              have hown' := (hown.stored kk (.int .i64 (dd : Int))).1
              rw [dl_set (by decide) hlt (by omega), put_top HREL.out.2.1] at hown'
              have hbel' := hbel.setCell (p := ⟨w.heap.size, kk, none⟩) (Nat.le_refl _) (.int .i64 (dd : Int))
              have hx' := hdx.far (p := ⟨w.heap.size, kk, none⟩) (fun a ha => by have := hf2 a ha; show a.block ≠ w.heap.size; omega) (.int .i64 (dd : Int))
              have hy' := hdy.far (p := ⟨w.heap.size, kk, none⟩) (fun a ha => by have := hf3' a ha; show a.block ≠ w.heap.size; omega) (.int .i64 (dd : Int))
              rw [hdd]
              have HDD := Lib.hid hdd
              clear hdd
              go_wp2_with fail
              go_roundw
              case rel => exact ⟨kk + 1, 0, _, by omega, by go_num, rfl, REL, hown', hbel', hx', hy'⟩
              case measure => simp [intOf]; have := HK.out; omega
          · have hpos : 0 ≤ D + 2 := by have := ST.out.1; omega
            obtain ⟨dd, hdd⟩ := Int.eq_ofNat_of_zero_le (show 0 ≤ D + 2 by omega)
            have REL := ST.out.2.2.2 hneg
            rw [hdd, Int.toNat_natCast] at REL
            have hown' := (hown.stored kk (.int .i64 (dd : Int))).1
            rw [dl_set (by decide) hlt (by omega), put_top HREL.out.2.1] at hown'
            have hbel' := hbel.setCell (p := ⟨w.heap.size, kk, none⟩) (Nat.le_refl _) (.int .i64 (dd : Int))
            have hx' := hdx.far (p := ⟨w.heap.size, kk, none⟩) (fun a ha => by have := hf2 a ha; show a.block ≠ w.heap.size; omega) (.int .i64 (dd : Int))
            have hy' := hdy.far (p := ⟨w.heap.size, kk, none⟩) (fun a ha => by have := hf3' a ha; show a.block ≠ w.heap.size; omega) (.int .i64 (dd : Int))
            rw [hdd]
            have HDD := Lib.hid hdd
            clear hdd
            go_wp2_with fail
            go_roundw
            case rel => exact ⟨kk + 1, 1, _, by omega, by go_num, rfl, REL, hown', hbel', hx', hy'⟩
            case measure => simp [intOf]; have := HK.out; omega
      · have hkB : ((kk : Int) == 0) = false := by simp [hk0]
        obtain ⟨D, hD⟩ : ∃ D : Int, D = D2 := ⟨_, rfl⟩
        have ST := Lib.hid (LessRel.step hc1 HREL.out D (by rw [hD, Q.out, if_neg hk0]; simp))
        have HK := Lib.hid hk0
        clear hk0
        subst hD
        go_wp2_with fail
        go_loop [8, 13] (fun b d => (b = .int .i64 0 ∧ d = .int .i64 D) ∨ (D < 0 ∧ b = .int .i64 1 ∧ d = .int .i64 (D + 2))) (fun _ d => (2 - intOf d).toNat)
        case atStart => exact .inl ⟨rfl, rfl⟩
        case round =>
          rcases hrel with ⟨rfl, rfl⟩ | ⟨hneg, rfl, rfl⟩
          · by_cases hneg : D < 0
            · go_wp2_with fail
              go_round
              case rel => exact .inr ⟨hneg, rfl, rfl⟩
              case measure => simp [intOf]; omega
            · have hpos : 0 ≤ D := by omega
              clear hneg
              obtain ⟨dd, hdd⟩ := Int.eq_ofNat_of_zero_le (show 0 ≤ D by omega)
              have REL := ST.out.2.2.1 (by omega)
              rw [hdd, Int.toNat_natCast] at REL
              have hown' := (hown.stored kk (.int .i64 (dd : Int))).1
              rw [dl_set (by decide) hlt (by omega), put_top HREL.out.2.1] at hown'
              have hbel' := hbel.setCell (p := ⟨w.heap.size, kk, none⟩) (Nat.le_refl _) (.int .i64 (dd : Int))
              have hx' := hdx.far (p := ⟨w.heap.size, kk, none⟩) (fun a ha => by have := hf2 a ha; show a.block ≠ w.heap.size; omega) (.int .i64 (dd : Int))
              have hy' := hdy.far (p := ⟨w.heap.size, kk, none⟩) (fun a ha => by have := hf3' a ha; show a.block ≠ w.heap.size; omega) (.int .i64 (dd : Int))
              rw [hdd]
              have HDD := Lib.hid hdd
              clear hdd
              go_wp2_with fail
              go_roundw
              case rel => exact ⟨kk + 1, 0, _, by omega, by go_num, rfl, REL, hown', hbel', hx', hy'⟩
              case measure => simp [intOf]; have := HK.out; omega
          · have hpos : 0 ≤ D + 2 := by have := ST.out.1; omega
            obtain ⟨dd, hdd⟩ := Int.eq_ofNat_of_zero_le (show 0 ≤ D + 2 by omega)
            have REL := ST.out.2.2.2 hneg
            rw [hdd, Int.toNat_natCast] at REL
            have hown' := (hown.stored kk (.int .i64 (dd : Int))).1
            rw [dl_set (by decide) hlt (by omega), put_top HREL.out.2.1] at hown'
            have hbel' := hbel.setCell (p := ⟨w.heap.size, kk, none⟩) (Nat.le_refl _) (.int .i64 (dd : Int))
            have hx' := hdx.far (p := ⟨w.heap.size, kk, none⟩) (fun a ha => by have := hf2 a ha; show a.block ≠ w.heap.size; omega) (.int .i64 (dd : Int))
            have hy' := hdy.far (p := ⟨w.heap.size, kk, none⟩) (fun a ha => by have := hf3' a ha; show a.block ≠ w.heap.size; omega) (.int .i64 (dd : Int))
            rw [hdd]
            have HDD := Lib.hid hdd
            clear hdd
            go_wp2_with fail
            go_roundw
            case rel => exact ⟨kk + 1, 1, _, by omega, by go_num, rfl, REL, hown', hbel', hx', hy'⟩
            case measure => simp [intOf]; have := HK.out; omega
    · obtain rfl : kk = 64 := by omega
      obtain ⟨f1, f2, f3⟩ := hrel.fin hx hy C HCC.out.symm
      have hdig : Dig .i64 2 wr (some ⟨w.heap.size, 0, none⟩) 64 64 S := by
        obtain ⟨A, c, hv, hd, _⟩ := own_form hown f3
        cases hv
        exact hd
      have F1 := Lib.hid f1
      have F2 := Lib.hid f2
      have hb1 : bb ≤ 1 := by rw [hrel.1]; exact lack_le _ _ _ _
      clear f1 f2 hrel
      go_wp2_with fail
      refine (ref1_Word _ _ _ _ _ hdig).mono ?_
      rintro e w5 ⟨rfl, rfl⟩
      rw [low_all (show S < 2 ^ 64 from f3), F1.out]
      go_wp2_with fail
      go_ret2
      exact ⟨by rw [F2.out]; rfl, hbel⟩
end Go.Proofs.Ytnhcanpogmhjpaa
