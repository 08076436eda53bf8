/- Plain law of multiplication: a word added into a number's digits; the school's way row by row; cut in two. No program in sight.
   The walks of package prod, first part: a number by a word.
   The walks of package prod, second part: cut, raised.
   The walks of package prod, third part: school. -/
import Derived.Test.YtfgcjpokgolddaaKA
import Derived.Test.YtfgcjpokgolddaaKB
import Derived.Test.YtfgcjpokgolddaaKD
set_option linter.unusedVariables false
set_option linter.unusedSimpArgs false
namespace Go.Proofs.Ytfgcjpokgolddaa
theorem put_add (b i x d : Nat) : put b i x d + dg b i x * b ^ i = x + d * b ^ i := by
  have h := put_split b i x
  unfold put
  omega
theorem up_put {b i x d : Nat} (hb : 0 < b) (hd : d < b) : up b (i + 1) (put b i x d) = up b (i + 1) x := by
  have hs := add_lt_succ (low_lt hb i x) hd
  unfold put up
  rw [Nat.add_mul_div_right _ _ (Nat.pow_pos hb), Nat.div_eq_of_lt hs, Nat.zero_add]
theorem dg_of_up {b i x y : Nat} (h : up b i x = up b i y) : dg b i x = dg b i y := by
  rw [← up_mod, ← up_mod, h]
theorem up_succ_of {b i x y : Nat} (h : up b i x = up b i y) : up b (i + 1) x = up b (i + 1) y := by
  rw [← up_succ, ← up_succ, h]
theorem up_eq_zero {b i x : Nat} (h : x < b ^ i) : up b i x = 0 := Nat.div_eq_of_lt h
theorem lt_of_up_zero {b i x : Nat} (hb : 0 < b) (h : up b i x = 0) : x < b ^ i := by
  unfold up at h
  rcases Nat.lt_or_ge x (b ^ i) with h0 | h0
  · exact h0
  · have := Nat.div_pos h0 (Nat.pow_pos hb); omega
/-- one place of a row: D times a digit of y, and what goes over, added into place i + k -/
theorem school_step {i k O ov P D y : Nat} (hD : D < W) (hov : ov < W) (h : O + ov * W ^ (i + k) = P + D * low W k y * W ^ i) (hu : up W (i + k) O = up W (i + k) P) :
    put W (i + k) O (maLo D (dg W k y) (dg W (i + k) O) ov) + maHi D (dg W k y) (dg W (i + k) O) ov * W ^ (i + (k + 1)) = P + D * low W (k + 1) y * W ^ i ∧
    up W (i + (k + 1)) (put W (i + k) O (maLo D (dg W k y) (dg W (i + k) O) ov)) = up W (i + (k + 1)) P := by
  have hs := ma_split D (dg W k y) (dg W (i + k) O) ov
  have hl := maLo_lt D (dg W k y) (dg W (i + k) O) ov
  generalize maLo D (dg W k y) (dg W (i + k) O) ov = lo at *
  generalize maHi D (dg W k y) (dg W (i + k) O) ov = hi at *
  refine ⟨?_, ?_⟩
  · have hp := put_add W (i + k) O lo
    have hm := congrArg (· * W ^ (i + k)) hs
    simp only [Nat.add_mul] at hm
    have e1 : hi * W ^ (i + (k + 1)) = W * hi * W ^ (i + k) := by
      rw [← Nat.add_assoc, Nat.pow_succ, Nat.mul_comm W hi, Nat.mul_assoc, Nat.mul_comm W]
    have e2 : D * low W (k + 1) y * W ^ i = D * low W k y * W ^ i + D * dg W k y * W ^ (i + k) := by
      rw [← low_next, Nat.mul_add, Nat.add_mul, Nat.pow_add, Nat.mul_comm (W ^ i) (W ^ k)]
      simp only [Nat.mul_assoc]
    rw [e1, e2]
    omega
  · rw [show i + (k + 1) = i + k + 1 from rfl, up_put W_pos hl]
    exact up_succ_of hu
/-- a row's end: what goes over is laid above -/
theorem school_end {i m O ov P D y : Nat} (hP : P < W ^ (i + m)) (hov : ov < W) (hy : y < W ^ m) (h : O + ov * W ^ (i + m) = P + D * low W m y * W ^ i) (hu : up W (i + m) O = up W (i + m) P) :
    put W (i + m) O ov = P + D * y * W ^ i := by
  rw [low_all hy] at h
  rw [up_eq_zero hP] at hu
  have hO := lt_of_up_zero W_pos hu
  rw [put_top hO, h]
theorem school_next {i x y : Nat} : low W i x * y + dg W i x * y * W ^ i = low W (i + 1) x * y := by
  rw [← low_next, Nat.add_mul]
  simp only [Nat.mul_assoc, Nat.mul_comm y]
theorem school_row_lt {i m x y : Nat} (hy : y < W ^ m) : low W i x * y < W ^ (i + m) := by
  rw [Nat.pow_add]
  have h1 := low_bound W_pos i x
  exact Nat.lt_of_le_of_lt (Nat.mul_le_mul_right _ (Nat.le_of_lt h1)) (Nat.mul_lt_mul_of_pos_left hy (Nat.pow_pos W_pos))
theorem mul_lt_pow {x y n m : Nat} (hx : x < W ^ n) (hy : y < W ^ m) : x * y < W ^ (n + m) := by
  rw [Nat.pow_add]
  exact Nat.lt_of_le_of_lt (Nat.mul_le_mul_right _ (Nat.le_of_lt hx)) (Nat.mul_lt_mul_of_pos_left hy (by omega))
/-- a number by a word -/
theorem byword_step (k x m add : Nat) : (dg W k x * m + (low W k x * m + add) / W ^ k + 0) % W = dg W k (x * m + add) ∧ (dg W k x * m + (low W k x * m + add) / W ^ k + 0) / W = (low W (k + 1) x * m + add) / W ^ (k + 1) := by
  have hp : 0 < W ^ k := Nat.pow_pos W_pos
  have e1 : low W (k + 1) x * m + add = (low W k x * m + add) + W ^ k * (dg W k x * m) := by
    rw [← low_next, Nat.add_mul, Nat.mul_comm (dg W k x) (W ^ k), Nat.mul_assoc]; omega
  have e2 : x * m + add = (low W k x * m + add) + W ^ k * (up W k x * m) := by
    have h : x = low W k x + W ^ k * up W k x := (Nat.mod_add_div x (W ^ k)).symm
    conv => lhs; rw [h]
    rw [Nat.add_mul, Nat.mul_assoc]; omega
  rw [Nat.add_zero, Nat.add_comm (dg W k x * m)]
  constructor
  · rw [e2]
    unfold dg
    rw [Nat.add_mul_div_left _ _ hp]
    have h : up W k x = dg W k x + W * up W (k + 1) x := by
      unfold dg; rw [← up_succ]; exact (Nat.mod_add_div _ _).symm
    unfold dg at h
    rw [h, Nat.add_mul, Nat.mul_assoc, ← Nat.add_assoc, Nat.add_mul_mod_self_left]
  · rw [e1, Nat.pow_succ, ← Nat.div_div_eq_div_mul, Nat.add_mul_div_left _ _ hp]
theorem byword_over {k x m add : Nat} (hm : m < W) (ha : add < W) : (low W k x * m + add) / W ^ k < W := by
  have hp : 0 < W ^ k := Nat.pow_pos W_pos
  have h1 := low_bound W_pos k x
  apply Nat.div_lt_of_lt_mul
  have h2 : (low W k x + 1) * m ≤ W ^ k * m := Nat.mul_le_mul_right _ h1
  have h3 : W ^ k * (m + 1) ≤ W ^ k * W := Nat.mul_le_mul_left _ hm
  rw [Nat.add_mul] at h2
  rw [Nat.mul_add] at h3
  rcases Nat.eq_zero_or_pos m with h0 | h0
  · subst h0
    have : W ^ k * 1 ≤ W ^ k * W := Nat.mul_le_mul_left _ (by decide)
    have : 1 * W ≤ W ^ k * W := Nat.mul_le_mul_right _ hp
    omega
  · rcases Nat.eq_zero_or_pos k with hk | hk
    · subst hk
      rw [low_nought]; simp; omega
    · have : W ^ 1 ≤ W ^ k := Nat.pow_le_pow_right W_pos hk
      rw [Nat.pow_one] at this
      omega
/-- cut in two: three products for four -/
theorem kara (x0 x1 y0 y1 B : Nat) : x0 * y0 + (((x0 + x1) * (y0 + y1) - (x0 * y0 + x1 * y1)) * B + x1 * y1 * (B * B)) = (x0 + x1 * B) * (y0 + y1 * B) := by
  have e : (x0 + x1) * (y0 + y1) - (x0 * y0 + x1 * y1) = x0 * y1 + x1 * y0 := by
    rw [Nat.add_mul, Nat.mul_add, Nat.mul_add]; omega
  rw [e]
  simp only [Nat.mul_add, Nat.mul_assoc, Nat.mul_comm, Nat.mul_left_comm]
  omega
theorem kara_le (x0 x1 y0 y1 : Nat) : x0 * y0 + x1 * y1 ≤ (x0 + x1) * (y0 + y1) := by
  rw [Nat.add_mul, Nat.mul_add, Nat.mul_add]; omega
theorem kara_mid (x0 x1 y0 y1 B : Nat) : ((x0 + x1) * (y0 + y1) - (x0 * y0 + x1 * y1)) * B ≤ (x0 + x1 * B) * (y0 + y1 * B) := by
  rw [← kara]; omega
theorem kara_hi (x0 x1 y0 y1 B : Nat) : x1 * y1 * (B * B) ≤ (x0 + x1 * B) * (y0 + y1 * B) := by
  rw [← kara]; omega
end Go.Proofs.Ytfgcjpokgolddaa
set_option linter.unusedVariables false
set_option linter.unusedSimpArgs false
namespace Go.Proofs.Ytfgcjpokgolddaa
open Go.RowKit
set_option maxRecDepth 100000
theorem byword_fit {x m add n : Nat} (hx : x < W ^ n) (hm : m < W) (ha : add < W) : x * m + add < W ^ (n + 1) := by
  have h := byword_over (k := n) (x := x) hm ha
  rw [low_all hx] at h
  have hp : 0 < W ^ n := Nat.pow_pos W_pos
  rw [Nat.pow_succ, Nat.mul_comm (W ^ n)]
  exact (Nat.div_lt_iff_lt_mul hp).1 h
set_option maxHeartbeats 1000000 in
theorem prod_ByWord (A : Option Addr) (n c x m add : Nat) (w : World) (h : NatAt w A n c x) (hm : m < W) (ha : add < W) (hn : n ≤ 17592186044415) :
    Calls Try.prog 26 #[.agg #[.slice A n c], .int .u64 (m : Nat), .int .u64 (add : Nat)] w (RetNat w (x * m + add)) := by
  obtain ⟨i0, hi, hz0, hz1, hz2⟩ := info_parts info_u64
  have m1 := h.1.max
  have m2 := h.1.cap
  have hfit := byword_fit h.lt hm ha
  have HF := Lib.hid hfit
  have B0 := (Blk1.new w 25 (.slice A n c)).alloc (.cells #[.slice none 0 0] 25)
  have B1 := Blk1.new (w.alloc (.cells #[.slice A n c] 25)) 25 (.slice none 0 0)
  simp only [World.size_alloc] at B1
  clear hfit
  go_enter Try.func26, Try.ntmps26
  go_wp2_with fail
  refine (nat_Len A n c _).mono ?_
  rintro e w1 ⟨rfl, hb1⟩
  have X0 := B0.to hb1
  have X1 := B1.to hb1
  have hbel : Below w.heap.size w w1 := nx (nxa (nxa (Below.refl _ _) _) _) hb1
  have hs1 : w.heap.size + 1 + 1 ≤ w1.heap.size := by have := hb1.size; simpa using this
  clear hb1
  go_wp2_with (at_make; refine wpList_make_full _ rfl _ _ 22 rfl w1.heap.size 52 i0 (.int .u64 0) 1 Try.underlying22 hi hz0 hz1 .i64 .i64 _ _ (n + 1) rfl rfl (by omega) (by omega) (by rw [hz2]; omega) (by unfold maxLen; omega) (Nat.le_refl _) ?_)
  intro w2 hown hgrow
  rw [made_dl .u64 W] at hown
  have hb2 := below_of_none hgrow
  have Y0 := X0.to hb2
  have Y1 := X1.to hb2
  have hbel2 := nx hbel hb2
  obtain ⟨G, hG⟩ : ∃ G, G = w1.heap.size := ⟨_, rfl⟩
  have hGs : w.heap.size + 1 + 1 ≤ G := by omega
  rw [← hG] at hown ⊢
  clear hgrow hb2 hG hbel X0 X1 hs1
  have c0 := Y0.cell
  go_wp2_with fail
  refine (nat_Len A n c _).mono ?_
  rintro e w3 ⟨rfl, hb3⟩
  have hown3 := own_below hown hb3
  have Z0 := Y0.to hb3
  have Z1 := Y1.to hb3
  have hbel3 := nx hbel2 hb3
  clear hb3 hbel2 Y0 Y1 hown c0
  go_wp2_with fail
  go_loopw [2, 8, 15] (fun ad _ k wr => ∃ kk q : Nat, kk ≤ n ∧ k = .int .i64 (kk : Int) ∧ ad = .int .u64 (q : Nat) ∧ q = (low W kk x * m + add) / W ^ kk ∧ wr.ownsRow G 52 1 (.slice (some ⟨G, 0, none⟩) (n + 1) (n + 1)) (n + 1) (dl .u64 W (n + 1) (low W kk (x * m + add))) ∧ Below w.heap.size w wr ∧ Blk1 wr w.heap.size 25 (.slice A n c) ∧ Blk1 wr (w.heap.size + 1) 25 (.slice none 0 0)) (fun _ _ k _ => n - (intOf k).toNat)
  case atStart => exact ⟨0, add, Nat.zero_le _, rfl, rfl, by rw [low_nought]; simp, by rw [low_nought]; exact hown3, hbel3, Z0, Z1⟩
  case round =>
    clear hown3 hbel3 Z0 Z1
    obtain ⟨kk, q, hk, rfl, rfl, hq, hown, hbel, X0, X1⟩ := hrel
    by_cases hlt : kk < n
    · have hqw : q < W := by rw [hq]; exact byword_over hm ha
      obtain ⟨s1, s2⟩ := byword_step kk x m add
      rw [← hq] at s1 s2
      have S1 := Lib.hid (show maLo (dg W kk x) m q 0 = dg W kk (x * m + add) from s1)
      have S2 := Lib.hid (show maHi (dg W kk x) m q 0 = (low W (kk + 1) x * m + add) / W ^ (kk + 1) from s2)
      have d1 := dg_lt W_pos kk x
      have kM : kk ≤ 9223372036854775807 := by omega
      have kN : (kk : Int) < (n : Int) := by omega
      have hx := h.below hbel (Nat.le_refl _)
      have hz : (0 : Nat) < W := W_pos
      have c0 := X0.cell
      clear s1 s2 hq
      go_wp2_with fail
      refine (nat_Word A n c x kk _ hx kM).mono ?_
      rintro e w4 ⟨rfl, hb4⟩
      go_wp2_with fail
      refine (word_MulAdd _ m q 0 _ d1 hm hqw hz).mono ?_
      rw [S1.out, S2.out]
      rintro e w5 ⟨rfl, rfl⟩
      have ho4 := own_below hown hb4
      have c4 := ho4.cellAt kk (by omega)
      rw [dl_get _ _ _ _ _ (by omega)] at c4
      have f4 := ho4.frozenAt kk
      have ho := (ho4.stored kk (.int .u64 (dg W kk (x * m + add) : Nat))).1
      rw [dl_set W_pos (by omega) (dg_lt W_pos _ _), put_top (low_bound W_pos _ _), low_next] at ho
      have hbel' := (nx hbel hb4).setCell (p := ⟨G, kk, none⟩) (by show w.heap.size ≤ G; omega) (.int .u64 (dg W kk (x * m + add) : Nat))
      have Y0 := (X0.to hb4).far (p := ⟨G, kk, none⟩) (by show _ ≠ G; omega) (.int .u64 (dg W kk (x * m + add) : Nat))
      have Y1 := (X1.to hb4).far (p := ⟨G, kk, none⟩) (by show _ ≠ G; omega) (.int .u64 (dg W kk (x * m + add) : Nat))
      clear hown hbel X0 X1 hb4 ho4 c0 hx
      go_wp2_with fail
      go_roundw
      case rel => exact ⟨kk + 1, (low W (kk + 1) x * m + add) / W ^ (kk + 1), by omega, by go_num, rfl, rfl, ho, hbel', Y0, Y1⟩
      case measure => simp [intOf]; omega
    · obtain rfl : kk = n := by omega
      rw [low_all h.lt] at hq
      have hqw : q < W := by rw [hq]; exact (Nat.div_lt_iff_lt_mul (Nat.pow_pos W_pos)).2 (by have := HF.out; rwa [Nat.pow_succ, Nat.mul_comm (W ^ kk)] at this)
      have c0 := X0.cell
      have hX : low W kk (x * m + add) + q * W ^ kk = x * m + add := by rw [hq, Nat.mul_comm _ (W ^ kk)]; exact Nat.mod_add_div _ _
      have HX := Lib.hid hX
      clear hX hq
      go_wp2_with fail
      refine (nat_Len A kk c _).mono ?_
      rintro e w4 ⟨rfl, hb4⟩
      have ho4 := own_below hown hb4
      have c4 := ho4.cellAt kk (by omega)
      rw [dl_get _ _ _ _ _ (by omega)] at c4
      have f4 := ho4.frozenAt kk
      have ho := (ho4.stored kk (.int .u64 (q : Nat))).1
      rw [dl_set W_pos (by omega) hqw, put_top (low_bound W_pos _ _), HX.out] at ho
      have hbel' := (nx hbel hb4).setCell (p := ⟨G, kk, none⟩) (by show w.heap.size ≤ G; omega) (.int .u64 (q : Nat))
      have Y1 := (X1.to hb4).far (p := ⟨G, kk, none⟩) (by show _ ≠ G; omega) (.int .u64 (q : Nat))
      clear hown hbel X0 X1 hb4 ho4 c0
      obtain ⟨A1, c1, hv, hd, hf⟩ := own_form ho HF.out
      cases hv
      clear ho
      go_wp2_with fail
      refine (nat_Of _ _ _ _ _ hd (by omega)).mono ?_
      rintro e w5 ⟨A2, n2, c2, rfl, h2, hb5, hm2⟩
      have Z1 := Y1.to hb5
      have c6 := Z1.cell
      have f6 := Z1.free
      have hb6 := nx hbel' hb5
      clear hd hf hb5 Y1 hbel' c4 f4
      go_wp2_with fail
      exact bodyPost_ret (v := .agg #[.slice A2 n2 c2]) (by simp [results, Try.results26, go_sem, c6]) rfl ⟨A2, n2, c2, rfl, h2.put_ c6 _, hb6.setCell (by show w.heap.size ≤ w.heap.size + 1; omega) _⟩
end Go.Proofs.Ytfgcjpokgolddaa
set_option linter.unusedVariables false
set_option linter.unusedSimpArgs false
namespace Go.Proofs.Ytfgcjpokgolddaa
open Go.RowKit
set_option maxRecDepth 100000
def RetNat2 (w : World) (x y : Nat) (e : Ending) (w' : World) : Prop := ∃ A n c A' n' c', e = .returned (.tuple #[.agg #[.slice A n c], .agg #[.slice A' n' c']]) ∧ NatAt w' A n c x ∧ NatAt w' A' n' c' y ∧ Below w.heap.size w w'
theorem up_over {k n x : Nat} (h : x < W ^ n) (hk : n ≤ k) : up W n x = up W k x := by
  rw [up_eq_zero h, up_eq_zero (Nat.lt_of_lt_of_le h (Nat.pow_le_pow_right W_pos hk))]
theorem low_over {k n x : Nat} (h : x < W ^ n) (hk : n ≤ k) : low W n x = low W k x := by
  rw [low_all h, low_all (Nat.lt_of_lt_of_le h (Nat.pow_le_pow_right W_pos hk))]
end Go.Proofs.Ytfgcjpokgolddaa
set_option linter.unusedVariables false
set_option linter.unusedSimpArgs false
namespace Go.Proofs.Ytfgcjpokgolddaa
open Go.RowKit
set_option maxRecDepth 100000
end Go.Proofs.Ytfgcjpokgolddaa
