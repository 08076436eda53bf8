/- Plain law of multiplication: a word added into a number's digits; the school's way row by row; cut in two. No program in sight.
   The walks of package prod, first part: a number by a word.
   The walks of package prod, second part: cut, raised.
   The walks of package prod, third part: school. -/
import Derived.Test.YtflleaifmeiikaaKA
import Derived.Test.YtflleaifmeiikaaKB
import Derived.Test.YtflleaifmeiikaaKD
set_option linter.unusedVariables false
set_option linter.unusedSimpArgs false
namespace Go.Proofs.Ytflleaifmeiikaa
theorem put_add (b i x d : Nat) : put b i x d + dg b i x * b ^ i = x + d * b ^ i := by
  have h := put_split b i x
  unfold put
  omega
theorem up_put {b i x d : Nat} (hb : 0 < b) (hd : d < b) : up b (i + 1) (put b i x d) = up b (i + 1) x := by
  have hs := add_lt_succ (low_lt hb i x) hd
  unfold put up
  rw [Nat.add_mul_div_right _ _ (Nat.pow_pos hb), Nat.div_eq_of_lt hs, Nat.zero_add]
theorem dg_of_up {b i x y : Nat} (h : up b i x = up b i y) : dg b i x = dg b i y := by
  rw [← up_mod, ← up_mod, h]
theorem up_succ_of {b i x y : Nat} (h : up b i x = up b i y) : up b (i + 1) x = up b (i + 1) y := by
  rw [← up_succ, ← up_succ, h]
theorem up_eq_zero {b i x : Nat} (h : x < b ^ i) : up b i x = 0 := Nat.div_eq_of_lt h
theorem lt_of_up_zero {b i x : Nat} (hb : 0 < b) (h : up b i x = 0) : x < b ^ i := by
  unfold up at h
  rcases Nat.lt_or_ge x (b ^ i) with h0 | h0
  · exact h0
  · have := Nat.div_pos h0 (Nat.pow_pos hb); omega
/-- one place of a row: D times a digit of y, and what goes over, added into place i + k -/
theorem school_step {i k O ov P D y : Nat} (hD : D < W) (hov : ov < W) (h : O + ov * W ^ (i + k) = P + D * low W k y * W ^ i) (hu : up W (i + k) O = up W (i + k) P) :
    put W (i + k) O (maLo D (dg W k y) (dg W (i + k) O) ov) + maHi D (dg W k y) (dg W (i + k) O) ov * W ^ (i + (k + 1)) = P + D * low W (k + 1) y * W ^ i ∧
    up W (i + (k + 1)) (put W (i + k) O (maLo D (dg W k y) (dg W (i + k) O) ov)) = up W (i + (k + 1)) P := by
  have hs := ma_split D (dg W k y) (dg W (i + k) O) ov
  have hl := maLo_lt D (dg W k y) (dg W (i + k) O) ov
  generalize maLo D (dg W k y) (dg W (i + k) O) ov = lo at *
  generalize maHi D (dg W k y) (dg W (i + k) O) ov = hi at *
  refine ⟨?_, ?_⟩
  · have hp := put_add W (i + k) O lo
    have hm := congrArg (· * W ^ (i + k)) hs
    simp only [Nat.add_mul] at hm
    have e1 : hi * W ^ (i + (k + 1)) = W * hi * W ^ (i + k) := by
      rw [← Nat.add_assoc, Nat.pow_succ, Nat.mul_comm W hi, Nat.mul_assoc, Nat.mul_comm W]
    have e2 : D * low W (k + 1) y * W ^ i = D * low W k y * W ^ i + D * dg W k y * W ^ (i + k) := by
      rw [← low_next, Nat.mul_add, Nat.add_mul, Nat.pow_add, Nat.mul_comm (W ^ i) (W ^ k)]
      simp only [Nat.mul_assoc]
    rw [e1, e2]
    omega
  · rw [show i + (k + 1) = i + k + 1 from rfl, up_put W_pos hl]
    exact up_succ_of hu
/-- a row's end: what goes over is laid above -/
theorem school_end {i m O ov P D y : Nat} (hP : P < W ^ (i + m)) (hov : ov < W) (hy : y < W ^ m) (h : O + ov * W ^ (i + m) = P + D * low W m y * W ^ i) (hu : up W (i + m) O = up W (i + m) P) :
    put W (i + m) O ov = P + D * y * W ^ i := by
  rw [low_all hy] at h
  rw [up_eq_zero hP] at hu
  have hO := lt_of_up_zero W_pos hu
  rw [put_top hO, h]
theorem school_next {i x y : Nat} : low W i x * y + dg W i x * y * W ^ i = low W (i + 1) x * y := by
  rw [← low_next, Nat.add_mul]
  simp only [Nat.mul_assoc, Nat.mul_comm y]
theorem school_row_lt {i m x y : Nat} (hy : y < W ^ m) : low W i x * y < W ^ (i + m) := by
  rw [Nat.pow_add]
  have h1 := low_bound W_pos i x
  exact Nat.lt_of_le_of_lt (Nat.mul_le_mul_right _ (Nat.le_of_lt h1)) (Nat.mul_lt_mul_of_pos_left hy (Nat.pow_pos W_pos))
theorem mul_lt_pow {x y n m : Nat} (hx : x < W ^ n) (hy : y < W ^ m) : x * y < W ^ (n + m) := by
  rw [Nat.pow_add]
  exact Nat.lt_of_le_of_lt (Nat.mul_le_mul_right _ (Nat.le_of_lt hx)) (Nat.mul_lt_mul_of_pos_left hy (by omega))
/-- a number by a word -/
theorem byword_step (k x m add : Nat) : (dg W k x * m + (low W k x * m + add) / W ^ k + 0) % W = dg W k (x * m + add) ∧ (dg W k x * m + (low W k x * m + add) / W ^ k + 0) / W = (low W (k + 1) x * m + add) / W ^ (k + 1) := by
  have hp : 0 < W ^ k := Nat.pow_pos W_pos
  have e1 : low W (k + 1) x * m + add = (low W k x * m + add) + W ^ k * (dg W k x * m) := by
    rw [← low_next, Nat.add_mul, Nat.mul_comm (dg W k x) (W ^ k), Nat.mul_assoc]; omega
  have e2 : x * m + add = (low W k x * m + add) + W ^ k * (up W k x * m) := by
    have h : x = low W k x + W ^ k * up W k x := (Nat.mod_add_div x (W ^ k)).symm
    conv => lhs; rw [h]
    rw [Nat.add_mul, Nat.mul_assoc]; omega
  rw [Nat.add_zero, Nat.add_comm (dg W k x * m)]
  constructor
  · rw [e2]
    unfold dg
    rw [Nat.add_mul_div_left _ _ hp]
    have h : up W k x = dg W k x + W * up W (k + 1) x := by
      unfold dg; rw [← up_succ]; exact (Nat.mod_add_div _ _).symm
    unfold dg at h
    rw [h, Nat.add_mul, Nat.mul_assoc, ← Nat.add_assoc, Nat.add_mul_mod_self_left]
  · rw [e1, Nat.pow_succ, ← Nat.div_div_eq_div_mul, Nat.add_mul_div_left _ _ hp]
theorem byword_over {k x m add : Nat} (hm : m < W) (ha : add < W) : (low W k x * m + add) / W ^ k < W := by
  have hp : 0 < W ^ k := Nat.pow_pos W_pos
  have h1 := low_bound W_pos k x
  apply Nat.div_lt_of_lt_mul
  have h2 : (low W k x + 1) * m ≤ W ^ k * m := Nat.mul_le_mul_right _ h1
  have h3 : W ^ k * (m + 1) ≤ W ^ k * W := Nat.mul_le_mul_left _ hm
  rw [Nat.add_mul] at h2
  rw [Nat.mul_add] at h3
  rcases Nat.eq_zero_or_pos m with h0 | h0
  · subst h0
    have : W ^ k * 1 ≤ W ^ k * W := Nat.mul_le_mul_left _ (by decide)
    have : 1 * W ≤ W ^ k * W := Nat.mul_le_mul_right _ hp
    omega
  · rcases Nat.eq_zero_or_pos k with hk | hk
    · subst hk
      rw [low_nought]; simp; omega
    · have : W ^ 1 ≤ W ^ k := Nat.pow_le_pow_right W_pos hk
      rw [Nat.pow_one] at this
      omega
/-- cut in two: three products for four -/
theorem kara (x0 x1 y0 y1 B : Nat) : x0 * y0 + (((x0 + x1) * (y0 + y1) - (x0 * y0 + x1 * y1)) * B + x1 * y1 * (B * B)) = (x0 + x1 * B) * (y0 + y1 * B) := by
  have e : (x0 + x1) * (y0 + y1) - (x0 * y0 + x1 * y1) = x0 * y1 + x1 * y0 := by
    rw [Nat.add_mul, Nat.mul_add, Nat.mul_add]; omega
  rw [e]
  simp only [Nat.mul_add, Nat.mul_assoc, Nat.mul_comm, Nat.mul_left_comm]
  omega
theorem kara_le (x0 x1 y0 y1 : Nat) : x0 * y0 + x1 * y1 ≤ (x0 + x1) * (y0 + y1) := by
  rw [Nat.add_mul, Nat.mul_add, Nat.mul_add]; omega
theorem kara_mid (x0 x1 y0 y1 B : Nat) : ((x0 + x1) * (y0 + y1) - (x0 * y0 + x1 * y1)) * B ≤ (x0 + x1 * B) * (y0 + y1 * B) := by
  rw [← kara]; omega
theorem kara_hi (x0 x1 y0 y1 B : Nat) : x1 * y1 * (B * B) ≤ (x0 + x1 * B) * (y0 + y1 * B) := by
  rw [← kara]; omega
end Go.Proofs.Ytflleaifmeiikaa
set_option linter.unusedVariables false
set_option linter.unusedSimpArgs false
namespace Go.Proofs.Ytflleaifmeiikaa
open Go.RowKit
set_option maxRecDepth 100000
theorem byword_fit {x m add n : Nat} (hx : x < W ^ n) (hm : m < W) (ha : add < W) : x * m + add < W ^ (n + 1) := by
  have h := byword_over (k := n) (x := x) hm ha
  rw [low_all hx] at h
  have hp : 0 < W ^ n := Nat.pow_pos W_pos
  rw [Nat.pow_succ, Nat.mul_comm (W ^ n)]
  exact (Nat.div_lt_iff_lt_mul hp).1 h
set_option maxHeartbeats 1000000 in
theorem prod_ByWord (A : Option Addr) (n c x m add : Nat) (w : World) (h : NatAt w A n c x) (hm : m < W) (ha : add < W) (hn : n ≤ 17592186044415) :
    Calls Try.prog 54 #[.agg #[.slice A n c], .int .u64 (m : Nat), .int .u64 (add : Nat)] w (RetNat w (x * m + add)) := by
  obtain ⟨i0, hi, hz0, hz1, hz2⟩ := info_parts info_u64
  have m1 := h.1.max
  have m2 := h.1.cap
  have hfit := byword_fit h.lt hm ha
  have HF := Lib.hid hfit
  have B0 := (Blk1.new w 25 (.slice A n c)).alloc (.cells #[.slice none 0 0] 25)
  have B1 := Blk1.new (w.alloc (.cells #[.slice A n c] 25)) 25 (.slice none 0 0)
  simp only [World.size_alloc] at B1
  clear hfit
  go_enter Try.func54, Try.ntmps54
  go_wp2_with fail
  refine (nat_Len A n c _).mono ?_
  rintro e w1 ⟨rfl, hb1⟩
  have X0 := B0.to hb1
  have X1 := B1.to hb1
  have hbel : Below w.heap.size w w1 := nx (nxa (nxa (Below.refl _ _) _) _) hb1
  have hs1 : w.heap.size + 1 + 1 ≤ w1.heap.size := by have := hb1.size; simpa using this
  clear hb1
  go_wp2_with (at_make; refine wpList_make_full _ rfl _ _ 22 rfl w1.heap.size 30 i0 (.int .u64 0) 1 Try.underlying22 hi hz0 hz1 .i64 .i64 _ _ (n + 1) rfl rfl (by omega) (by omega) (by rw [hz2]; omega) (by unfold maxLen; omega) (Nat.le_refl _) ?_)
  intro w2 hown hgrow
  rw [made_dl .u64 W] at hown
  have hb2 := below_of_none hgrow
  have Y0 := X0.to hb2
  have Y1 := X1.to hb2
  have hbel2 := nx hbel hb2
  obtain ⟨G, hG⟩ : ∃ G, G = w1.heap.size := ⟨_, rfl⟩
  have hGs : w.heap.size + 1 + 1 ≤ G := by omega
  rw [← hG] at hown ⊢
  clear hgrow hb2 hG hbel X0 X1 hs1
  have c0 := Y0.cell
  go_wp2_with fail
  refine (nat_Len A n c _).mono ?_
  rintro e w3 ⟨rfl, hb3⟩
  have hown3 := own_below hown hb3
  have Z0 := Y0.to hb3
  have Z1 := Y1.to hb3
  have hbel3 := nx hbel2 hb3
  clear hb3 hbel2 Y0 Y1 hown c0
  go_wp2_with fail
  go_loopw [2, 8, 15] (fun ad _ k wr => ∃ kk q : Nat, kk ≤ n ∧ k = .int .i64 (kk : Int) ∧ ad = .int .u64 (q : Nat) ∧ q = (low W kk x * m + add) / W ^ kk ∧ wr.ownsRow G 30 1 (.slice (some ⟨G, 0, none⟩) (n + 1) (n + 1)) (n + 1) (dl .u64 W (n + 1) (low W kk (x * m + add))) ∧ Below w.heap.size w wr ∧ Blk1 wr w.heap.size 25 (.slice A n c) ∧ Blk1 wr (w.heap.size + 1) 25 (.slice none 0 0)) (fun _ _ k _ => n - (intOf k).toNat)
  case atStart => exact ⟨0, add, Nat.zero_le _, rfl, rfl, by rw [low_nought]; simp, by rw [low_nought]; exact hown3, hbel3, Z0, Z1⟩
  case round =>
    clear hown3 hbel3 Z0 Z1
    obtain ⟨kk, q, hk, rfl, rfl, hq, hown, hbel, X0, X1⟩ := hrel
    by_cases hlt : kk < n
    · have hqw : q < W := by rw [hq]; exact byword_over hm ha
      obtain ⟨s1, s2⟩ := byword_step kk x m add
      rw [← hq] at s1 s2
      have S1 := Lib.hid (show maLo (dg W kk x) m q 0 = dg W kk (x * m + add) from s1)
      have S2 := Lib.hid (show maHi (dg W kk x) m q 0 = (low W (kk + 1) x * m + add) / W ^ (kk + 1) from s2)
      have d1 := dg_lt W_pos kk x
      have kM : kk ≤ 9223372036854775807 := by omega
      have kN : (kk : Int) < (n : Int) := by omega
      have hx := h.below hbel (Nat.le_refl _)
      have hz : (0 : Nat) < W := W_pos
      have c0 := X0.cell
      clear s1 s2 hq
      go_wp2_with fail
      refine (nat_Word A n c x kk _ hx kM).mono ?_
      rintro e w4 ⟨rfl, hb4⟩
      go_wp2_with fail
      refine (word_MulAdd _ m q 0 _ d1 hm hqw hz).mono ?_
      rw [S1.out, S2.out]
      rintro e w5 ⟨rfl, rfl⟩
      have ho4 := own_below hown hb4
      have c4 := ho4.cellAt kk (by omega)
      rw [dl_get _ _ _ _ _ (by omega)] at c4
      have f4 := ho4.frozenAt kk
      have ho := (ho4.stored kk (.int .u64 (dg W kk (x * m + add) : Nat))).1
      rw [dl_set W_pos (by omega) (dg_lt W_pos _ _), put_top (low_bound W_pos _ _), low_next] at ho
      have hbel' := (nx hbel hb4).setCell (p := ⟨G, kk, none⟩) (by show w.heap.size ≤ G; omega) (.int .u64 (dg W kk (x * m + add) : Nat))
      have Y0 := (X0.to hb4).far (p := ⟨G, kk, none⟩) (by show _ ≠ G; omega) (.int .u64 (dg W kk (x * m + add) : Nat))
      have Y1 := (X1.to hb4).far (p := ⟨G, kk, none⟩) (by show _ ≠ G; omega) (.int .u64 (dg W kk (x * m + add) : Nat))
      clear hown hbel X0 X1 hb4 ho4 c0 hx
      go_wp2_with fail
      go_roundw
      case rel => exact ⟨kk + 1, (low W (kk + 1) x * m + add) / W ^ (kk + 1), by omega, by go_num, rfl, rfl, ho, hbel', Y0, Y1⟩
      case measure => simp [intOf]; omega
    · obtain rfl : kk = n := by omega
      rw [low_all h.lt] at hq
      have hqw : q < W := by rw [hq]; exact (Nat.div_lt_iff_lt_mul (Nat.pow_pos W_pos)).2 (by have := HF.out; rwa [Nat.pow_succ, Nat.mul_comm (W ^ kk)] at this)
      have c0 := X0.cell
      have hX : low W kk (x * m + add) + q * W ^ kk = x * m + add := by rw [hq, Nat.mul_comm _ (W ^ kk)]; exact Nat.mod_add_div _ _
      have HX := Lib.hid hX
      clear hX hq
      go_wp2_with fail
      refine (nat_Len A kk c _).mono ?_
      rintro e w4 ⟨rfl, hb4⟩
      have ho4 := own_below hown hb4
      have c4 := ho4.cellAt kk (by omega)
      rw [dl_get _ _ _ _ _ (by omega)] at c4
      have f4 := ho4.frozenAt kk
      have ho := (ho4.stored kk (.int .u64 (q : Nat))).1
      rw [dl_set W_pos (by omega) hqw, put_top (low_bound W_pos _ _), HX.out] at ho
      have hbel' := (nx hbel hb4).setCell (p := ⟨G, kk, none⟩) (by show w.heap.size ≤ G; omega) (.int .u64 (q : Nat))
      have Y1 := (X1.to hb4).far (p := ⟨G, kk, none⟩) (by show _ ≠ G; omega) (.int .u64 (q : Nat))
      clear hown hbel X0 X1 hb4 ho4 c0
      obtain ⟨A1, c1, hv, hd, hf⟩ := own_form ho HF.out
      cases hv
      clear ho
      go_wp2_with fail
      refine (nat_Of _ _ _ _ _ hd (by omega)).mono ?_
      rintro e w5 ⟨A2, n2, c2, rfl, h2, hb5, hm2⟩
      have Z1 := Y1.to hb5
      have c6 := Z1.cell
      have f6 := Z1.free
      have hb6 := nx hbel' hb5
      clear hd hf hb5 Y1 hbel' c4 f4
      go_wp2_with fail
      exact bodyPost_ret (v := .agg #[.slice A2 n2 c2]) (by simp [results, Try.results54, go_sem, c6]) rfl ⟨A2, n2, c2, rfl, h2.put_ c6 _, hb6.setCell (by show w.heap.size ≤ w.heap.size + 1; omega) _⟩
end Go.Proofs.Ytflleaifmeiikaa
set_option linter.unusedVariables false
set_option linter.unusedSimpArgs false
namespace Go.Proofs.Ytflleaifmeiikaa
open Go.RowKit
set_option maxRecDepth 100000
def RetNat2 (w : World) (x y : Nat) (e : Ending) (w' : World) : Prop := ∃ A n c A' n' c', e = .returned (.tuple #[.agg #[.slice A n c], .agg #[.slice A' n' c']]) ∧ NatAt w' A n c x ∧ NatAt w' A' n' c' y ∧ Below w.heap.size w w'
theorem up_over {k n x : Nat} (h : x < W ^ n) (hk : n ≤ k) : up W n x = up W k x := by
  rw [up_eq_zero h, up_eq_zero (Nat.lt_of_lt_of_le h (Nat.pow_le_pow_right W_pos hk))]
theorem low_over {k n x : Nat} (h : x < W ^ n) (hk : n ≤ k) : low W n x = low W k x := by
  rw [low_all h, low_all (Nat.lt_of_lt_of_le h (Nat.pow_le_pow_right W_pos hk))]
set_option maxHeartbeats 2000000 in
theorem prod_cut (A : Option Addr) (n c x k : Nat) (w : World) (h : NatAt w A n c x) (hk : k ≤ 17592186044416) (hn : n ≤ 17592186044416) :
    Calls Try.prog 56 #[.agg #[.slice A n c], .int .i64 (k : Nat)] w (RetNat2 w (low W k x) (up W k x)) := by
  have B0 := ((Blk1.new w 25 (.slice A n c)).alloc (.cells #[.slice none 0 0] 25)).alloc (.cells #[.slice none 0 0] 25)
  have B1 := (Blk1.new (w.alloc (.cells #[.slice A n c] 25)) 25 (.slice none 0 0)).alloc (.cells #[.slice none 0 0] 25)
  have B2 := Blk1.new ((w.alloc (.cells #[.slice A n c] 25)).alloc (.cells #[.slice none 0 0] 25)) 25 (.slice none 0 0)
  simp only [World.size_alloc] at B1 B2
  by_cases hkn : n < k
  · have hkn' : (n : Int) < (k : Int) := by omega
    have HL := Lib.hid (low_over h.lt (Nat.le_of_lt hkn))
    have HU := Lib.hid (up_over h.lt (Nat.le_of_lt hkn))
    go_enter Try.func56, Try.ntmps56
    go_wp2_with fail
    refine (nat_Words A n c x _ (((h.alloc _).alloc _).alloc _) hn).mono ?_
    rintro e w1 ⟨A1, c1, rfl, ho1, hb1⟩
    have X1 := B1.to hb1
    have X2 := B2.to hb1
    have hbel : Below w.heap.size w w1 := nx (nxa (nxa (nxa (Below.refl _ _) _) _) _) hb1
    obtain ⟨A1', c1', hv, hd1, hf1⟩ := own_form ho1 h.lt
    cases hv
    have m1 := hd1.max
    have m2 := hd1.cap
    have hlow := hd1.upto W_pos (i := n) (by omega)
    change Dig .u64 W w1 A1 n c1 (low W n x) at hlow
    have hshape := ho1.2
    clear ho1 hb1 hf1
    have hs1 : w.heap.size + 1 + 1 + 1 ≤ w1.heap.size := by have := X2.lt; omega
    rcases hshape with ⟨e, rfl⟩ | ⟨g, cap, cur, e, hg⟩
    · cases e
      have hup : Dig .u64 W w1 none 0 0 (up W 0 x) := by rw [show up W 0 x = 0 by rw [up_zero]; exact hd1.zero]; exact Dig.nil _ _ _ _ (by omega)
      clear hd1
      go_wp2_with fail
      refine wp_regionT (S := fun w' => True) [] kR trivial (fun hHeld => ?_)
      refine anyT_take (i := 0) (v := ?_) gO kR kR kR kR (by exact fun _ _ _ h => h) (Or.inl ⟨by rfl, ?_⟩) (by assumption) ?_
      rotate_left
      · intro w hSw; (try dsimp only at hSw); go_simp; try with_reducible rfl
      try simp only [Act.put, sX, sY, sZ]
      refine anyT_take (i := 1) (v := ?_) gO kR kR kR kR (by exact fun _ _ _ h => h) (Or.inl ⟨by rfl, ?_⟩) (by assumption) ?_
      rotate_left
      · intro w hSw; (try dsimp only at hSw); go_simp; try with_reducible rfl
      try simp only [Act.put, sX, sY, sZ]
      refine anyT_take (i := 2) (v := ?_) gO kR kR kR kR (by exact fun _ _ _ h => h) (Or.inl ⟨by rfl, ?_⟩) (by assumption) ?_
      rotate_left
      · intro w hSw; (try dsimp only at hSw); go_simp; try with_reducible rfl
      try simp only [Act.put, sX, sY, sZ]
      refine anyT_take (i := 4) (v := ?_) gO kR kR kR kR (by exact fun _ _ _ h => h) (Or.inl ⟨by rfl, ?_⟩) (by assumption) ?_
      rotate_left
      · intro w hSw; (try dsimp only at hSw); go_simp; try with_reducible rfl
      try simp only [Act.put, sX, sY, sZ]
      refine anyT_take (i := 5) (v := ?_) gO kR kR kR kR (by exact fun _ _ _ h => h) (Or.inl ⟨by rfl, ?_⟩) (by assumption) ?_
      rotate_left
      · intro w hSw; (try dsimp only at hSw); go_simp; try with_reducible rfl
      try simp only [Act.put, sX, sY, sZ]
      refine anyT_take (i := 6) (v := ?_) gO kR kR kR kR (by exact fun _ _ _ h => h) (Or.inl ⟨by rfl, ?_⟩) (by assumption) ?_
      rotate_left
      · intro w hSw; (try dsimp only at hSw); go_simp; try with_reducible rfl
      try simp only [Act.put, sX, sY, sZ]
      refine anyT_ready (rs := [3]) kR (by simp) (ReadyT.cons gO (fun K hK => ?_) ReadyT.nil)
      go_simp
      go_at_call 13
      (with_reducible refine (nat_Of _ _ _ _ _ (hlow.to bW) (by omega)).mono ?_)
      rintro e w2 ⟨A2, n2, c2, rfl, h2, hb2, hm2⟩
      go_simp
      refine hK.out _ _ trivial (fun hHeld => ?_)
      clear hK K
      try simp only [Act.put, sX, sY, sZ]
      refine anyT_ready (rs := [7]) kR (by simp) (ReadyT.cons gO (fun K hK => ?_) ReadyT.nil)
      go_simp
      go_at_call 13
      (with_reducible refine (nat_Of _ _ _ _ _ (hup.to bW) (by omega)).mono ?_)
      rintro e w3 ⟨A3, n3, c3, rfl, h3, hb3, hm3⟩
      have Y1 := (show Blk1 w3 _ _ _ from (X1.to bW))
      have Y2 := (show Blk1 w3 _ _ _ from (X2.to bW))
      have c10 := Y1.cell
      have f10 := Y1.free
      go_simp
      refine hK.out _ _ trivial (fun hHeld => ?_)
      clear hK K
      try simp only [Act.put, sX, sY, sZ]
      refine anyT_ready (rs := [8]) kR (by simp) (ReadyT.cons gO (fun K hK => ?_) ReadyT.nil)
      go_simp
      refine hK.out _ _ trivial (fun hHeld => ?_)
      clear hK K
      try simp only [Act.put, sX, sY, sZ]
      refine anyT_ready (rs := [9]) kR (by simp) (ReadyT.cons gO (fun K hK => ?_) ReadyT.nil)
      have Z2 := Y2.far (p := ⟨w.heap.size + 1, 0, none⟩) (by show _ ≠ w.heap.size + 1; omega) (.slice A2 n2 c2)
      have c11 := Z2.cell
      have f11 := Z2.free
      go_simp
      refine hK.out _ _ trivial (fun hHeld => ?_)
      clear hK K
      try simp only [Act.put, sX, sY, sZ]
      refine anyT_done kR ?_ _
      obtain ⟨l1, l2, hb⟩ := store2 (w0 := w) (show Below w.heap.size w w3 from bW) (by show w.heap.size ≤ w.heap.size + 1; omega) (by show w.heap.size ≤ w.heap.size + 1 + 1; omega) (by omega) Y1 Y2 (h2.to bW) h3
      have e1 := l1.1.cell
      have e2 := l2.1.cell
      go_wp2_with fail
      exact bodyPost_ret (v := .tuple #[.agg #[.slice A2 n2 c2], .agg #[.slice A3 n3 c3]]) (by simp [results, Try.results56, go_sem, e1, e2]) rfl ⟨A2, n2, c2, A3, n3, c3, rfl, by rw [← HL.out]; exact l1.2, by rw [← HU.out]; exact l2.2, hb⟩
    · cases e
      by_cases hct : c1 = n
      · skip
        subst hct
        have hup : Dig .u64 W w1 (some ⟨g, 0, none⟩) 0 0 (up W c1 x) := by have := hd1.from_ (i := c1) (Nat.le_refl _) (A' := some ⟨g, 0, none⟩) (fun g' o' _ h' => absurd rfl h'); rwa [Nat.sub_self] at this
        clear hd1
        go_wp2_with fail
        refine wp_regionT (S := fun w' => True) [] kR trivial (fun hHeld => ?_)
        refine anyT_take (i := 0) (v := ?_) gO kR kR kR kR (by exact fun _ _ _ h => h) (Or.inl ⟨by rfl, ?_⟩) (by assumption) ?_
        rotate_left
        · intro w hSw; (try dsimp only at hSw); go_simp; try with_reducible rfl
        try simp only [Act.put, sX, sY, sZ]
        refine anyT_take (i := 1) (v := ?_) gO kR kR kR kR (by exact fun _ _ _ h => h) (Or.inl ⟨by rfl, ?_⟩) (by assumption) ?_
        rotate_left
        · intro w hSw; (try dsimp only at hSw); go_simp; try with_reducible rfl
        try simp only [Act.put, sX, sY, sZ]
        refine anyT_take (i := 2) (v := ?_) gO kR kR kR kR (by exact fun _ _ _ h => h) (Or.inl ⟨by rfl, ?_⟩) (by assumption) ?_
        rotate_left
        · intro w hSw; (try dsimp only at hSw); go_simp; try with_reducible rfl
        try simp only [Act.put, sX, sY, sZ]
        refine anyT_take (i := 4) (v := ?_) gO kR kR kR kR (by exact fun _ _ _ h => h) (Or.inl ⟨by rfl, ?_⟩) (by assumption) ?_
        rotate_left
        · intro w hSw; (try dsimp only at hSw); go_simp; try with_reducible rfl
        try simp only [Act.put, sX, sY, sZ]
        refine anyT_take (i := 5) (v := ?_) gO kR kR kR kR (by exact fun _ _ _ h => h) (Or.inl ⟨by rfl, ?_⟩) (by assumption) ?_
        rotate_left
        · intro w hSw; (try dsimp only at hSw); go_simp; try with_reducible rfl
        try simp only [Act.put, sX, sY, sZ]
        refine anyT_take (i := 6) (v := ?_) gO kR kR kR kR (by exact fun _ _ _ h => h) (Or.inl ⟨by rfl, ?_⟩) (by assumption) ?_
        rotate_left
        · intro w hSw; (try dsimp only at hSw); go_simp; try with_reducible rfl
        try simp only [Act.put, sX, sY, sZ]
        refine anyT_ready (rs := [3]) kR (by simp) (ReadyT.cons gO (fun K hK => ?_) ReadyT.nil)
        go_simp
        go_at_call 13
        (with_reducible refine (nat_Of _ _ _ _ _ (hlow.to bW) (by omega)).mono ?_)
        rintro e w2 ⟨A2, n2, c2, rfl, h2, hb2, hm2⟩
        go_simp
        refine hK.out _ _ trivial (fun hHeld => ?_)
        clear hK K
        try simp only [Act.put, sX, sY, sZ]
        refine anyT_ready (rs := [7]) kR (by simp) (ReadyT.cons gO (fun K hK => ?_) ReadyT.nil)
        go_simp
        go_at_call 13
        (with_reducible refine (nat_Of _ _ _ _ _ (hup.to bW) (by omega)).mono ?_)
        rintro e w3 ⟨A3, n3, c3, rfl, h3, hb3, hm3⟩
        have Y1 := (show Blk1 w3 _ _ _ from (X1.to bW))
        have Y2 := (show Blk1 w3 _ _ _ from (X2.to bW))
        have c10 := Y1.cell
        have f10 := Y1.free
        go_simp
        refine hK.out _ _ trivial (fun hHeld => ?_)
        clear hK K
        try simp only [Act.put, sX, sY, sZ]
        refine anyT_ready (rs := [8]) kR (by simp) (ReadyT.cons gO (fun K hK => ?_) ReadyT.nil)
        go_simp
        refine hK.out _ _ trivial (fun hHeld => ?_)
        clear hK K
        try simp only [Act.put, sX, sY, sZ]
        refine anyT_ready (rs := [9]) kR (by simp) (ReadyT.cons gO (fun K hK => ?_) ReadyT.nil)
        have Z2 := Y2.far (p := ⟨w.heap.size + 1, 0, none⟩) (by show _ ≠ w.heap.size + 1; omega) (.slice A2 n2 c2)
        have c11 := Z2.cell
        have f11 := Z2.free
        go_simp
        refine hK.out _ _ trivial (fun hHeld => ?_)
        clear hK K
        try simp only [Act.put, sX, sY, sZ]
        refine anyT_done kR ?_ _
        obtain ⟨l1, l2, hb⟩ := store2 (w0 := w) (show Below w.heap.size w w3 from bW) (by show w.heap.size ≤ w.heap.size + 1; omega) (by show w.heap.size ≤ w.heap.size + 1 + 1; omega) (by omega) Y1 Y2 (h2.to bW) h3
        have e1 := l1.1.cell
        have e2 := l2.1.cell
        go_wp2_with fail
        exact bodyPost_ret (v := .tuple #[.agg #[.slice A2 n2 c2], .agg #[.slice A3 n3 c3]]) (by simp [results, Try.results56, go_sem, e1, e2]) rfl ⟨A2, n2, c2, A3, n3, c3, rfl, by rw [← HL.out]; exact l1.2, by rw [← HU.out]; exact l2.2, hb⟩
      · have hup : Dig .u64 W w1 (some ⟨g, n, none⟩) 0 (c1 - n) (up W n x) := by have := hd1.from_ (i := n) (by omega) (A' := some ⟨g, n, none⟩) (fun g' o' e' _ => by cases e'; simp); rwa [Nat.sub_self] at this
        clear hd1
        go_wp2_with fail
        refine wp_regionT (S := fun w' => True) [] kR trivial (fun hHeld => ?_)
        refine anyT_take (i := 0) (v := ?_) gO kR kR kR kR (by exact fun _ _ _ h => h) (Or.inl ⟨by rfl, ?_⟩) (by assumption) ?_
        rotate_left
        · intro w hSw; (try dsimp only at hSw); go_simp; try with_reducible rfl
        try simp only [Act.put, sX, sY, sZ]
        refine anyT_take (i := 1) (v := ?_) gO kR kR kR kR (by exact fun _ _ _ h => h) (Or.inl ⟨by rfl, ?_⟩) (by assumption) ?_
        rotate_left
        · intro w hSw; (try dsimp only at hSw); go_simp; try with_reducible rfl
        try simp only [Act.put, sX, sY, sZ]
        refine anyT_take (i := 2) (v := ?_) gO kR kR kR kR (by exact fun _ _ _ h => h) (Or.inl ⟨by rfl, ?_⟩) (by assumption) ?_
        rotate_left
        · intro w hSw; (try dsimp only at hSw); go_simp; try with_reducible rfl
        try simp only [Act.put, sX, sY, sZ]
        refine anyT_take (i := 4) (v := ?_) gO kR kR kR kR (by exact fun _ _ _ h => h) (Or.inl ⟨by rfl, ?_⟩) (by assumption) ?_
        rotate_left
        · intro w hSw; (try dsimp only at hSw); go_simp; try with_reducible rfl
        try simp only [Act.put, sX, sY, sZ]
        refine anyT_take (i := 5) (v := ?_) gO kR kR kR kR (by exact fun _ _ _ h => h) (Or.inl ⟨by rfl, ?_⟩) (by assumption) ?_
        rotate_left
        · intro w hSw; (try dsimp only at hSw); go_simp; try with_reducible rfl
        try simp only [Act.put, sX, sY, sZ]
        refine anyT_take (i := 6) (v := ?_) gO kR kR kR kR (by exact fun _ _ _ h => h) (Or.inl ⟨by rfl, ?_⟩) (by assumption) ?_
        rotate_left
        · intro w hSw; (try dsimp only at hSw); go_simp; try with_reducible rfl
        try simp only [Act.put, sX, sY, sZ]
        refine anyT_ready (rs := [3]) kR (by simp) (ReadyT.cons gO (fun K hK => ?_) ReadyT.nil)
        go_simp
        go_at_call 13
        (with_reducible refine (nat_Of _ _ _ _ _ (hlow.to bW) (by omega)).mono ?_)
        rintro e w2 ⟨A2, n2, c2, rfl, h2, hb2, hm2⟩
        go_simp
        refine hK.out _ _ trivial (fun hHeld => ?_)
        clear hK K
        try simp only [Act.put, sX, sY, sZ]
        refine anyT_ready (rs := [7]) kR (by simp) (ReadyT.cons gO (fun K hK => ?_) ReadyT.nil)
        go_simp
        go_at_call 13
        (with_reducible refine (nat_Of _ _ _ _ _ (hup.to bW) (by omega)).mono ?_)
        rintro e w3 ⟨A3, n3, c3, rfl, h3, hb3, hm3⟩
        have Y1 := (show Blk1 w3 _ _ _ from (X1.to bW))
        have Y2 := (show Blk1 w3 _ _ _ from (X2.to bW))
        have c10 := Y1.cell
        have f10 := Y1.free
        go_simp
        refine hK.out _ _ trivial (fun hHeld => ?_)
        clear hK K
        try simp only [Act.put, sX, sY, sZ]
        refine anyT_ready (rs := [8]) kR (by simp) (ReadyT.cons gO (fun K hK => ?_) ReadyT.nil)
        go_simp
        refine hK.out _ _ trivial (fun hHeld => ?_)
        clear hK K
        try simp only [Act.put, sX, sY, sZ]
        refine anyT_ready (rs := [9]) kR (by simp) (ReadyT.cons gO (fun K hK => ?_) ReadyT.nil)
        have Z2 := Y2.far (p := ⟨w.heap.size + 1, 0, none⟩) (by show _ ≠ w.heap.size + 1; omega) (.slice A2 n2 c2)
        have c11 := Z2.cell
        have f11 := Z2.free
        go_simp
        refine hK.out _ _ trivial (fun hHeld => ?_)
        clear hK K
        try simp only [Act.put, sX, sY, sZ]
        refine anyT_done kR ?_ _
        obtain ⟨l1, l2, hb⟩ := store2 (w0 := w) (show Below w.heap.size w w3 from bW) (by show w.heap.size ≤ w.heap.size + 1; omega) (by show w.heap.size ≤ w.heap.size + 1 + 1; omega) (by omega) Y1 Y2 (h2.to bW) h3
        have e1 := l1.1.cell
        have e2 := l2.1.cell
        go_wp2_with fail
        exact bodyPost_ret (v := .tuple #[.agg #[.slice A2 n2 c2], .agg #[.slice A3 n3 c3]]) (by simp [results, Try.results56, go_sem, e1, e2]) rfl ⟨A2, n2, c2, A3, n3, c3, rfl, by rw [← HL.out]; exact l1.2, by rw [← HU.out]; exact l2.2, hb⟩
  · have hkn' : ¬ (n : Int) < (k : Int) := by omega
    go_enter Try.func56, Try.ntmps56
    go_wp2_with fail
    refine (nat_Words A n c x _ (((h.alloc _).alloc _).alloc _) hn).mono ?_
    rintro e w1 ⟨A1, c1, rfl, ho1, hb1⟩
    have X1 := B1.to hb1
    have X2 := B2.to hb1
    have hbel : Below w.heap.size w w1 := nx (nxa (nxa (nxa (Below.refl _ _) _) _) _) hb1
    obtain ⟨A1', c1', hv, hd1, hf1⟩ := own_form ho1 h.lt
    cases hv
    have m1 := hd1.max
    have m2 := hd1.cap
    have hlow := hd1.upto W_pos (i := k) (by omega)
    change Dig .u64 W w1 A1 k c1 (low W k x) at hlow
    have hshape := ho1.2
    clear ho1 hb1 hf1
    have hs1 : w.heap.size + 1 + 1 + 1 ≤ w1.heap.size := by have := X2.lt; omega
    rcases hshape with ⟨e, rfl⟩ | ⟨g, cap, cur, e, hg⟩
    · cases e
      obtain rfl : k = 0 := by omega
      have hup : Dig .u64 W w1 none 0 0 (up W 0 x) := by rw [show up W 0 x = 0 by rw [up_zero]; exact hd1.zero]; exact Dig.nil _ _ _ _ (by omega)
      clear hd1
      go_wp2_with fail
      refine wp_regionT (S := fun w' => True) [] kR trivial (fun hHeld => ?_)
      refine anyT_take (i := 0) (v := ?_) gO kR kR kR kR (by exact fun _ _ _ h => h) (Or.inl ⟨by rfl, ?_⟩) (by assumption) ?_
      rotate_left
      · intro w hSw; (try dsimp only at hSw); go_simp; try with_reducible rfl
      try simp only [Act.put, sX, sY, sZ]
      refine anyT_take (i := 1) (v := ?_) gO kR kR kR kR (by exact fun _ _ _ h => h) (Or.inl ⟨by rfl, ?_⟩) (by assumption) ?_
      rotate_left
      · intro w hSw; (try dsimp only at hSw); go_simp; try with_reducible rfl
      try simp only [Act.put, sX, sY, sZ]
      refine anyT_take (i := 2) (v := ?_) gO kR kR kR kR (by exact fun _ _ _ h => h) (Or.inl ⟨by rfl, ?_⟩) (by assumption) ?_
      rotate_left
      · intro w hSw; (try dsimp only at hSw); go_simp; try with_reducible rfl
      try simp only [Act.put, sX, sY, sZ]
      refine anyT_take (i := 4) (v := ?_) gO kR kR kR kR (by exact fun _ _ _ h => h) (Or.inl ⟨by rfl, ?_⟩) (by assumption) ?_
      rotate_left
      · intro w hSw; (try dsimp only at hSw); go_simp; try with_reducible rfl
      try simp only [Act.put, sX, sY, sZ]
      refine anyT_take (i := 5) (v := ?_) gO kR kR kR kR (by exact fun _ _ _ h => h) (Or.inl ⟨by rfl, ?_⟩) (by assumption) ?_
      rotate_left
      · intro w hSw; (try dsimp only at hSw); go_simp; try with_reducible rfl
      try simp only [Act.put, sX, sY, sZ]
      refine anyT_take (i := 6) (v := ?_) gO kR kR kR kR (by exact fun _ _ _ h => h) (Or.inl ⟨by rfl, ?_⟩) (by assumption) ?_
      rotate_left
      · intro w hSw; (try dsimp only at hSw); go_simp; try with_reducible rfl
      try simp only [Act.put, sX, sY, sZ]
      refine anyT_ready (rs := [3]) kR (by simp) (ReadyT.cons gO (fun K hK => ?_) ReadyT.nil)
      go_simp
      go_at_call 13
      (with_reducible refine (nat_Of _ _ _ _ _ (hlow.to bW) (by omega)).mono ?_)
      rintro e w2 ⟨A2, n2, c2, rfl, h2, hb2, hm2⟩
      go_simp
      refine hK.out _ _ trivial (fun hHeld => ?_)
      clear hK K
      try simp only [Act.put, sX, sY, sZ]
      refine anyT_ready (rs := [7]) kR (by simp) (ReadyT.cons gO (fun K hK => ?_) ReadyT.nil)
      go_simp
      go_at_call 13
      (with_reducible refine (nat_Of _ _ _ _ _ (hup.to bW) (by omega)).mono ?_)
      rintro e w3 ⟨A3, n3, c3, rfl, h3, hb3, hm3⟩
      have Y1 := (show Blk1 w3 _ _ _ from (X1.to bW))
      have Y2 := (show Blk1 w3 _ _ _ from (X2.to bW))
      have c10 := Y1.cell
      have f10 := Y1.free
      go_simp
      refine hK.out _ _ trivial (fun hHeld => ?_)
      clear hK K
      try simp only [Act.put, sX, sY, sZ]
      refine anyT_ready (rs := [8]) kR (by simp) (ReadyT.cons gO (fun K hK => ?_) ReadyT.nil)
      go_simp
      refine hK.out _ _ trivial (fun hHeld => ?_)
      clear hK K
      try simp only [Act.put, sX, sY, sZ]
      refine anyT_ready (rs := [9]) kR (by simp) (ReadyT.cons gO (fun K hK => ?_) ReadyT.nil)
      have Z2 := Y2.far (p := ⟨w.heap.size + 1, 0, none⟩) (by show _ ≠ w.heap.size + 1; omega) (.slice A2 n2 c2)
      have c11 := Z2.cell
      have f11 := Z2.free
      go_simp
      refine hK.out _ _ trivial (fun hHeld => ?_)
      clear hK K
      try simp only [Act.put, sX, sY, sZ]
      refine anyT_done kR ?_ _
      obtain ⟨l1, l2, hb⟩ := store2 (w0 := w) (show Below w.heap.size w w3 from bW) (by show w.heap.size ≤ w.heap.size + 1; omega) (by show w.heap.size ≤ w.heap.size + 1 + 1; omega) (by omega) Y1 Y2 (h2.to bW) h3
      have e1 := l1.1.cell
      have e2 := l2.1.cell
      go_wp2_with fail
      exact bodyPost_ret (v := .tuple #[.agg #[.slice A2 n2 c2], .agg #[.slice A3 n3 c3]]) (by simp [results, Try.results56, go_sem, e1, e2]) rfl ⟨A2, n2, c2, A3, n3, c3, rfl, l1.2, l2.2, hb⟩
    · cases e
      by_cases hct : c1 = k
      · obtain rfl : n = k := by omega
        subst hct
        have hup : Dig .u64 W w1 (some ⟨g, 0, none⟩) 0 0 (up W c1 x) := by have := hd1.from_ (i := c1) (Nat.le_refl _) (A' := some ⟨g, 0, none⟩) (fun g' o' _ h' => absurd rfl h'); rwa [Nat.sub_self] at this
        clear hd1
        go_wp2_with fail
        refine wp_regionT (S := fun w' => True) [] kR trivial (fun hHeld => ?_)
        refine anyT_take (i := 0) (v := ?_) gO kR kR kR kR (by exact fun _ _ _ h => h) (Or.inl ⟨by rfl, ?_⟩) (by assumption) ?_
        rotate_left
        · intro w hSw; (try dsimp only at hSw); go_simp; try with_reducible rfl
        try simp only [Act.put, sX, sY, sZ]
        refine anyT_take (i := 1) (v := ?_) gO kR kR kR kR (by exact fun _ _ _ h => h) (Or.inl ⟨by rfl, ?_⟩) (by assumption) ?_
        rotate_left
        · intro w hSw; (try dsimp only at hSw); go_simp; try with_reducible rfl
        try simp only [Act.put, sX, sY, sZ]
        refine anyT_take (i := 2) (v := ?_) gO kR kR kR kR (by exact fun _ _ _ h => h) (Or.inl ⟨by rfl, ?_⟩) (by assumption) ?_
        rotate_left
        · intro w hSw; (try dsimp only at hSw); go_simp; try with_reducible rfl
        try simp only [Act.put, sX, sY, sZ]
        refine anyT_take (i := 4) (v := ?_) gO kR kR kR kR (by exact fun _ _ _ h => h) (Or.inl ⟨by rfl, ?_⟩) (by assumption) ?_
        rotate_left
        · intro w hSw; (try dsimp only at hSw); go_simp; try with_reducible rfl
        try simp only [Act.put, sX, sY, sZ]
        refine anyT_take (i := 5) (v := ?_) gO kR kR kR kR (by exact fun _ _ _ h => h) (Or.inl ⟨by rfl, ?_⟩) (by assumption) ?_
        rotate_left
        · intro w hSw; (try dsimp only at hSw); go_simp; try with_reducible rfl
        try simp only [Act.put, sX, sY, sZ]
        refine anyT_take (i := 6) (v := ?_) gO kR kR kR kR (by exact fun _ _ _ h => h) (Or.inl ⟨by rfl, ?_⟩) (by assumption) ?_
        rotate_left
        · intro w hSw; (try dsimp only at hSw); go_simp; try with_reducible rfl
        try simp only [Act.put, sX, sY, sZ]
        refine anyT_ready (rs := [3]) kR (by simp) (ReadyT.cons gO (fun K hK => ?_) ReadyT.nil)
        go_simp
        go_at_call 13
        (with_reducible refine (nat_Of _ _ _ _ _ (hlow.to bW) (by omega)).mono ?_)
        rintro e w2 ⟨A2, n2, c2, rfl, h2, hb2, hm2⟩
        go_simp
        refine hK.out _ _ trivial (fun hHeld => ?_)
        clear hK K
        try simp only [Act.put, sX, sY, sZ]
        refine anyT_ready (rs := [7]) kR (by simp) (ReadyT.cons gO (fun K hK => ?_) ReadyT.nil)
        go_simp
        go_at_call 13
        (with_reducible refine (nat_Of _ _ _ _ _ (hup.to bW) (by omega)).mono ?_)
        rintro e w3 ⟨A3, n3, c3, rfl, h3, hb3, hm3⟩
        have Y1 := (show Blk1 w3 _ _ _ from (X1.to bW))
        have Y2 := (show Blk1 w3 _ _ _ from (X2.to bW))
        have c10 := Y1.cell
        have f10 := Y1.free
        go_simp
        refine hK.out _ _ trivial (fun hHeld => ?_)
        clear hK K
        try simp only [Act.put, sX, sY, sZ]
        refine anyT_ready (rs := [8]) kR (by simp) (ReadyT.cons gO (fun K hK => ?_) ReadyT.nil)
        go_simp
        refine hK.out _ _ trivial (fun hHeld => ?_)
        clear hK K
        try simp only [Act.put, sX, sY, sZ]
        refine anyT_ready (rs := [9]) kR (by simp) (ReadyT.cons gO (fun K hK => ?_) ReadyT.nil)
        have Z2 := Y2.far (p := ⟨w.heap.size + 1, 0, none⟩) (by show _ ≠ w.heap.size + 1; omega) (.slice A2 n2 c2)
        have c11 := Z2.cell
        have f11 := Z2.free
        go_simp
        refine hK.out _ _ trivial (fun hHeld => ?_)
        clear hK K
        try simp only [Act.put, sX, sY, sZ]
        refine anyT_done kR ?_ _
        obtain ⟨l1, l2, hb⟩ := store2 (w0 := w) (show Below w.heap.size w w3 from bW) (by show w.heap.size ≤ w.heap.size + 1; omega) (by show w.heap.size ≤ w.heap.size + 1 + 1; omega) (by omega) Y1 Y2 (h2.to bW) h3
        have e1 := l1.1.cell
        have e2 := l2.1.cell
        go_wp2_with fail
        exact bodyPost_ret (v := .tuple #[.agg #[.slice A2 n2 c2], .agg #[.slice A3 n3 c3]]) (by simp [results, Try.results56, go_sem, e1, e2]) rfl ⟨A2, n2, c2, A3, n3, c3, rfl, l1.2, l2.2, hb⟩
      · have hup : Dig .u64 W w1 (some ⟨g, k, none⟩) (n - k) (c1 - k) (up W k x) := by have := hd1.from_ (i := k) (by omega) (A' := some ⟨g, k, none⟩) (fun g' o' e' _ => by cases e'; simp); exact this
        have hkc : k ≤ c1 := by omega
        clear hd1
        go_wp2_with fail
        refine wp_regionT (S := fun w' => True) [] kR trivial (fun hHeld => ?_)
        refine anyT_take (i := 0) (v := ?_) gO kR kR kR kR (by exact fun _ _ _ h => h) (Or.inl ⟨by rfl, ?_⟩) (by assumption) ?_
        rotate_left
        · intro w hSw; (try dsimp only at hSw); go_simp; try with_reducible rfl
        try simp only [Act.put, sX, sY, sZ]
        refine anyT_take (i := 1) (v := ?_) gO kR kR kR kR (by exact fun _ _ _ h => h) (Or.inl ⟨by rfl, ?_⟩) (by assumption) ?_
        rotate_left
        · intro w hSw; (try dsimp only at hSw); go_simp; try with_reducible rfl
        try simp only [Act.put, sX, sY, sZ]
        refine anyT_take (i := 2) (v := ?_) gO kR kR kR kR (by exact fun _ _ _ h => h) (Or.inl ⟨by rfl, ?_⟩) (by assumption) ?_
        rotate_left
        · intro w hSw; (try dsimp only at hSw); go_simp; try with_reducible rfl
        try simp only [Act.put, sX, sY, sZ]
        refine anyT_take (i := 4) (v := ?_) gO kR kR kR kR (by exact fun _ _ _ h => h) (Or.inl ⟨by rfl, ?_⟩) (by assumption) ?_
        rotate_left
        · intro w hSw; (try dsimp only at hSw); go_simp; try with_reducible rfl
        try simp only [Act.put, sX, sY, sZ]
        refine anyT_take (i := 5) (v := ?_) gO kR kR kR kR (by exact fun _ _ _ h => h) (Or.inl ⟨by rfl, ?_⟩) (by assumption) ?_
        rotate_left
        · intro w hSw; (try dsimp only at hSw); go_simp; try with_reducible rfl
        try simp only [Act.put, sX, sY, sZ]
        refine anyT_take (i := 6) (v := ?_) gO kR kR kR kR (by exact fun _ _ _ h => h) (Or.inl ⟨by rfl, ?_⟩) (by assumption) ?_
        rotate_left
        · intro w hSw; (try dsimp only at hSw); go_simp; try with_reducible rfl
        try simp only [Act.put, sX, sY, sZ]
        refine anyT_ready (rs := [3]) kR (by simp) (ReadyT.cons gO (fun K hK => ?_) ReadyT.nil)
        go_simp
        go_at_call 13
        (with_reducible refine (nat_Of _ _ _ _ _ (hlow.to bW) (by omega)).mono ?_)
        rintro e w2 ⟨A2, n2, c2, rfl, h2, hb2, hm2⟩
        go_simp
        refine hK.out _ _ trivial (fun hHeld => ?_)
        clear hK K
        try simp only [Act.put, sX, sY, sZ]
        refine anyT_ready (rs := [7]) kR (by simp) (ReadyT.cons gO (fun K hK => ?_) ReadyT.nil)
        go_simp
        go_at_call 13
        (with_reducible refine (nat_Of _ _ _ _ _ (hup.to bW) (by omega)).mono ?_)
        rintro e w3 ⟨A3, n3, c3, rfl, h3, hb3, hm3⟩
        have Y1 := (show Blk1 w3 _ _ _ from (X1.to bW))
        have Y2 := (show Blk1 w3 _ _ _ from (X2.to bW))
        have c10 := Y1.cell
        have f10 := Y1.free
        go_simp
        refine hK.out _ _ trivial (fun hHeld => ?_)
        clear hK K
        try simp only [Act.put, sX, sY, sZ]
        refine anyT_ready (rs := [8]) kR (by simp) (ReadyT.cons gO (fun K hK => ?_) ReadyT.nil)
        go_simp
        refine hK.out _ _ trivial (fun hHeld => ?_)
        clear hK K
        try simp only [Act.put, sX, sY, sZ]
        refine anyT_ready (rs := [9]) kR (by simp) (ReadyT.cons gO (fun K hK => ?_) ReadyT.nil)
        have Z2 := Y2.far (p := ⟨w.heap.size + 1, 0, none⟩) (by show _ ≠ w.heap.size + 1; omega) (.slice A2 n2 c2)
        have c11 := Z2.cell
        have f11 := Z2.free
        go_simp
        refine hK.out _ _ trivial (fun hHeld => ?_)
        clear hK K
        try simp only [Act.put, sX, sY, sZ]
        refine anyT_done kR ?_ _
        obtain ⟨l1, l2, hb⟩ := store2 (w0 := w) (show Below w.heap.size w w3 from bW) (by show w.heap.size ≤ w.heap.size + 1; omega) (by show w.heap.size ≤ w.heap.size + 1 + 1; omega) (by omega) Y1 Y2 (h2.to bW) h3
        have e1 := l1.1.cell
        have e2 := l2.1.cell
        go_wp2_with fail
        exact bodyPost_ret (v := .tuple #[.agg #[.slice A2 n2 c2], .agg #[.slice A3 n3 c3]]) (by simp [results, Try.results56, go_sem, e1, e2]) rfl ⟨A2, n2, c2, A3, n3, c3, rfl, l1.2, l2.2, hb⟩
set_option maxHeartbeats 2000000 in
theorem prod_raised (A : Option Addr) (n c x k : Nat) (w : World) (h : NatAt w A n c x) (hk : k + n ≤ 17592186044416) :
    Calls Try.prog 57 #[.agg #[.slice A n c], .int .i64 (k : Nat)] w (RetNat w (x * W ^ k)) := by
  obtain ⟨i0, hi, hz0, hz1, hz2⟩ := info_parts info_u64
  have B0 := (Blk1.new w 25 (.slice A n c)).alloc (.cells #[.slice none 0 0] 25)
  have B1 := Blk1.new (w.alloc (.cells #[.slice A n c] 25)) 25 (.slice none 0 0)
  simp only [World.size_alloc] at B1
  have hlt : 0 + x * W ^ k < W ^ (k + n) := by rw [Nat.zero_add, Nat.pow_add, Nat.mul_comm]; exact Nat.mul_lt_mul_of_pos_left h.lt (Nat.pow_pos W_pos)
  have HLT := Lib.hid hlt
  clear hlt
  have hbe : Below w.heap.size w ((w.alloc (.cells #[.slice A n c] 25)).alloc (.cells #[.slice none 0 0] 25)) := bW
  go_enter Try.func57, Try.ntmps57
  go_wp2_with fail
  generalize ((w.alloc (.cells #[.slice A n c] 25)).alloc (.cells #[.slice none 0 0] 25)) = we at B0 B1 hbe ⊢
  have s0 := B1.lt
  refine wp_regionT (S := fun w' => w'.cell? ⟨w.heap.size, 0, none⟩ = some (.slice A n c)) [6] kR ((B0.to bW)).cell (fun hHeld => ?_)
  refine anyT_take (i := 0) (v := ?_) gO kR kR kR kR (by exact fun _ _ _ h => h) (Or.inl ⟨by rfl, ?_⟩) (by assumption) ?_
  rotate_left
  · intro w hSw; (try dsimp only at hSw); go_simp; try with_reducible rfl
  try simp only [Act.put, sX, sY, sZ]
  refine anyT_take (i := 2) (v := ?_) gO kR kR kR kR (by exact fun _ _ _ h => h) (Or.inl ⟨by rfl, ?_⟩) (by assumption) ?_
  rotate_left
  · intro w hSw; (try dsimp only at hSw); go_simp; try with_reducible rfl
  try simp only [Act.put, sX, sY, sZ]
  refine anyT_ready (rs := [1, 3]) kR (by simp) (ReadyT.cons gO (fun K hK => ?_) (ReadyT.cons gO (fun K hK => ?_) ReadyT.nil))
  · skip
    rw [if_pos (by rfl)]
    refine wp_make _ _ 22 rfl we.heap.size 30 i0 (.int .u64 0) Try.underlying22 hi hz0 hz1 .i64 .i64 _ _ k rfl rfl rfl rfl (by rw [hz2]; omega) (by unfold maxLen; omega) ((show Below we.heap.size we _ from bW)).size ?_
    intro wm hown hgrow
    rw [show (Value.int .u64 0).cells = #[Value.int .u64 0] from rfl, made_dl .u64 W] at hown
    have hbm := below_of_none hgrow
    refine hK.out _ _ ((B0.to bW)).cell (fun hHeld => ?_)
    clear hK K
    try simp only [Act.put, sX, sY, sZ]
    refine anyT_ready (rs := [3]) kR (by simp) (ReadyT.cons gO (fun K hK => ?_) ReadyT.nil)
    go_simp
    go_at_call 15
    (with_reducible refine (nat_Words A n c x _ (h.to (by exact nx hbe bW)) (by omega)).mono ?_)
    rintro e ww ⟨A1, c1, rfl, ho1, hb1⟩
    obtain ⟨A1', c1', hv, hw, hf1⟩ := own_form ho1 h.lt
    cases hv
    go_simp
    refine hK.out _ _ ((B0.to bW)).cell (fun hHeld => ?_)
    clear hK K
    try simp only [Act.put, sX, sY, sZ]
    refine anyT_ready (rs := [4]) kR (by simp) (ReadyT.cons gO (fun K hK => ?_) ReadyT.nil)
    rw [if_pos (by rfl)]
    refine wp_append _ _ 22 rfl we.heap.size 30 i0 (.int .u64 0) 8 Try.underlying22 hi hz0 hz1 hz2 rfl .u64 W _ k 0 rfl (by first | exact hown | exact own_below hown hb1) _ n _ x rfl (hw.to bW) (by unfold maxLen; omega) (by omega) ((show Below we.heap.size we _ from bW)).size W_pos (Nat.pow_pos W_pos) ?_
    intro v' wa howa hgra
    have hba : Below we.heap.size we wa := ((show Below we.heap.size we _ from bW)).grown hgra ((show Below we.heap.size we _ from bW)).size (fun k hk => (hown.lt k hk).1)
    clear hown
    obtain ⟨A3, c3, rfl, h3, hf3⟩ := own_form howa HLT.out
    refine hK.out _ _ ((B0.to bW)).cell (fun hHeld => ?_)
    clear hK K
    try simp only [Act.put, sX, sY, sZ]
    refine anyT_ready (rs := [5]) kR (by simp) (ReadyT.cons gO (fun K hK => ?_) ReadyT.nil)
    go_simp
    go_at_call 13
    (with_reducible refine (nat_Of _ _ _ _ _ (h3.to bW) (by omega)).mono ?_)
    rintro e w4 ⟨A4, n4, c4, rfl, h4, hb4, hm4⟩
    have hb5 : Below we.heap.size we w4 := nx hba bW
    have Y1 := B1.to hb5
    have c10 := Y1.cell
    have f10 := Y1.free
    go_simp
    refine hK.out _ _ ((B0.to bW)).cell (fun hHeld => ?_)
    clear hK K
    try simp only [Act.put, sX, sY, sZ]
    refine anyT_ready (rs := [6]) kR (by simp) (ReadyT.last gO (by rfl) (fun K hK => ?_))
    go_simp
    refine hK.out _ _ ?_
    clear hK K
    try simp only [Act.put, sX, sY, sZ]
    refine anyT_done kR ?_ _
    obtain ⟨l1, hb⟩ := store1 (w0 := w) (nx hbe hb5) (by show w.heap.size ≤ w.heap.size + 1; omega) Y1 h4
    have e1 := l1.1.cell
    go_wp2_with fail
    exact bodyPost_ret (v := .agg #[.slice A4 n4 c4]) (by simp [results, Try.results57, go_sem, e1]) rfl ⟨A4, n4, c4, rfl, by have := l1.2; rwa [Nat.zero_add] at this, hb⟩
  · skip
    go_simp
    go_at_call 15
    (with_reducible refine (nat_Words A n c x _ (h.to (by exact nx hbe bW)) (by omega)).mono ?_)
    rintro e ww ⟨A1, c1, rfl, ho1, hb1⟩
    obtain ⟨A1', c1', hv, hw, hf1⟩ := own_form ho1 h.lt
    cases hv
    go_simp
    refine hK.out _ _ ((B0.to bW)).cell (fun hHeld => ?_)
    clear hK K
    try simp only [Act.put, sX, sY, sZ]
    refine anyT_ready (rs := [1]) kR (by simp) (ReadyT.cons gO (fun K hK => ?_) ReadyT.nil)
    rw [if_pos (by rfl)]
    refine wp_make _ _ 22 rfl we.heap.size 30 i0 (.int .u64 0) Try.underlying22 hi hz0 hz1 .i64 .i64 _ _ k rfl rfl rfl rfl (by rw [hz2]; omega) (by unfold maxLen; omega) ((show Below we.heap.size we _ from bW)).size ?_
    intro wm hown hgrow
    rw [show (Value.int .u64 0).cells = #[Value.int .u64 0] from rfl, made_dl .u64 W] at hown
    have hbm := below_of_none hgrow
    refine hK.out _ _ ((B0.to bW)).cell (fun hHeld => ?_)
    clear hK K
    try simp only [Act.put, sX, sY, sZ]
    refine anyT_ready (rs := [4]) kR (by simp) (ReadyT.cons gO (fun K hK => ?_) ReadyT.nil)
    rw [if_pos (by rfl)]
    refine wp_append _ _ 22 rfl we.heap.size 30 i0 (.int .u64 0) 8 Try.underlying22 hi hz0 hz1 hz2 rfl .u64 W _ k 0 rfl (by first | exact hown | exact own_below hown hb1) _ n _ x rfl (hw.to bW) (by unfold maxLen; omega) (by omega) ((show Below we.heap.size we _ from bW)).size W_pos (Nat.pow_pos W_pos) ?_
    intro v' wa howa hgra
    have hba : Below we.heap.size we wa := ((show Below we.heap.size we _ from bW)).grown hgra ((show Below we.heap.size we _ from bW)).size (fun k hk => (hown.lt k hk).1)
    clear hown
    obtain ⟨A3, c3, rfl, h3, hf3⟩ := own_form howa HLT.out
    refine hK.out _ _ ((B0.to bW)).cell (fun hHeld => ?_)
    clear hK K
    try simp only [Act.put, sX, sY, sZ]
    refine anyT_ready (rs := [5]) kR (by simp) (ReadyT.cons gO (fun K hK => ?_) ReadyT.nil)
    go_simp
    go_at_call 13
    (with_reducible refine (nat_Of _ _ _ _ _ (h3.to bW) (by omega)).mono ?_)
    rintro e w4 ⟨A4, n4, c4, rfl, h4, hb4, hm4⟩
    have hb5 : Below we.heap.size we w4 := nx hba bW
    have Y1 := B1.to hb5
    have c10 := Y1.cell
    have f10 := Y1.free
    go_simp
    refine hK.out _ _ ((B0.to bW)).cell (fun hHeld => ?_)
    clear hK K
    try simp only [Act.put, sX, sY, sZ]
    refine anyT_ready (rs := [6]) kR (by simp) (ReadyT.last gO (by rfl) (fun K hK => ?_))
    go_simp
    refine hK.out _ _ ?_
    clear hK K
    try simp only [Act.put, sX, sY, sZ]
    refine anyT_done kR ?_ _
    obtain ⟨l1, hb⟩ := store1 (w0 := w) (nx hbe hb5) (by show w.heap.size ≤ w.heap.size + 1; omega) Y1 h4
    have e1 := l1.1.cell
    go_wp2_with fail
    exact bodyPost_ret (v := .agg #[.slice A4 n4 c4]) (by simp [results, Try.results57, go_sem, e1]) rfl ⟨A4, n4, c4, rfl, by have := l1.2; rwa [Nat.zero_add] at this, hb⟩
end Go.Proofs.Ytflleaifmeiikaa
set_option linter.unusedVariables false
set_option linter.unusedSimpArgs false
namespace Go.Proofs.Ytflleaifmeiikaa
open Go.RowKit
set_option maxRecDepth 100000
set_option maxHeartbeats 2000000 in
theorem prod_school (A : Option Addr) (n c x : Nat) (A' : Option Addr) (n' c' y : Nat) (w : World) (h : NatAt w A n c x) (h' : NatAt w A' n' c' y) (hn : n + n' ≤ 17592186044416) :
    Calls Try.prog 55 #[.agg #[.slice A n c], .agg #[.slice A' n' c']] w (RetNat w (x * y)) := by
  obtain ⟨i0, hi, hz0, hz1, hz2⟩ := info_parts info_u64
  have m1 := h.1.max
  have m2 := h.1.cap
  have m3 := h'.1.max
  have m4 := h'.1.cap
  have B0 := ((Blk1.new w 25 (.slice A n c)).alloc (.cells #[.slice A' n' c'] 25)).alloc (.cells #[.slice none 0 0] 25)
  have B1 := (Blk1.new (w.alloc (.cells #[.slice A n c] 25)) 25 (.slice A' n' c')).alloc (.cells #[.slice none 0 0] 25)
  have B2 := Blk1.new ((w.alloc (.cells #[.slice A n c] 25)).alloc (.cells #[.slice A' n' c'] 25)) 25 (.slice none 0 0)
  simp only [World.size_alloc] at B1 B2
  have hbe : Below w.heap.size w (((w.alloc (.cells #[.slice A n c] 25)).alloc (.cells #[.slice A' n' c'] 25)).alloc (.cells #[.slice none 0 0] 25)) := bW
  go_enter Try.func55, Try.ntmps55
  go_wp2_with fail
  generalize (((w.alloc (.cells #[.slice A n c] 25)).alloc (.cells #[.slice A' n' c'] 25)).alloc (.cells #[.slice none 0 0] 25)) = we at B0 B1 B2 hbe ⊢
  have s0 := B2.lt
  have hx := h.to hbe
  have hy := h'.to hbe
  refine wp_regionT (S := fun w' => w'.cell? ⟨w.heap.size, 0, none⟩ = some (.slice A n c) ∧ w'.cell? ⟨w.heap.size + 1, 0, none⟩ = some (.slice A' n' c')) [] kR ⟨((B0.to bW)).cell, ((B1.to bW)).cell⟩ (fun hHeld => ?_)
  refine anyT_take (i := 0) (v := ?_) gO kR kR kR kR (by exact fun _ _ _ h => h) (Or.inl ⟨by rfl, ?_⟩) (by assumption) ?_
  rotate_left
  · intro w hSw; (try dsimp only at hSw); go_simp; try with_reducible rfl
  try simp only [Act.put, sX, sY, sZ]
  refine anyT_take (i := 2) (v := ?_) gO kR kR kR kR (by exact fun _ _ _ h => h) (Or.inl ⟨by rfl, ?_⟩) (by assumption) ?_
  rotate_left
  · intro w hSw; (try dsimp only at hSw); go_simp; try with_reducible rfl
  try simp only [Act.put, sX, sY, sZ]
  refine anyT_ready (rs := [1]) kR (by simp) (ReadyT.cons gO (fun K hK => ?_) ReadyT.nil)
  go_simp
  go_at_call 43
  (with_reducible refine (nat_Len A n c _).mono ?_)
  rintro e w1 ⟨rfl, hb1⟩
  go_simp
  refine hK.out _ _ ⟨((B0.to bW)).cell, ((B1.to bW)).cell⟩ (fun hHeld => ?_)
  clear hK K
  try simp only [Act.put, sX, sY, sZ]
  refine anyT_ready (rs := [3]) kR (by simp) (ReadyT.cons gO (fun K hK => ?_) ReadyT.nil)
  go_simp
  go_at_call 43
  (with_reducible refine (nat_Len A' n' c' _).mono ?_)
  rintro e w2 ⟨rfl, hb2⟩
  go_simp
  refine hK.out _ _ ⟨((B0.to bW)).cell, ((B1.to bW)).cell⟩ (fun hHeld => ?_)
  clear hK K
  try simp only [Act.put, sX, sY, sZ]
  refine anyT_take (i := 4) (v := ?_) gO kR kR kR kR (by exact fun _ _ _ h => h) (Or.inl ⟨by rfl, ?_⟩) (by assumption) ?_
  rotate_left
  · intro w hSw; (try dsimp only at hSw); go_simp; try with_reducible rfl
  try simp only [Act.put, sX, sY, sZ]
  refine anyT_ready (rs := [5]) kR (by simp) (ReadyT.cons gO (fun K hK => ?_) ReadyT.nil)
  rw [if_pos (by rfl)]
  refine wp_make _ _ 22 rfl we.heap.size 30 i0 (.int .u64 0) Try.underlying22 hi hz0 hz1 .i64 .i64 _ _ (n + n') rfl rfl (by rw [IntWalk.i64_in _ (by omega)]; omega) (by rw [IntWalk.i64_in _ (by omega)]; omega) (by rw [hz2]; omega) (by unfold maxLen; omega) (show Below we.heap.size we _ from bW).size ?_
  intro wm hown hgrow
  rw [show (Value.int .u64 0).cells = #[Value.int .u64 0] from rfl, made_dl .u64 W] at hown
  have hbm := below_of_none hgrow
  refine hK.out _ _ ⟨((B0.to bW)).cell, ((B1.to bW)).cell⟩ (fun hHeld => ?_)
  clear hK K
  try simp only [Act.put, sX, sY, sZ]
  refine anyT_take (i := 6) (v := ?_) gO kR kR kR kR (by exact fun _ _ _ h => h) (Or.inl ⟨by rfl, ?_⟩) (by assumption) ?_
  rotate_left
  · intro w hSw; (try dsimp only at hSw); go_simp; try with_reducible rfl
  try simp only [Act.put, sX, sY, sZ]
  refine anyT_done kR ?_ _
  have hbl : Below we.heap.size we wm := bW
  obtain ⟨G, hG⟩ : ∃ G, G = w2.heap.size := ⟨_, rfl⟩
  have hGs : we.heap.size ≤ G := by rw [hG]; exact (show Below we.heap.size we w2 from bW).size
  rw [← hG] at hown ⊢
  clear hgrow hbm hG hb1 hb2 hHeld
  have c0 := (B0.to hbl).cell
  go_wp2_with fail
  refine (nat_Len A n c _).mono ?_
  rintro e w3 ⟨rfl, hb3⟩
  have hown3 := own_below hown hb3
  have hbl3 : Below we.heap.size we w3 := nx hbl hb3
  clear hown hbl hb3 c0
  go_wp2_with fail
  go_loopw [6, 7, 8, 17] (fun _ _ _ t wr => ∃ i : Nat, i ≤ n ∧ t = .int .i64 (i : Int) ∧ wr.ownsRow we.heap.size 30 1 (.slice (some ⟨G, 0, none⟩) (n + n') (n + n')) (n + n') (dl .u64 W (n + n') (low W i x * y)) ∧ Below we.heap.size we wr) (fun _ _ _ t _ => n - (intOf t).toNat)
  case atStart => exact ⟨0, Nat.zero_le _, rfl, by rw [low_nought, Nat.zero_mul]; exact hown3, hbl3⟩
  case round =>
    clear hown3 hbl3
    obtain ⟨i, hin, rfl, hown, hbl⟩ := hrel
    by_cases hlt : i < n
    · have c1 := (B1.to hbl).cell
      have iN : (i : Int) < (n : Int) := by omega
      go_wp2_with fail
      refine (nat_Len A' n' c' _).mono ?_
      rintro e w4 ⟨rfl, hb4⟩
      have hown4 := own_below hown hb4
      have hbl4 : Below we.heap.size we w4 := nx hbl hb4
      clear hown hbl hb4 c1
      obtain ⟨P, hP⟩ : ∃ P, P = low W i x * y := ⟨_, rfl⟩
      obtain ⟨D, hD⟩ : ∃ D, D = dg W i x := ⟨_, rfl⟩
      have hDw : D < W := by rw [hD]; exact dg_lt W_pos _ _
      have HNX := Lib.hid (show P + D * y * W ^ i = low W (i + 1) x * y by rw [hP, hD]; exact school_next)
      have HPL := Lib.hid (show P < W ^ (i + n') by rw [hP]; exact school_row_lt hy.lt)
      rw [← hP] at hown4
      have HP := Lib.hid hP
      have HD := Lib.hid hD
      clear hP hD
      go_wp2_with fail
      go_loopw [7, 8, 22] (fun v _ t wr => ∃ k ov O : Nat, k ≤ n' ∧ t = .int .i64 (k : Int) ∧ v = .int .u64 (ov : Nat) ∧ ov < W ∧ O + ov * W ^ (i + k) = P + D * low W k y * W ^ i ∧ up W (i + k) O = up W (i + k) P ∧ wr.ownsRow we.heap.size 30 1 (.slice (some ⟨G, 0, none⟩) (n + n') (n + n')) (n + n') (dl .u64 W (n + n') (O)) ∧ Below we.heap.size we wr) (fun _ _ t _ => n' - (intOf t).toNat)
      case atStart => exact ⟨0, 0, P, Nat.zero_le _, rfl, rfl, W_pos, by rw [low_nought]; simp, rfl, hown4, hbl4⟩
      case round =>
        clear hown4 hbl4
        obtain ⟨k, ov, O, hkn, rfl, rfl, hov, hO, hU, hown, hbl⟩ := hrel
        by_cases hkl : k < n'
        · have kN : (k : Int) < (n' : Int) := by omega
          obtain ⟨s1, s2⟩ := school_step hDw hov hO hU
          obtain ⟨d, hd⟩ : ∃ d, d = dg W (i + k) O := ⟨_, rfl⟩
          have hdw : d < W := by rw [hd]; exact dg_lt W_pos _ _
          have hgw := dg_lt W_pos k y
          rw [← hd] at s1 s2
          have hlw := maLo_lt D (dg W k y) d ov
          have hhw := maHi_lt (a := d) (b := ov) hDw hgw hdw hov
          obtain ⟨lo, hlo⟩ : ∃ lo, lo = maLo D (dg W k y) d ov := ⟨_, rfl⟩
          obtain ⟨hi', hhi⟩ : ∃ hi, hi = maHi D (dg W k y) d ov := ⟨_, rfl⟩
          rw [← hlo] at s1 s2 hlw
          rw [← hhi] at s1 hhw
          have S1 := Lib.hid s1
          have S2 := Lib.hid s2
          have HLO := Lib.hid hlo
          have HHI := Lib.hid hhi
          have cG := hown.cellAt (i + k) (by omega)
          rw [dl_get _ _ _ _ _ (by omega), ← hd] at cG
          have iM : i ≤ 9223372036854775807 := by omega
          have kM : k ≤ 9223372036854775807 := by omega
          have zi1 : IntKind.i64.wrap ((i : Int) + (k : Int)) = (i : Int) + (k : Int) := IntWalk.i64_in _ (by omega)
          have zi2 : 0 ≤ (i : Int) + (k : Int) := by omega
          have zi3 : (i : Int) + (k : Int) < (n : Int) + (n' : Int) := by omega
          have zi4 : ((i : Int) + (k : Int)).toNat = i + k := by omega
          have C0 := (B0.to hbl).cell
          have C1 := (B1.to hbl).cell
          clear s1 s2 hlo hhi hd hO hU
          go_wp2_with fail
          refine wp_regionT (S := fun w' => w'.cell? ⟨w.heap.size, 0, none⟩ = some (.slice A n c) ∧ w'.cell? ⟨w.heap.size + 1, 0, none⟩ = some (.slice A' n' c') ∧ w'.cell? ⟨G, i + k, none⟩ = some (.int .u64 (d : Nat))) [23] kR ⟨cellB (show Below wr.heap.size wr _ from bW) C0, cellB (show Below wr.heap.size wr _ from bW) C1, cellB (show Below wr.heap.size wr _ from bW) cG⟩ (fun hHeld => ?_)
          refine anyT_take (i := 0) (v := ?_) gO kR kR kR kR (by exact fun _ _ _ h => h) (Or.inl ⟨by rfl, ?_⟩) (by assumption) ?_
          rotate_left
          · intro w hSw; (try dsimp only at hSw); go_simp; try with_reducible rfl
          try simp only [Act.put, sX, sY, sZ]
          refine anyT_take (i := 1) (v := ?_) gO kR kR kR kR (by exact fun _ _ _ h => h) (Or.inl ⟨by rfl, ?_⟩) (by assumption) ?_
          rotate_left
          · intro w hSw; (try dsimp only at hSw); go_simp; try with_reducible rfl
          try simp only [Act.put, sX, sY, sZ]
          refine anyT_take (i := 2) (v := ?_) gO kR kR kR kR (by exact fun _ _ _ h => h) (Or.inl ⟨by rfl, ?_⟩) (by assumption) ?_
          rotate_left
          · intro w hSw; (try dsimp only at hSw); go_simp; try with_reducible rfl
          try simp only [Act.put, sX, sY, sZ]
          refine anyT_take (i := 3) (v := ?_) gO kR kR kR kR (by exact fun _ _ _ h => h) (Or.inl ⟨by rfl, ?_⟩) (by assumption) ?_
          rotate_left
          · intro w hSw; (try dsimp only at hSw); go_simp; try with_reducible rfl
          try simp only [Act.put, sX, sY, sZ]
          refine anyT_take (i := 4) (v := ?_) gO kR kR kR kR (by exact fun _ _ _ h => h) (Or.inl ⟨by rfl, ?_⟩) (by assumption) ?_
          rotate_left
          · intro w hSw; (try dsimp only at hSw); go_simp; try with_reducible rfl
          try simp only [Act.put, sX, sY, sZ]
          refine anyT_take (i := 5) (v := ?_) gO kR kR kR kR (by exact fun _ _ _ h => h) (Or.inl ⟨by rfl, ?_⟩) (by assumption) ?_
          rotate_left
          · intro w hSw; (try dsimp only at hSw); go_simp; try with_reducible rfl
          try simp only [Act.put, sX, sY, sZ]
          refine anyT_take (i := 7) (v := ?_) gO kR kR kR kR (by exact fun _ _ _ h => h) (Or.inl ⟨by rfl, ?_⟩) (by assumption) ?_
          rotate_left
          · intro w hSw; (try dsimp only at hSw); go_simp; try with_reducible rfl
          try simp only [Act.put, sX, sY, sZ]
          refine anyT_take (i := 8) (v := ?_) gO kR kR kR kR (by exact fun _ _ _ h => h) (Or.inl ⟨by rfl, ?_⟩) (by assumption) ?_
          rotate_left
          · intro w hSw; (try dsimp only at hSw); go_simp; try with_reducible rfl
          try simp only [Act.put, sX, sY, sZ]
          refine anyT_take (i := 10) (v := ?_) gO kR kR kR kR (by exact fun _ _ _ h => h) (Or.inl ⟨by rfl, ?_⟩) (by assumption) ?_
          rotate_left
          · intro w hSw; (try dsimp only at hSw); go_simp; try with_reducible rfl
          try simp only [Act.put, sX, sY, sZ]
          refine anyT_take (i := 11) (v := ?_) gO kR kR kR kR (by exact fun _ _ _ h => h) (Or.inl ⟨by rfl, ?_⟩) (by assumption) ?_
          rotate_left
          · intro w hSw; (try dsimp only at hSw); go_simp; try with_reducible rfl
          try simp only [Act.put, sX, sY, sZ]
          refine anyT_take (i := 12) (v := ?_) gO kR kR kR kR (by exact fun _ _ _ h => h) (Or.inl ⟨by rfl, ?_⟩) (by assumption) ?_
          rotate_left
          · intro w hSw; (try dsimp only at hSw); go_simp; try with_reducible rfl
          try simp only [Act.put, sX, sY, sZ]
          refine anyT_take (i := 13) (v := ?_) gO kR kR kR kR (by exact fun _ _ _ h => h) (Or.inl ⟨by rfl, ?_⟩) (by assumption) ?_
          rotate_left
          · intro w hSw; (try dsimp only at hSw); go_simp; try with_reducible rfl
          try simp only [Act.put, sX, sY, sZ]
          refine anyT_take (i := 14) (v := ?_) gO kR kR kR kR (by exact fun _ _ _ h => h) (Or.inl ⟨by rfl, ?_⟩) (by assumption) ?_
          rotate_left
          · intro w hSw; (try dsimp only at hSw); go_simp; try with_reducible rfl
          try simp only [Act.put, sX, sY, sZ]
          refine anyT_take (i := 15) (v := ?_) gO kR kR kR kR (by exact fun _ _ _ h => h) (Or.inl ⟨by rfl, ?_⟩) (by assumption) ?_
          rotate_left
          · intro w hSw; (try dsimp only at hSw); go_simp; try with_reducible rfl
          try simp only [Act.put, sX, sY, sZ]
          refine anyT_take (i := 16) (v := ?_) gO kR kR kR kR (by exact fun _ _ _ h => h) (Or.inl ⟨by rfl, ?_⟩) (by assumption) ?_
          rotate_left
          · intro w hSw; (try dsimp only at hSw); go_simp; try with_reducible rfl
          try simp only [Act.put, sX, sY, sZ]
          refine anyT_ready (rs := [6]) kR (by simp) (ReadyT.cons gO (fun K hK => ?_) ReadyT.nil)
          go_simp
          go_at_call 20
          (with_reducible refine (nat_Word A n c x i _ (hx.to (by exact nx hbl bW)) iM).mono ?_)
          rw [← HD.out]
          rintro e w5 ⟨rfl, hb5⟩
          go_simp
          refine hK.out _ _ ⟨cellB (show Below wr.heap.size wr _ from bW) C0, cellB (show Below wr.heap.size wr _ from bW) C1, cellB (show Below wr.heap.size wr _ from bW) cG⟩ (fun hHeld => ?_)
          clear hK K
          try simp only [Act.put, sX, sY, sZ]
          refine anyT_ready (rs := [9]) kR (by simp) (ReadyT.cons gO (fun K hK => ?_) ReadyT.nil)
          go_simp
          go_at_call 20
          (with_reducible refine (nat_Word A' n' c' y k _ (hy.to (by exact nx hbl bW)) kM).mono ?_)
          rintro e w6 ⟨rfl, hb6⟩
          have ho6 := own_below hown (show Below wr.heap.size wr w6 from bW)
          have f6 := ho6.frozenAt (i + k)
          have c6 := cellB (show Below wr.heap.size wr w6 from bW) cG
          go_simp
          refine hK.out _ _ ⟨cellB (show Below wr.heap.size wr _ from bW) C0, cellB (show Below wr.heap.size wr _ from bW) C1, cellB (show Below wr.heap.size wr _ from bW) cG⟩ (fun hHeld => ?_)
          clear hK K
          try simp only [Act.put, sX, sY, sZ]
          refine anyT_ready (rs := [17]) kR (by simp) (ReadyT.cons gO (fun K hK => ?_) ReadyT.nil)
          go_simp
          go_at_call 71
          (with_reducible refine (word_MulAdd D _ d ov _ hDw hgw hdw hov).mono ?_)
          rw [← HLO.out, ← HHI.out]
          rintro e w7 ⟨rfl, rfl⟩
          go_simp
          refine hK.out _ _ ⟨cellB (show Below wr.heap.size wr _ from bW) C0, cellB (show Below wr.heap.size wr _ from bW) C1, cellB (show Below wr.heap.size wr _ from bW) cG⟩ (fun hHeld => ?_)
          clear hK K
          try simp only [Act.put, sX, sY, sZ]
          refine anyT_take (i := 18) (v := ?_) gO kR kR kR kR (by exact fun _ _ _ h => h) (Or.inl ⟨by rfl, ?_⟩) (by assumption) ?_
          rotate_left
          · intro w hSw; (try dsimp only at hSw); go_simp; try with_reducible rfl
          try simp only [Act.put, sX, sY, sZ]
          refine anyT_take (i := 19) (v := ?_) gO kR kR kR kR (by exact fun _ _ _ h => h) (Or.inl ⟨by rfl, ?_⟩) (by assumption) ?_
          rotate_left
          · intro w hSw; (try dsimp only at hSw); go_simp; try with_reducible rfl
          try simp only [Act.put, sX, sY, sZ]
          refine anyT_take (i := 20) (v := ?_) gO kR kR kR kR (by exact fun _ _ _ h => h) (Or.inl ⟨by rfl, ?_⟩) (by assumption) ?_
          rotate_left
          · intro w hSw; (try dsimp only at hSw); go_simp; try with_reducible rfl
          try simp only [Act.put, sX, sY, sZ]
          refine anyT_take (i := 21) (v := ?_) gO kR kR kR kR (by exact fun _ _ _ h => h) (Or.inl ⟨by rfl, ?_⟩) (by assumption) ?_
          rotate_left
          · intro w hSw; (try dsimp only at hSw); go_simp; try with_reducible rfl
          try simp only [Act.put, sX, sY, sZ]
          refine anyT_take (i := 22) (v := ?_) gO kR kR kR kR (by exact fun _ _ _ h => h) (Or.inl ⟨by rfl, ?_⟩) (by assumption) ?_
          rotate_left
          · intro w hSw; (try dsimp only at hSw); go_simp; try with_reducible rfl
          try simp only [Act.put, sX, sY, sZ]
          refine anyT_ready (rs := [23]) kR (by simp) (ReadyT.last gO (by rfl) (fun K hK => ?_))
          go_simp
          refine hK.out _ _ ?_
          clear hK K
          try simp only [Act.put, sX, sY, sZ]
          refine anyT_done kR ?_ _
          have hb7 : Below we.heap.size we w6 := nx hbl (show Below wr.heap.size wr w6 from bW)
          have ho := (ho6.stored (i + k) (.int .u64 (lo : Nat))).1
          rw [dl_set W_pos (by omega) hlw] at ho
          have hbl' := hb7.setCell (p := ⟨G, i + k, none⟩) hGs (.int .u64 (lo : Nat))
          clear zi1 zi2 zi3 zi4 hb5 hb6 hb7 ho6 f6 c6 cG C0 C1 hown hbl hHeld
          go_wp2_with fail
          go_roundw
          case rel => exact ⟨k + 1, hi', _, by omega, by go_num, rfl, hhw, S1.out, S2.out, ho, hbl'⟩
          case measure => simp [intOf]; omega
        · obtain rfl : k = n' := by omega
          have HE := Lib.hid (school_end HPL.out hov hy.lt hO hU)
          have C1 := (B1.to hbl).cell
          clear hO hU
          go_wp2_with fail
          refine (nat_Len A' k c' _).mono ?_
          rintro e w5 ⟨rfl, hb5⟩
          have ho5 := own_below hown (show Below wr.heap.size wr w5 from bW)
          have f5 := ho5.frozenAt (i + k)
          have c5 := ho5.cellAt (i + k) (by omega)
          rw [dl_get _ _ _ _ _ (by omega)] at c5
          have zi1 : IntKind.i64.wrap ((i : Int) + (k : Int)) = (i : Int) + (k : Int) := IntWalk.i64_in _ (by omega)
          have zi2 : 0 ≤ (i : Int) + (k : Int) := by omega
          have zi3 : (i : Int) + (k : Int) < (n : Int) + (k : Int) := by omega
          have zi4 : ((i : Int) + (k : Int)).toNat = i + k := by omega
          have hb7 : Below we.heap.size we w5 := nx hbl (show Below wr.heap.size wr w5 from bW)
          have ho := (ho5.stored (i + k) (.int .u64 (ov : Nat))).1
          rw [dl_set W_pos (by omega) hov, HE.out, HNX.out] at ho
          have hbl' := hb7.setCell (p := ⟨G, i + k, none⟩) hGs (.int .u64 (ov : Nat))
          clear hb5 hb7 ho5 C1 hown hbl
          go_wp2_with fail
          clear zi1 zi2 zi3 zi4 c5 f5
          go_roundw
          case rel => exact ⟨i + 1, by omega, by go_num, ho, hbl'⟩
          case measure => simp [intOf]; omega
    · obtain rfl : i = n := by omega
      rw [low_all hx.lt] at hown
      obtain ⟨A1, c1, hv, hd, hf⟩ := own_form hown (mul_lt_pow hx.lt hy.lt)
      cases hv
      clear hown
      go_wp2_with fail
      refine (nat_Of _ _ _ _ _ hd (by omega)).mono ?_
      rintro e w5 ⟨A2, n2, c2, rfl, h2, hb5, hm2⟩
      have Y := (B2.to hbl).to hb5
      obtain ⟨l1, hb⟩ := store1 (w0 := w) (nx hbe (nx hbl hb5)) (by show w.heap.size ≤ w.heap.size + 1 + 1; omega) Y h2
      have c6 := Y.cell
      have f6 := Y.free
      have e1 := l1.1.cell
      clear hd hf hb5
      go_wp2_with fail
      exact bodyPost_ret (v := .agg #[.slice A2 n2 c2]) (by simp [results, Try.results55, go_sem, e1]) rfl ⟨A2, n2, c2, rfl, l1.2, hb⟩
end Go.Proofs.Ytflleaifmeiikaa
