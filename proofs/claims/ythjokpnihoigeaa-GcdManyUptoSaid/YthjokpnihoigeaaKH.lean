/- Plain law of division, word by word: the guess, what is taken, what is put back. No program in sight.
   The walks of package quot, first part: by a word, the guess.
   The walks of package quot, second part: guess, take, back.
   The walks of package quot, third part: take, back.
   Plain law: a number shifted up till its highest bit is 1.
   Plain law: one turn of the long division's loop, from the guess to the next row. -/
import Derived.Test.YthjokpnihoigeaaKE
import Derived.Test.YthjokpnihoigeaaKA
import Derived.Test.YthjokpnihoigeaaKD
set_option linter.unusedVariables false
set_option linter.unusedSimpArgs false
namespace Go.Proofs.Ythjokpnihoigeaa
/-- the guessed word -/
def gss (u v : Nat) : Nat := min (W - 1) (u / v)
theorem gss_lt (u v : Nat) : gss u v < W := by unfold gss; have := W_pos; omega
/-- what holds of a candidate: it is not too small, and q times v1, and what is left, are u's two highest words -/
def Cand (u2 u1 u0 v1 v0 q r : Nat) : Prop := q * v1 + r = u2 * W + u1 ∧ gss ((u2 * W + u1) * W + u0) (v1 * W + v0) ≤ q ∧ q < W
theorem Cand.fit {u2 u1 u0 v1 v0 q r : Nat} (h : Cand u2 u1 u0 v1 v0 q r) (hv : 0 < v1) (hq : q * v0 ≤ r * W + u0) : q = gss ((u2 * W + u1) * W + u0) (v1 * W + v0) := by
  obtain ⟨h1, h2, h3⟩ := h
  have hvp : 0 < v1 * W + v0 := by have := Nat.mul_pos hv W_pos; omega
  refine Nat.le_antisymm ?_ h2
  have h4 : q * (v1 * W + v0) ≤ (u2 * W + u1) * W + u0 := by
    rw [← h1, Nat.mul_add, Nat.add_mul, Nat.mul_assoc]
    omega
  have h5 := (Nat.le_div_iff_mul_le hvp).2 h4
  have h6 : q ≤ W - 1 := Nat.le_sub_one_of_lt h3
  unfold gss
  generalize ((u2 * W + u1) * W + u0) / (v1 * W + v0) = z at *
  generalize W - 1 = y at *
  omega
theorem Cand.down {u2 u1 u0 v1 v0 q r : Nat} (h : Cand u2 u1 u0 v1 v0 q r) (hq : r * W + u0 < q * v0) : 0 < q ∧ Cand u2 u1 u0 v1 v0 (q - 1) (r + v1) := by
  obtain ⟨h1, h2, h3⟩ := h
  have hq0 : 0 < q := by
    rcases Nat.eq_zero_or_pos q with h0 | h0
    · subst h0; simp at hq
    · exact h0
  refine ⟨hq0, ?_, ?_, by omega⟩
  · obtain ⟨p, rfl⟩ : ∃ p, q = p + 1 := ⟨q - 1, by omega⟩
    rw [Nat.add_sub_cancel, ← h1, Nat.add_mul]; omega
  · have h4 : (u2 * W + u1) * W + u0 < q * (v1 * W + v0) := by
      rw [← h1, Nat.mul_add, Nat.add_mul, Nat.mul_assoc]
      omega
    have h5 : (u2 * W + u1) * W + u0 < (v1 * W + v0) * q := by rw [Nat.mul_comm (v1 * W + v0) q]; exact h4
    have h6 := Nat.div_lt_of_lt_mul h5
    unfold gss
    generalize ((u2 * W + u1) * W + u0) / (v1 * W + v0) = z at *
    omega
theorem over_fits {q v0 r u0 : Nat} (hq : q < W) (hv : v0 < W) (hr : W ≤ r) : q * v0 ≤ r * W + u0 := by
  have h1 : q * v0 ≤ W * W := Nat.mul_le_mul (Nat.le_of_lt hq) (Nat.le_of_lt hv)
  have h2 : W * W ≤ r * W := Nat.mul_le_mul_right _ hr
  omega
theorem Cand.start {u2 u1 u0 v1 v0 : Nat} (h : u2 < v1) (hv : v1 < W) (h1 : u1 < W) (h0 : u0 < W) : Cand u2 u1 u0 v1 v0 ((u2 * W + u1) / v1) ((u2 * W + u1) % v1) := by
  refine ⟨Nat.div_add_mod' _ _, ?_, ?_⟩
  · have e : (u2 * W + u1) / v1 = ((u2 * W + u1) * W) / (v1 * W) := (Nat.mul_div_mul_right _ _ W_pos).symm
    have hd : ((u2 * W + u1) * W + u0) / (v1 * W + v0) ≤ ((u2 * W + u1) * W + u0) / (v1 * W) := Nat.div_le_div_left (by omega) (Nat.mul_pos (by omega) W_pos)
    have hd2 : ((u2 * W + u1) * W + u0) / (v1 * W) = (u2 * W + u1) / v1 := by
      rw [Nat.mul_comm v1 W, ← Nat.div_div_eq_div_mul, Nat.mul_comm _ W, Nat.mul_add_div W_pos, Nat.div_eq_of_lt h0, Nat.add_zero]
    unfold gss
    omega
  · apply Nat.div_lt_of_lt_mul
    have : (u2 + 1) * W ≤ v1 * W := Nat.mul_le_mul_right _ h
    rw [Nat.add_mul] at this
    omega
theorem Cand.big {u1 u0 v1 v0 : Nat} (hv : 0 < v1) : Cand v1 u1 u0 v1 v0 (W - 1) (u1 + v1) := by
  refine ⟨?_, ?_, ?_⟩
  · have hm : (W - 1) * v1 + 1 * v1 = W * v1 := by rw [← Nat.add_mul]; rfl
    rw [Nat.mul_comm v1 W]; omega
  · unfold gss; omega
  · have := W_pos; omega
/-- the guess is right or one too great -/
theorem gss_near {v2 t u3 vl ul : Nat} (hv2 : W ≤ v2) (hvl : vl < t) (hul : ul < t) (hlt : u3 * t + ul < (v2 * t + vl) * W) :
    (u3 * t + ul) / (v2 * t + vl) ≤ gss u3 v2 ∧ gss u3 v2 ≤ (u3 * t + ul) / (v2 * t + vl) + 1 := by
  have ht : 0 < t := by omega
  have hvp : 0 < v2 * t + vl := by have := Nat.mul_pos (show 0 < v2 by have := W_pos; omega) ht; omega
  have hq : (u3 * t + ul) / (v2 * t + vl) < W := Nat.div_lt_of_lt_mul hlt
  generalize hQ : (u3 * t + ul) / (v2 * t + vl) = q at *
  have h1 : q * (v2 * t + vl) ≤ u3 * t + ul := by rw [← hQ]; exact Nat.div_mul_le_self _ _
  have h2 : u3 * t + ul < (q + 1) * (v2 * t + vl) := by
    have := Nat.lt_mul_div_succ (u3 * t + ul) hvp
    rw [hQ, Nat.mul_comm (v2 * t + vl) (q + 1)] at this
    exact this
  constructor
  · have h3 : q * v2 ≤ u3 := by
      have : q * v2 * t < (u3 + 1) * t := by
        rw [Nat.mul_add, ← Nat.mul_assoc] at h1
        rw [Nat.add_mul]; omega
      have := Nat.lt_of_mul_lt_mul_right this
      omega
    have := (Nat.le_div_iff_mul_le (show 0 < v2 by have := W_pos; omega)).2 h3
    unfold gss; omega
  · have hgl := gss_lt u3 v2
    have hg : gss u3 v2 * v2 ≤ u3 := by
      have : gss u3 v2 ≤ u3 / v2 := by unfold gss; omega
      exact Nat.le_trans (Nat.mul_le_mul_right _ this) (Nat.div_mul_le_self _ _)
    generalize gss u3 v2 = g at *
    have h4 : g * (v2 * t + vl) < (q + 2) * (v2 * t + vl) := by
      have e1 : g * v2 * t ≤ u3 * t := Nat.mul_le_mul_right _ hg
      have e2 : g * vl ≤ W * vl := Nat.mul_le_mul_right _ (Nat.le_of_lt hgl)
      have e3 : W * (vl + 1) ≤ W * t := Nat.mul_le_mul_left _ hvl
      have e4 : W * t ≤ v2 * t := Nat.mul_le_mul_right _ hv2
      have e5 : (q + 2) * (v2 * t + vl) = (q + 1) * (v2 * t + vl) + (v2 * t + vl) := by rw [Nat.add_mul q 2, Nat.add_mul q 1]; omega
      rw [Nat.mul_add g, ← Nat.mul_assoc, e5]
      rw [Nat.mul_add] at e3
      have := W_pos
      omega
    have := Nat.lt_of_mul_lt_mul_right h4
    omega
/-- one place of what is taken away: over goes over from the product, br is lacking -/
theorem take_step {k j U U0 q ov br v : Nat} (hv : dg W j v < W) (hbr : br ≤ 1) (h : U + q * low W j v * W ^ k = U0 + (ov + br) * W ^ (k + j)) (hu : up W (k + j) U = up W (k + j) U0) :
    put W (k + j) U (subLo (dg W (k + j) U) (maLo (dg W j v) q ov 0) br) + q * low W (j + 1) v * W ^ k = U0 + (maHi (dg W j v) q ov 0 + subHi (dg W (k + j) U) (maLo (dg W j v) q ov 0) br) * W ^ (k + (j + 1)) ∧
    up W (k + (j + 1)) (put W (k + j) U (subLo (dg W (k + j) U) (maLo (dg W j v) q ov 0) br)) = up W (k + (j + 1)) U0 := by
  have hs := ma_split (dg W j v) q ov 0
  have hl := maLo_lt (dg W j v) q ov 0
  generalize maLo (dg W j v) q ov 0 = lo at *
  generalize maHi (dg W j v) q ov 0 = hi at *
  have hd := sub_split (dg W (k + j) U) lo br (dg_lt W_pos _ _) hl
  have hdl := subLo_lt (dg W (k + j) U) lo br
  have hc := Nat.mod_eq_of_lt (show br < 2 by omega)
  rw [hc] at hd
  generalize subLo (dg W (k + j) U) lo br = d at *
  generalize subHi (dg W (k + j) U) lo br = b2 at *
  refine ⟨?_, ?_⟩
  · have hp := put_add W (k + j) U d
    have hm := congrArg (· * W ^ (k + j)) hs
    have hn := congrArg (· * W ^ (k + j)) hd
    simp only [Nat.add_mul] at hm hn h
    have e1 : (hi + b2) * W ^ (k + (j + 1)) = W * hi * W ^ (k + j) + W * b2 * W ^ (k + j) := by
      rw [← Nat.add_mul, ← Nat.mul_add, ← Nat.add_assoc, Nat.pow_succ, Nat.mul_comm W (hi + b2), Nat.mul_assoc, Nat.mul_comm W]
    have e2 : q * low W (j + 1) v * W ^ k = q * low W j v * W ^ k + dg W j v * q * W ^ (k + j) := by
      rw [← low_next, Nat.mul_add, Nat.add_mul, Nat.pow_add, Nat.mul_comm (W ^ k) (W ^ j), Nat.mul_comm (dg W j v) q]
      simp only [Nat.mul_assoc]
    rw [e1, e2]
    omega
  · rw [show k + (j + 1) = k + j + 1 from rfl, up_put W_pos hdl]
    exact up_succ_of hu
theorem take_end {k m U U0 q ov br v : Nat} (hov : ov < W) (hbr : br ≤ 1) (hv : v < W ^ m) (h : U + q * low W m v * W ^ k = U0 + (ov + br) * W ^ (k + m)) (hu : up W (k + m) U = up W (k + m) U0) :
    put W (k + m) U (subLo (dg W (k + m) U) ov br) + q * v * W ^ k = U0 + subHi (dg W (k + m) U) ov br * W ^ (k + m + 1) ∧
    up W (k + m + 1) (put W (k + m) U (subLo (dg W (k + m) U) ov br)) = up W (k + m + 1) U0 := by
  rw [low_all hv] at h
  have hd := sub_split (dg W (k + m) U) ov br (dg_lt W_pos _ _) hov
  have hdl := subLo_lt (dg W (k + m) U) ov br
  rw [Nat.mod_eq_of_lt (show br < 2 by omega)] at hd
  generalize subLo (dg W (k + m) U) ov br = d at *
  generalize subHi (dg W (k + m) U) ov br = b2 at *
  refine ⟨?_, ?_⟩
  · have hp := put_add W (k + m) U d
    have hn := congrArg (· * W ^ (k + m)) hd
    simp only [Nat.add_mul] at hn h
    have e1 : b2 * W ^ (k + m + 1) = W * b2 * W ^ (k + m) := by
      rw [Nat.pow_succ, Nat.mul_comm W b2, Nat.mul_assoc, Nat.mul_comm W]
    rw [e1]
    omega
  · rw [up_put W_pos hdl]
    exact up_succ_of hu
/-- one place of what is put back -/
theorem back_step {k j U U0 cy v : Nat} (hcy : cy ≤ 1) (h : U + cy * W ^ (k + j) = U0 + low W j v * W ^ k) (hu : up W (k + j) U = up W (k + j) U0) :
    put W (k + j) U (addLo (dg W (k + j) U) (dg W j v) cy) + addHi (dg W (k + j) U) (dg W j v) cy * W ^ (k + (j + 1)) = U0 + low W (j + 1) v * W ^ k ∧
    up W (k + (j + 1)) (put W (k + j) U (addLo (dg W (k + j) U) (dg W j v) cy)) = up W (k + (j + 1)) U0 := by
  have hd := add_split (dg W (k + j) U) (dg W j v) cy
  have hdl := addLo_lt (dg W (k + j) U) (dg W j v) cy
  rw [Nat.mod_eq_of_lt (show cy < 2 by omega)] at hd
  generalize addLo (dg W (k + j) U) (dg W j v) cy = d at *
  generalize addHi (dg W (k + j) U) (dg W j v) cy = c2 at *
  refine ⟨?_, ?_⟩
  · have hp := put_add W (k + j) U d
    have hn := congrArg (· * W ^ (k + j)) hd
    simp only [Nat.add_mul] at hn
    have e1 : c2 * W ^ (k + (j + 1)) = W * c2 * W ^ (k + j) := by
      rw [← Nat.add_assoc, Nat.pow_succ, Nat.mul_comm W c2, Nat.mul_assoc, Nat.mul_comm W]
    have e2 : low W (j + 1) v * W ^ k = low W j v * W ^ k + dg W j v * W ^ (k + j) := by
      rw [← low_next, Nat.add_mul, Nat.pow_add, Nat.mul_comm (W ^ k) (W ^ j), Nat.mul_assoc]
    rw [e1, e2]
    omega
  · rw [show k + (j + 1) = k + j + 1 from rfl, up_put W_pos hdl]
    exact up_succ_of hu
/-- the last place: what goes over there is lost -/
theorem back_end {k m U U0 cy v : Nat} (hv : v < W ^ m) (h : U + cy * W ^ (k + m) = U0 + low W m v * W ^ k) (hu : up W (k + m) U = up W (k + m) U0) :
    ∃ c, put W (k + m) U ((dg W (k + m) U + cy) % W) + c * W ^ (k + m + 1) = U0 + v * W ^ k ∧ up W (k + m + 1) (put W (k + m) U ((dg W (k + m) U + cy) % W)) = up W (k + m + 1) U0 := by
  rw [low_all hv] at h
  have hd : dg W (k + m) U + cy = (dg W (k + m) U + cy) % W + W * ((dg W (k + m) U + cy) / W) := (Nat.mod_add_div _ _).symm
  have hdl : (dg W (k + m) U + cy) % W < W := Nat.mod_lt _ W_pos
  refine ⟨(dg W (k + m) U + cy) / W, ?_, ?_⟩
  · generalize (dg W (k + m) U + cy) % W = d at *
    generalize (dg W (k + m) U + cy) / W = c2 at *
    have hp := put_add W (k + m) U d
    have hn := congrArg (· * W ^ (k + m)) hd
    simp only [Nat.add_mul] at hn
    have e1 : c2 * W ^ (k + m + 1) = W * c2 * W ^ (k + m) := by
      rw [Nat.pow_succ, Nat.mul_comm W c2, Nat.mul_assoc, Nat.mul_comm W]
    rw [e1]
    omega
  · rw [up_put W_pos hdl]
    exact up_succ_of hu
/-- U's three digits at the place, v's two: what the guess is told -/
theorem three_digits {k m U v : Nat} (hU : U < v * W ^ (k + 1)) (hv : v < W ^ (m + 2)) :
    up W (k + m) U = (dg W (k + m + 2) U * W + dg W (k + m + 1) U) * W + dg W (k + m) U ∧ up W m v = dg W (m + 1) v * W + dg W m v := by
  have hlt : U < W ^ (k + m + 3) := by
    refine Nat.lt_of_lt_of_le hU ?_
    rw [show k + m + 3 = m + 2 + (k + 1) by omega, Nat.pow_add W (m + 2) (k + 1)]
    exact Nat.mul_le_mul_right _ (Nat.le_of_lt hv)
  have step : ∀ j x, up W j x = up W (j + 1) x * W + dg W j x := fun j x => by
    rw [← up_mod, ← up_succ]; exact (Nat.div_add_mod' _ _).symm
  constructor
  · rw [step (k + m) U, step (k + m + 1) U, step (k + m + 1 + 1) U, up_eq_zero (i := k + m + 1 + 1 + 1) hlt]
    simp
  · rw [step m v, step (m + 1) v, up_eq_zero (i := m + 1 + 1) hv]
    simp
/-- the place's true digit -/
def qd (k U v : Nat) : Nat := up W k U / v
theorem qd_lt {k U v : Nat} (hU : U < v * W ^ (k + 1)) : qd k U v < W := by
  unfold qd up
  rw [Nat.div_div_eq_div_mul]
  apply Nat.div_lt_of_lt_mul
  rw [Nat.mul_comm (W ^ k), Nat.mul_assoc]
  rwa [Nat.pow_succ] at hU
theorem qd_rest {k U v : Nat} (hv : 0 < v) : ∃ R, R + qd k U v * v * W ^ k = U ∧ R < v * W ^ k := by
  have h1 := low_add_up W k U
  have h2 := low_bound W_pos k U
  have h3 : up W k U = qd k U v * v + up W k U % v := (Nat.div_add_mod' _ _).symm
  have h4 := Nat.mod_lt (up W k U) hv
  refine ⟨low W k U + up W k U % v * W ^ k, ?_, ?_⟩
  · conv => rhs; rw [← h1, h3]
    rw [Nat.add_mul]; omega
  · have : (up W k U % v + 1) * W ^ k ≤ v * W ^ k := Nat.mul_le_mul_right _ h4
    rw [Nat.add_mul] at this
    omega
theorem guess_near {k m U v : Nat} (hU : U < v * W ^ (k + 1)) (hv : v < W ^ (m + 2)) (hv1 : W ^ (m + 1) ≤ v) :
    qd k U v ≤ gss ((dg W (k + m + 2) U * W + dg W (k + m + 1) U) * W + dg W (k + m) U) (dg W (m + 1) v * W + dg W m v) ∧
    gss ((dg W (k + m + 2) U * W + dg W (k + m + 1) U) * W + dg W (k + m) U) (dg W (m + 1) v * W + dg W m v) ≤ qd k U v + 1 := by
  obtain ⟨e1, e2⟩ := three_digits (m := m) hU hv
  rw [← e1, ← e2]
  have hv2 : W ≤ up W m v := by
    unfold up
    rw [Nat.le_div_iff_mul_le (Nat.pow_pos W_pos), Nat.mul_comm, ← Nat.pow_succ]; exact hv1
  have a1 := low_add_up W m v
  have a2 := low_add_up W m (up W k U)
  rw [up_up] at a2
  have hlt : up W (k + m) U * W ^ m + low W m (up W k U) < (up W m v * W ^ m + low W m v) * W := by
    rw [Nat.add_comm, a2, Nat.add_comm, a1]
    unfold up
    apply Nat.div_lt_of_lt_mul
    rw [Nat.mul_comm (W ^ k), Nat.mul_assoc]
    rwa [Nat.pow_succ, Nat.mul_comm (W ^ k)] at hU
  have hn := gss_near hv2 (low_bound W_pos m v) (low_bound W_pos m (up W k U)) hlt
  rw [Nat.add_comm, a2, Nat.add_comm (up W m v * W ^ m), a1] at hn
  exact hn
/-- behind the taking, and the putting back where it was too much -/
theorem take_fits {k m U U1 v q b : Nat} (hU : U < v * W ^ (k + 1)) (hv : v < W ^ m) (hq : qd k U v = q) (h : U1 + q * v * W ^ k = U + b * W ^ (k + m + 1)) (hu : up W (k + m + 1) U1 = up W (k + m + 1) U) (hb : b ≤ 1) :
    b = 0 ∧ U1 + q * v * W ^ k = U ∧ U1 < v * W ^ k := by
  have hv0 : 0 < v := by rcases Nat.eq_zero_or_pos v with h0 | h0; · subst h0; simp at hU
                         · exact h0
  obtain ⟨R, h1, h2⟩ := qd_rest (k := k) (U := U) hv0
  rw [hq] at h1
  have hlt : U < W ^ (k + m + 1) := by
    refine Nat.lt_of_lt_of_le hU ?_
    rw [show k + m + 1 = m + (k + 1) by omega, Nat.pow_add W m (k + 1)]
    exact Nat.mul_le_mul_right _ (Nat.le_of_lt hv)
  rw [up_eq_zero hlt] at hu
  have hU1 := lt_of_up_zero W_pos hu
  obtain rfl | rfl : b = 0 ∨ b = 1 := by omega
  · exact ⟨rfl, by omega, by omega⟩
  · omega
theorem take_over {k m U U1 v q b : Nat} (hU : U < v * W ^ (k + 1)) (hv : v < W ^ m) (hq : qd k U v + 1 = q) (h : U1 + q * v * W ^ k = U + b * W ^ (k + m + 1)) (hu : up W (k + m + 1) U1 = up W (k + m + 1) U) (hb : b ≤ 1) :
    b = 1 ∧ ∀ U2 c, U2 + c * W ^ (k + m + 1) = U1 + v * W ^ k → up W (k + m + 1) U2 = up W (k + m + 1) U1 → U2 + qd k U v * v * W ^ k = U ∧ U2 < v * W ^ k := by
  have hv0 : 0 < v := by rcases Nat.eq_zero_or_pos v with h0 | h0; · subst h0; simp at hU
                         · exact h0
  obtain ⟨R, h1, h2⟩ := qd_rest (k := k) (U := U) hv0
  have hlt : U < W ^ (k + m + 1) := by
    refine Nat.lt_of_lt_of_le hU ?_
    rw [show k + m + 1 = m + (k + 1) by omega, Nat.pow_add W m (k + 1)]
    exact Nat.mul_le_mul_right _ (Nat.le_of_lt hv)
  rw [up_eq_zero hlt] at hu
  have hU1 := lt_of_up_zero W_pos hu
  have e : q * v * W ^ k = qd k U v * v * W ^ k + v * W ^ k := by rw [← hq, Nat.add_mul, Nat.one_mul, Nat.add_mul]
  rw [e] at h
  obtain rfl | rfl : b = 0 ∨ b = 1 := by omega
  · omega
  · refine ⟨rfl, fun U2 c h3 h4 => ?_⟩
    rw [hu] at h4
    have hU2 := lt_of_up_zero W_pos h4
    have hc : c = 1 := by
      rcases Nat.lt_or_ge c 1 with h5 | h5
      · obtain rfl : c = 0 := by omega
        omega
      · rcases Nat.lt_or_ge c 2 with h6 | h6
        · omega
        · have : 2 * W ^ (k + m + 1) ≤ c * W ^ (k + m + 1) := Nat.mul_le_mul_right _ h6
          omega
    subst hc
    constructor <;> omega
theorem put_upper {b : Nat} (hb : 0 < b) (j U d : Nat) : put b j (U * b ^ (j + 1)) d = (d + b * U) * b ^ j := by
  have h1 : U * b ^ (j + 1) % b ^ j = 0 := by rw [Nat.pow_succ, Nat.mul_comm (b ^ j), ← Nat.mul_assoc]; exact Nat.mul_mod_left _ _
  unfold put
  rw [h1, Nat.mul_div_cancel _ (Nat.pow_pos hb), Nat.zero_add, Nat.add_mul, Nat.pow_succ, Nat.mul_comm b U]
  simp only [Nat.mul_assoc, Nat.mul_comm, Nat.mul_left_comm]
/-- the start: all of n, shifted, is below v by a word more -/
theorem div_start {n d N m s : Nat} (hn : n < W ^ N) (hs : s ≤ 63) (hmN : m ≤ N) (hv : 9223372036854775808 * W ^ (m - 1) ≤ d * 2 ^ s) (hm : 1 ≤ m) : n * 2 ^ s < d * 2 ^ s * W ^ (N - m + 1) := by
  have h1 : n * 2 ^ s < W ^ N * 2 ^ 63 := by
    exact Nat.lt_of_lt_of_le (Nat.mul_lt_mul_of_pos_right hn (Nat.pow_pos (by decide))) (Nat.mul_le_mul_left _ (Nat.pow_le_pow_right (by decide) hs))
  have h2 : 9223372036854775808 * W ^ (m - 1) * W ^ (N - m + 1) ≤ d * 2 ^ s * W ^ (N - m + 1) := Nat.mul_le_mul_right _ hv
  rw [Nat.mul_assoc, ← Nat.pow_add, show m - 1 + (N - m + 1) = N by omega] at h2
  rw [show (2 : Nat) ^ 63 = 9223372036854775808 from by decide, Nat.mul_comm (W ^ N)] at h1
  omega
theorem div_end {n d s Q R : Nat} (hd : 0 < d) (h : R + Q * (d * 2 ^ s) = n * 2 ^ s) (hR : R < d * 2 ^ s) : Q = n / d ∧ R / 2 ^ s = n % d := by
  have hp : 0 < 2 ^ s := Nat.pow_pos (by decide)
  have h1 : n * 2 ^ s / (d * 2 ^ s) = Q := by
    rw [← h, Nat.add_mul_div_right _ _ (Nat.mul_pos hd hp), Nat.div_eq_of_lt hR, Nat.zero_add]
  have h2 : n * 2 ^ s % (d * 2 ^ s) = R := by
    rw [← h, Nat.add_mul_mod_self_right, Nat.mod_eq_of_lt hR]
  have h3 := @div_shifted n d s
  rw [h1, h2] at h3
  exact h3
/-- by one word -/
theorem bw_step {j X m : Nat} (hm : 0 < m) :
    up W j (X / m) = (up W (j + 1) X % m * W + dg W j X) / m + W * up W (j + 1) (X / m) ∧ (up W (j + 1) X % m * W + dg W j X) % m = up W j X % m ∧ (up W (j + 1) X % m * W + dg W j X) / m < W := by
  have e0 : ∀ i, up W i (X / m) = up W i X / m := fun i => by unfold up; rw [Nat.div_div_eq_div_mul, Nat.div_div_eq_div_mul, Nat.mul_comm]
  have e1 : up W j X = dg W j X + W * up W (j + 1) X := by
    rw [← up_mod, ← up_succ]; exact (Nat.mod_add_div _ _).symm
  have e2 := Nat.mod_add_div (up W (j + 1) X) m
  have hd := dg_lt W_pos j X
  have e3 : up W j X = (up W (j + 1) X % m * W + dg W j X) + m * (W * (up W (j + 1) X / m)) := by
    rw [e1]
    conv => lhs; rw [← e2]
    rw [Nat.mul_add, ← Nat.mul_assoc, Nat.mul_comm W m, Nat.mul_assoc, Nat.mul_comm W (_ % m)]; omega
  refine ⟨?_, ?_, ?_⟩
  · rw [e0, e0, e3, Nat.add_mul_div_left _ _ hm]
  · rw [e3, Nat.add_mul_mod_self_left]
  · have hl := Nat.mod_lt (up W (j + 1) X) hm
    apply Nat.div_lt_of_lt_mul
    have := Nat.mul_le_mul_right W (show up W (j + 1) X % m + 1 ≤ m by omega)
    rw [Nat.add_mul] at this; omega
end Go.Proofs.Ythjokpnihoigeaa
set_option linter.unusedVariables false
set_option linter.unusedSimpArgs false
namespace Go.Proofs.Ythjokpnihoigeaa
open Go.RowKit
set_option maxRecDepth 100000
def RetDivW (w : World) (q r : Nat) (b : Bool) (e : Ending) (w' : World) : Prop := ∃ A n c, e = .returned (.tuple #[.agg #[.slice A n c], .int .u64 (r : Nat), .bool b]) ∧ NatAt w' A n c q ∧ Below w.heap.size w w'
set_option maxHeartbeats 1000000 in
theorem quot_ByWord_no (A : Option Addr) (n c : Nat) (w : World) :
    Calls Try.prog 58 #[.agg #[.slice A n c], .int .u64 0] w (RetDivW w 0 0 false) := by
  have FIN : ∀ w', Below w.heap.size w w' → RetDivW w 0 0 false (.returned (.tuple #[.agg #[.slice none 0 0], .int .u64 0, .bool false])) w' := fun w' hb => ⟨none, 0, 0, rfl, ⟨Dig.nil _ _ _ _ (by omega), fun h => absurd h (by omega)⟩, hb⟩
  have F := Lib.hid FIN
  clear FIN
  go_enter Try.func58, Try.ntmps58
  go_wp2_with fail
  exact bodyPost_ret (v := .tuple #[.agg #[.slice none 0 0], .int .u64 0, .bool false]) (by simp [results, Try.results58, go_sem]) rfl (F.out _ (nxa (nxa (Below.refl _ _) _) _))
set_option maxHeartbeats 1000000 in
theorem quot_ByWord (A : Option Addr) (n c x m : Nat) (w : World) (h : NatAt w A n c x) (hm : 0 < m) (hmw : m < W) (hn : n ≤ 17592186044416) :
    Calls Try.prog 58 #[.agg #[.slice A n c], .int .u64 (m : Nat)] w (RetDivW w (x / m) (x % m) true) := by
  obtain ⟨i0, hi, hz0, hz1, hz2⟩ := info_parts info_u64
  have m1 := h.1.max
  have m2 := h.1.cap
  have B0 := (Blk1.new w 25 (.slice A n c)).alloc (.cells #[.slice none 0 0] 25)
  have B1 := Blk1.new (w.alloc (.cells #[.slice A n c] 25)) 25 (.slice none 0 0)
  simp only [World.size_alloc] at B1
  have hbe : Below w.heap.size w ((w.alloc (.cells #[.slice A n c] 25)).alloc (.cells #[.slice none 0 0] 25)) := nxa (nxa (Below.refl _ _) _) _
  have hx := h.to hbe
  have hm0 : ((m : Int) == 0) = false := by simp; omega
  go_enter Try.func58, Try.ntmps58
  go_wp2_with fail
  refine (nat_Len A n c _).mono ?_
  rintro e w1 ⟨rfl, hb1⟩
  go_wp2_with (at_make; refine wpList_make_full _ rfl _ _ 22 rfl w1.heap.size 36 i0 (.int .u64 0) 1 Try.underlying22 hi hz0 hz1 .i64 .i64 _ _ n rfl rfl rfl rfl (by rw [hz2]; omega) (by unfold maxLen; omega) (Nat.le_refl _) ?_)
  intro w2 hown hgrow
  rw [made_dl .u64 W] at hown
  have hb2 := below_of_none hgrow
  generalize (w.alloc (.cells #[.slice A n c] 25)).alloc (.cells #[.slice none 0 0] 25) = we at B0 B1 hbe hx hb1
  obtain ⟨G, hG⟩ : ∃ G, G = w1.heap.size := ⟨_, rfl⟩
  have hGs : we.heap.size ≤ G := by rw [hG]; exact hb1.size
  have hbl : Below we.heap.size we w2 := nx hb1 hb2
  have hown' : w2.ownsRow we.heap.size 36 1 (.slice (some ⟨G, 0, none⟩) n n) n (dl .u64 W n 0) := by rw [hG]; exact hown.mono hb1.size
  rw [← hG]
  clear hgrow hb2 hb1 hown hG
  have c0 := (B0.to hbl).cell
  go_wp2_with fail
  refine (nat_Len A n c _).mono ?_
  rintro e w3 ⟨rfl, hb3⟩
  have hown3 := own_below hown' hb3
  have hbl3 := nx hbl hb3
  clear hb3 hbl hown' c0
  go_wp2_with fail
  go_loopw [8, 9] (fun l k wr => ∃ kk r : Nat, kk ≤ n ∧ k = .int .i64 ((kk : Int) - 1) ∧ l = .int .u64 (r : Nat) ∧ r = up W kk x % m ∧ wr.ownsRow we.heap.size 36 1 (.slice (some ⟨G, 0, none⟩) n n) n (dl .u64 W n (up W kk (x / m) * W ^ kk)) ∧ Below we.heap.size we wr) (fun _ k _ => (intOf k + 1).toNat)
  case atStart =>
    refine ⟨n, 0, Nat.le_refl _, rfl, rfl, ?_, ?_, hbl3⟩
    · rw [up_eq_zero hx.lt, Nat.zero_mod]
    · rw [up_eq_zero (Nat.lt_of_le_of_lt (Nat.div_le_self _ _) hx.lt), Nat.zero_mul]; exact hown3
  case round =>
    clear hown3 hbl3
    obtain ⟨kk, r, hk, rfl, rfl, hr, hown, hbl⟩ := hrel
    have hrm : r < m := by rw [hr]; exact Nat.mod_lt _ hm
    rcases kk with _ | j
    · rw [up_zero] at hr hown
      rw [Nat.pow_zero, Nat.mul_one] at hown
      have HR := Lib.hid hr
      obtain ⟨A1, c1, hv, hd1, hf⟩ := own_form hown (Nat.lt_of_le_of_lt (Nat.div_le_self _ _) hx.lt)
      cases hv
      clear hr hown
      go_wp2_with fail
      refine (nat_Of _ _ _ _ _ hd1 (by omega)).mono ?_
      rintro e w5 ⟨A2, n2, c2, rfl, h2, hb5, hm2⟩
      have Y := (B1.to hbl).to hb5
      obtain ⟨l1, hb⟩ := store1 (w0 := w) (nx hbe (nx hbl hb5)) (by show w.heap.size ≤ w.heap.size + 1; omega) Y h2
      have c6 := Y.cell
      have f6 := Y.free
      have e1 := l1.1.cell
      clear hd1 hf hb5
      go_wp2_with fail
      exact bodyPost_ret (v := .tuple #[.agg #[.slice A2 n2 c2], .int .u64 (r : Nat), .bool true]) (by simp [results, Try.results58, go_sem, e1]) rfl ⟨A2, n2, c2, by rw [← HR.out], l1.2, hb⟩
    · obtain ⟨t1, t2, t3⟩ := bw_step (j := j) (X := x) hm
      obtain ⟨a, ha⟩ : ∃ a, a = dg W j x := ⟨_, rfl⟩
      have haw : a < W := by rw [ha]; exact dg_lt W_pos _ _
      rw [← hr, ← ha] at t1 t2 t3
      have HA := Lib.hid ha
      have jN : (j : Int) < (n : Int) := by omega
      have jM : j ≤ 9223372036854775807 := by omega
      have ej : ((j + 1 : Nat) : Int) - 1 = (j : Int) := by omega
      rw [ej]
      have c0 := (B0.to hbl).cell
      clear hr ha ej
      go_wp2_with fail
      refine (nat_Word A n c x j _ (hx.to hbl) jM).mono ?_
      rw [← HA.out]
      rintro e w4 ⟨rfl, hb4⟩
      have ho4 := own_below hown hb4
      have c4 := ho4.cellAt j (by omega)
      rw [dl_get _ _ _ _ _ (by omega)] at c4
      have f4 := ho4.frozenAt j
      go_wp2_with fail
      refine (word_Div_yes r a m _ hmw haw hrm).mono ?_
      rintro e w5 ⟨rfl, nd, rfl⟩
      obtain ⟨d, hd⟩ : ∃ d, d = (r * W + a) / m := ⟨_, rfl⟩
      obtain ⟨t, ht⟩ : ∃ t, t = (r * W + a) % m := ⟨_, rfl⟩
      rw [← hd] at t1 t3 ⊢
      rw [← ht] at t2 ⊢
      have ho := ((own_drewN ho4 nd).stored j (.int .u64 (d : Nat))).1
      rw [dl_set W_pos (by omega) t3, put_upper W_pos, ← t1] at ho
      have hbl' := (below_drewN (nx hbl hb4) nd).setCell (p := ⟨G, j, none⟩) hGs (.int .u64 (d : Nat))
      have T2 := Lib.hid t2
      clear t1 t2 t3 hd ht hown hbl hb4 c0
      go_wp2_with fail
      go_roundw
      case rel => exact ⟨j, t, by omega, rfl, rfl, T2.out, ho, hbl'⟩
      case measure => simp [intOf]
end Go.Proofs.Ythjokpnihoigeaa
set_option linter.unusedVariables false
set_option linter.unusedSimpArgs false
namespace Go.Proofs.Ythjokpnihoigeaa
open Go.RowKit
set_option maxRecDepth 100000
def natOfU : Value → Nat | .int _ i => i.toNat | _ => 0
theorem add_cases {r v : Nat} (hr : r < W) (hv : v < W) : (r + v < W ∧ addLo r v 0 = r + v ∧ addHi r v 0 = 0) ∨ (W ≤ r + v ∧ addHi r v 0 = 1) := by
  unfold addLo addHi
  rcases Nat.lt_or_ge (r + v) W with h | h
  · exact Or.inl ⟨h, by rw [show r + v + 0 % 2 = r + v by omega]; exact Nat.mod_eq_of_lt h, by rw [show r + v + 0 % 2 = r + v by omega]; exact Nat.div_eq_of_lt h⟩
  · refine Or.inr ⟨h, ?_⟩
    rw [show r + v + 0 % 2 = r + v by omega]
    have : (r + v) / W < 2 := (Nat.div_lt_iff_lt_mul W_pos).2 (by omega)
    have : 1 ≤ (r + v) / W := (Nat.le_div_iff_mul_le W_pos).2 (by omega)
    omega
theorem ret_u64 {a b : Nat} (h : a = b) : Ending.returned (.int .u64 (a : Nat)) = .returned (.int .u64 (b : Nat)) := by rw [h]
/-- the candidate's loop, one way for each state of the test -/
theorem test_parts {q v0 r u0 : Nat} : (mulHi q v0 < r ∧ q * v0 ≤ r * W + u0) ∨ (mulHi q v0 = r ∧ mulLo q v0 ≤ u0 ∧ q * v0 ≤ r * W + u0) ∨ (mulHi q v0 = r ∧ u0 < mulLo q v0 ∧ r * W + u0 < q * v0) ∨ (u0 < W → r < mulHi q v0 ∧ r * W + u0 < q * v0) := by
  have hs := mul_split q v0
  have hl := mulLo_lt q v0
  generalize mulHi q v0 = hi at *
  generalize mulLo q v0 = lo at *
  rw [hs]
  rcases Nat.lt_trichotomy hi r with h | h | h
  · left
    refine ⟨h, ?_⟩
    have : W * (hi + 1) ≤ W * r := Nat.mul_le_mul_left _ h
    rw [Nat.mul_add] at this
    rw [Nat.mul_comm r]; omega
  · subst h
    rw [Nat.mul_comm hi]
    rcases Nat.lt_or_ge u0 lo with h | h
    · right; right; left; exact ⟨rfl, h, by omega⟩
    · right; left; exact ⟨rfl, h, by omega⟩
  · right; right; right
    intro hu
    refine ⟨h, ?_⟩
    have : W * (r + 1) ≤ W * hi := Nat.mul_le_mul_left _ h
    rw [Nat.mul_add] at this
    rw [Nat.mul_comm r]; omega
set_option maxHeartbeats 2000000 in
theorem quot_guess (u2 u1 u0 v1 v0 : Nat) (w : World) (h2 : u2 ≤ v1) (hv : 0 < v1) (g2 : u2 < W) (g1 : u1 < W) (g0 : u0 < W) (f1 : v1 < W) (f0 : v0 < W) :
    Calls Try.prog 61 #[.int .u64 (u2 : Nat), .int .u64 (u1 : Nat), .int .u64 (u0 : Nat), .int .u64 (v1 : Nat), .int .u64 (v0 : Nat)] w
      fun e w' => e = .returned (.int .u64 (gss ((u2 * W + u1) * W + u0) (v1 * W + v0) : Nat)) ∧ ∃ n, w' = w.drewN n := by
  have z0 : (0 : Nat) < W := W_pos
  rcases Nat.lt_or_ge u2 v1 with hl | hl
  · have CS := Cand.start (u0 := u0) (v0 := v0) hl f1 g1 g0
    have hrl : (u2 * W + u1) % v1 < v1 := Nat.mod_lt _ hv
    go_enter Try.func61, Try.ntmps61
    go_wp2_with fail
    refine (word_Div_yes u2 u1 v1 _ f1 g1 hl).mono ?_
    rintro e w1 ⟨rfl, nd, rfl⟩
    generalize (u2 * W + u1) / v1 = q0 at CS ⊢
    generalize (u2 * W + u1) % v1 = r0 at CS hrl ⊢
    go_wp2_with fail
    go_loop [11, 12, 15, 16, 17] (fun a b _ _ _ => ∃ q r : Nat, a = .int .u64 (q : Nat) ∧ b = .int .u64 (r : Nat) ∧ Cand u2 u1 u0 v1 v0 q r ∧ r < W) (fun a _ _ _ _ => natOfU a)
    case atStart => exact ⟨q0, r0, rfl, rfl, CS, by omega⟩
    case round =>
      obtain ⟨q, r, rfl, rfl, hc, hr⟩ := hrel
      have hqw := hc.2.2
      go_wp2_with fail
      refine (word_Mul q v0 _ hqw f0).mono ?_
      rintro e w5 ⟨rfl, rfl⟩
      have TP := @test_parts q v0 r u0
      have hhw := mulHi_lt hqw f0
      have hlw := mulLo_lt q v0
      generalize mulHi q v0 = hi at *
      generalize mulLo q v0 = lo at *
      rcases TP with ⟨t1, t2⟩ | ⟨t1, t3, t2⟩ | ⟨t1, t3, t2⟩ | t0
      · have hfit := Lib.hid (hc.fit hv t2)
        have b1 : (hi : Int) < (r : Int) := by omega
        clear t1 t2 hc
        go_wp2_with fail
        go_ret
        exact ⟨ret_u64 hfit.out, _, rfl⟩
      · have hfit := Lib.hid (hc.fit hv t2)
        have b1 : ¬ (hi : Int) < (r : Int) := by omega
        have b2 : ((hi : Int) == (r : Int)) = true := by simp; omega
        have b3 : (lo : Int) ≤ (u0 : Int) := by omega
        clear t1 t2 hc t3
        go_wp2_with fail
        go_ret
        exact ⟨ret_u64 hfit.out, _, rfl⟩
      · skip
        obtain ⟨p0, hd⟩ := hc.down t2
        have b1 : ¬ (hi : Int) < (r : Int) := by omega
        have b2 : ((hi : Int) == (r : Int)) = true := by simp; omega
        have b3 : ¬ (lo : Int) ≤ (u0 : Int) := by omega
        have zq : IntKind.u64.wrap ((q : Int) - 1) = ((q - 1 : Nat) : Int) := by rw [show (q : Int) - 1 = ((q - 1 : Nat) : Int) by omega, wrap_nat, Nat.mod_eq_of_lt (by omega)]
        have AC := add_cases hr f1
        have HD := Lib.hid hd
        have HP := Lib.hid p0
        clear t1 t2 hc hd p0 t3
        rcases AC with ⟨a1, a2, a3⟩ | ⟨a1, a3⟩
        · go_wp2_with fail
          refine (word_Add r v1 0 _ hr f1 z0).mono ?_
          rw [a2, a3]
          rintro e w6 ⟨rfl, rfl⟩
          clear a2 a3
          go_wp2_with fail
          go_round
          case rel => exact ⟨q - 1, r + v1, rfl, rfl, HD.out, a1⟩
          case measure => have := HP.out; simp [natOfU]; omega
        · have hfit := Lib.hid (HD.out.fit hv (over_fits HD.out.2.2 f0 a1))
          go_wp2_with fail
          refine (word_Add r v1 0 _ hr f1 z0).mono ?_
          rw [a3]
          rintro e w6 ⟨rfl, rfl⟩
          clear a3
          go_wp2_with fail
          go_ret
          exact ⟨ret_u64 hfit.out, _, rfl⟩
      · skip
        obtain ⟨t1, t2⟩ := t0 g0
        obtain ⟨p0, hd⟩ := hc.down t2
        have b1 : ¬ (hi : Int) < (r : Int) := by omega
        have b2 : ((hi : Int) == (r : Int)) = false := by simp; omega
        have zq : IntKind.u64.wrap ((q : Int) - 1) = ((q - 1 : Nat) : Int) := by rw [show (q : Int) - 1 = ((q - 1 : Nat) : Int) by omega, wrap_nat, Nat.mod_eq_of_lt (by omega)]
        have AC := add_cases hr f1
        have HD := Lib.hid hd
        have HP := Lib.hid p0
        clear t1 t2 hc hd p0 t0
        rcases AC with ⟨a1, a2, a3⟩ | ⟨a1, a3⟩
        · go_wp2_with fail
          refine (word_Add r v1 0 _ hr f1 z0).mono ?_
          rw [a2, a3]
          rintro e w6 ⟨rfl, rfl⟩
          clear a2 a3
          go_wp2_with fail
          go_round
          case rel => exact ⟨q - 1, r + v1, rfl, rfl, HD.out, a1⟩
          case measure => have := HP.out; simp [natOfU]; omega
        · have hfit := Lib.hid (HD.out.fit hv (over_fits HD.out.2.2 f0 a1))
          go_wp2_with fail
          refine (word_Add r v1 0 _ hr f1 z0).mono ?_
          rw [a3]
          rintro e w6 ⟨rfl, rfl⟩
          clear a3
          go_wp2_with fail
          go_ret
          exact ⟨ret_u64 hfit.out, _, rfl⟩
  · obtain rfl : u2 = v1 := by omega
    have CS := Cand.big (u1 := u1) (u0 := u0) (v0 := v0) hv
    rw [show W - 1 = 18446744073709551615 from by decide] at CS
    have AC := add_cases g1 f1
    rcases AC with ⟨a1, a2, a3⟩ | ⟨a1, a3⟩
    · go_enter Try.func61, Try.ntmps61
      go_wp2_with fail
      refine (word_Div_no u2 u1 u2 _ (Nat.le_refl _)).mono ?_
      rintro e w1 ⟨rfl, nd, rfl⟩
      go_wp2_with fail
      refine (word_Add u1 u2 0 _ g1 f1 z0).mono ?_
      rw [a2, a3]
      rintro e w6 ⟨rfl, rfl⟩
      clear a2 a3
      go_wp2_with fail
      go_loop [11, 12, 15, 16, 17] (fun a b _ _ _ => ∃ q r : Nat, a = .int .u64 (q : Nat) ∧ b = .int .u64 (r : Nat) ∧ Cand u2 u1 u0 u2 v0 q r ∧ r < W) (fun a _ _ _ _ => natOfU a)
      case atStart => exact ⟨18446744073709551615, u1 + u2, rfl, rfl, CS, a1⟩
      case round =>
        obtain ⟨q, r, rfl, rfl, hc, hr⟩ := hrel
        have hqw := hc.2.2
        go_wp2_with fail
        refine (word_Mul q v0 _ hqw f0).mono ?_
        rintro e w5 ⟨rfl, rfl⟩
        have TP := @test_parts q v0 r u0
        have hhw := mulHi_lt hqw f0
        have hlw := mulLo_lt q v0
        generalize mulHi q v0 = hi at *
        generalize mulLo q v0 = lo at *
        rcases TP with ⟨t1, t2⟩ | ⟨t1, t3, t2⟩ | ⟨t1, t3, t2⟩ | t0
        · have hfit := Lib.hid (hc.fit hv t2)
          have b1 : (hi : Int) < (r : Int) := by omega
          clear t1 t2 hc
          go_wp2_with fail
          go_ret
          exact ⟨ret_u64 hfit.out, _, rfl⟩
        · have hfit := Lib.hid (hc.fit hv t2)
          have b1 : ¬ (hi : Int) < (r : Int) := by omega
          have b2 : ((hi : Int) == (r : Int)) = true := by simp; omega
          have b3 : (lo : Int) ≤ (u0 : Int) := by omega
          clear t1 t2 hc t3
          go_wp2_with fail
          go_ret
          exact ⟨ret_u64 hfit.out, _, rfl⟩
        · skip
          obtain ⟨p0, hd⟩ := hc.down t2
          have b1 : ¬ (hi : Int) < (r : Int) := by omega
          have b2 : ((hi : Int) == (r : Int)) = true := by simp; omega
          have b3 : ¬ (lo : Int) ≤ (u0 : Int) := by omega
          have zq : IntKind.u64.wrap ((q : Int) - 1) = ((q - 1 : Nat) : Int) := by rw [show (q : Int) - 1 = ((q - 1 : Nat) : Int) by omega, wrap_nat, Nat.mod_eq_of_lt (by omega)]
          have AC := add_cases hr f1
          have HD := Lib.hid hd
          have HP := Lib.hid p0
          clear t1 t2 hc hd p0 t3
          rcases AC with ⟨a1, a2, a3⟩ | ⟨a1, a3⟩
          · go_wp2_with fail
            refine (word_Add r u2 0 _ hr f1 z0).mono ?_
            rw [a2, a3]
            rintro e w6 ⟨rfl, rfl⟩
            clear a2 a3
            go_wp2_with fail
            go_round
            case rel => exact ⟨q - 1, r + u2, rfl, rfl, HD.out, a1⟩
            case measure => have := HP.out; simp [natOfU]; omega
          · have hfit := Lib.hid (HD.out.fit hv (over_fits HD.out.2.2 f0 a1))
            go_wp2_with fail
            refine (word_Add r u2 0 _ hr f1 z0).mono ?_
            rw [a3]
            rintro e w6 ⟨rfl, rfl⟩
            clear a3
            go_wp2_with fail
            go_ret
            exact ⟨ret_u64 hfit.out, _, rfl⟩
        · skip
          obtain ⟨t1, t2⟩ := t0 g0
          obtain ⟨p0, hd⟩ := hc.down t2
          have b1 : ¬ (hi : Int) < (r : Int) := by omega
          have b2 : ((hi : Int) == (r : Int)) = false := by simp; omega
          have zq : IntKind.u64.wrap ((q : Int) - 1) = ((q - 1 : Nat) : Int) := by rw [show (q : Int) - 1 = ((q - 1 : Nat) : Int) by omega, wrap_nat, Nat.mod_eq_of_lt (by omega)]
          have AC := add_cases hr f1
          have HD := Lib.hid hd
          have HP := Lib.hid p0
          clear t1 t2 hc hd p0 t0
          rcases AC with ⟨a1, a2, a3⟩ | ⟨a1, a3⟩
          · go_wp2_with fail
            refine (word_Add r u2 0 _ hr f1 z0).mono ?_
            rw [a2, a3]
            rintro e w6 ⟨rfl, rfl⟩
            clear a2 a3
            go_wp2_with fail
            go_round
            case rel => exact ⟨q - 1, r + u2, rfl, rfl, HD.out, a1⟩
            case measure => have := HP.out; simp [natOfU]; omega
          · have hfit := Lib.hid (HD.out.fit hv (over_fits HD.out.2.2 f0 a1))
            go_wp2_with fail
            refine (word_Add r u2 0 _ hr f1 z0).mono ?_
            rw [a3]
            rintro e w6 ⟨rfl, rfl⟩
            clear a3
            go_wp2_with fail
            go_ret
            exact ⟨ret_u64 hfit.out, _, rfl⟩
    · have hfit := Lib.hid (CS.fit hv (over_fits CS.2.2 f0 a1))
      go_enter Try.func61, Try.ntmps61
      go_wp2_with fail
      refine (word_Div_no u2 u1 u2 _ (Nat.le_refl _)).mono ?_
      rintro e w1 ⟨rfl, nd, rfl⟩
      go_wp2_with fail
      refine (word_Add u1 u2 0 _ g1 f1 z0).mono ?_
      rw [a3]
      rintro e w6 ⟨rfl, rfl⟩
      clear a3
      go_wp2_with fail
      go_ret
      exact ⟨ret1 (by rw [← hfit.out]; rfl), _, rfl⟩
end Go.Proofs.Ythjokpnihoigeaa
set_option linter.unusedVariables false
set_option linter.unusedSimpArgs false
namespace Go.Proofs.Ythjokpnihoigeaa
open Go.RowKit
set_option maxRecDepth 100000
/-! ### a world in which one block, g, has turned -/
theorem gb_below {w a b : World} {r : Option Nat} (h : w.grownBy a r) (k : Below a.heap.size a b) : w.grownBy b r :=
  ⟨k.os.trans h.os, k.tape.trans h.tape, k.output.trans h.output, Nat.le_trans h.size k.size, fun i hi hr => (k.block i (Nat.lt_of_lt_of_le hi h.size)).trans (h.block i hi hr)⟩
theorem gb_set {w a : World} {g : Nat} (h : w.grownBy a (some g)) {p : Addr} (hp : p.block = g) (v : Value) : w.grownBy (a.setCell p v) (some g) :=
  ⟨h.os, h.tape, h.output, by simpa [World.setCell] using h.size, fun i hi hr => (Below.heap_setCell a p v i (fun e => hr (by rw [e, hp]))).trans (h.block i hi hr)⟩
theorem gb_trans {w a b : World} {g : Nat} (h : w.grownBy a (some g)) (k : a.grownBy b (some g)) : w.grownBy b (some g) :=
  ⟨k.os.trans h.os, k.tape.trans h.tape, k.output.trans h.output, Nat.le_trans h.size k.size, fun i hi hr => (k.block i (Nat.lt_of_lt_of_le hi h.size) hr).trans (h.block i hi hr)⟩
theorem Dig.gb {k : IntKind} {b : Nat} {w w' : World} {A : Option Addr} {n c x g : Nat} (h : Dig k b w A n c x) (hg : w.grownBy w' (some g)) (hA : ∀ a, A = some a → a.block ≠ g) : Dig k b w' A n c x := by
  refine ⟨h.1, h.2.1, h.2.2.1, fun hn => ?_⟩
  obtain ⟨g', o, e, hl, hc⟩ := h.2.2.2 hn
  have hne := hA _ e
  have hb := hg.block g' hl (fun e' => hne (Option.some.inj e'))
  exact ⟨g', o, e, Nat.lt_of_lt_of_le hl hg.size, fun j hj => by rw [← hc j hj]; unfold World.cell?; simp only [hb]⟩
theorem NatAt.gb {w w' : World} {A : Option Addr} {n c x g : Nat} (h : NatAt w A n c x) (hg : w.grownBy w' (some g)) (hA : ∀ a, A = some a → a.block ≠ g) : NatAt w' A n c x := ⟨h.1.gb hg hA, h.2⟩
theorem Blk1.gb {w w' : World} {g' t g : Nat} {v : Value} (h : Blk1 w g' t v) (hg : w.grownBy w' (some g)) (hne : g' ≠ g) : Blk1 w' g' t v := h.grown hg (fun e => hne (Option.some.inj e))
theorem gb_refl (w : World) (g : Nat) : w.grownBy w (some g) := World.grownBy.refl w _
set_option maxHeartbeats 2000000 in
theorem quot_take (base g N cap U k m cc : Nat) (A : Option Addr) (c v q : Nat) (w : World) (hown : w.ownsRow base 36 1 (.slice (some ⟨g, 0, none⟩) N cap) N (dl .u64 W N U)) (hv : NatAt w A m c v) (hA : ∀ a, A = some a → a.block ≠ g)
    (hk : k + m + 1 ≤ N) (hq : q < W) (hcc : m + 1 ≤ cc) (hN : N ≤ 17592186044420) (hc9 : cc ≤ 9223372036854775807) :
    Calls Try.prog 62 #[.slice (some ⟨g, k, none⟩) (m + 1) cc, .agg #[.slice A m c], .int .u64 (q : Nat)] w fun e w' => ∃ V b, e = .returned (.bool (decide (b = 1))) ∧ b ≤ 1 ∧ V + q * v * W ^ k = U + b * W ^ (k + m + 1) ∧ up W (k + m + 1) V = up W (k + m + 1) U ∧
      w'.ownsRow base 36 1 (.slice (some ⟨g, 0, none⟩) N cap) N (dl .u64 W N V) ∧ w.grownBy w' (some g) := by
  have hgw : g < w.heap.size := (hown.lt _ rfl).2
  have hgb : base ≤ g := (hown.lt _ rfl).1
  have m1 := hv.1.max
  have m2 := hv.1.cap
  have B0 := Blk1.new w 25 (.slice A m c)
  have hbe : Below w.heap.size w (w.alloc (.cells #[.slice A m c] 25)) := bW
  have hz : (0 : Nat) < W := W_pos
  go_enter Try.func62, Try.ntmps62
  go_wp2_with fail
  refine (nat_Len A m c _).mono ?_
  rintro e w1 ⟨rfl, hb1⟩
  have ho1 := own_below (own_below hown hbe) hb1
  have X1 := B0.to hb1
  have hb2 := gb_below (gb_below (gb_refl w g) hbe) hb1
  clear hbe hb1 B0
  go_wp2_with fail
  go_loopw [7, 8, 9, 10, 11, 14] (fun a b _ _ _ t wr => ∃ j ov br V : Nat, j ≤ m ∧ t = .int .i64 (j : Int) ∧ a = .int .u64 (ov : Nat) ∧ b = .int .u64 (br : Nat) ∧ ov < W ∧ br ≤ 1 ∧ V + q * low W j v * W ^ k = U + (ov + br) * W ^ (k + j) ∧ up W (k + j) V = up W (k + j) U ∧ wr.ownsRow base 36 1 (.slice (some ⟨g, 0, none⟩) N cap) N (dl .u64 W N (V)) ∧ w.grownBy wr (some g) ∧ Blk1 wr w.heap.size 25 (.slice A m c)) (fun _ _ _ _ _ t _ => m - (intOf t).toNat)
  case atStart => exact ⟨0, 0, 0, U, Nat.zero_le _, rfl, rfl, rfl, W_pos, by omega, by rw [low_nought]; simp, rfl, ho1, hb2, X1⟩
  case round =>
    clear ho1 hb2 X1
    obtain ⟨j, ov, br, V, hjm, rfl, rfl, rfl, hov, hbr, hV, hU, hown1, hgb1, X⟩ := hrel
    have hv1 := hv.gb hgb1 hA
    have jM : j ≤ 9223372036854775807 := by omega
    by_cases hlt : j < m
    · have jm : (j : Int) < (m : Int) := by omega
      have c0 := X.cell
      have jm1 : (j : Int) < (m : Int) + 1 := by omega
      go_wp2_with fail
      refine (nat_Word A m c v j _ hv1 jM).mono ?_
      rintro e w2 ⟨rfl, hb2⟩
      have hD := dg_lt W_pos j v
      obtain ⟨s1, s2⟩ := take_step hD hbr hV hU
      go_wp2_with fail
      refine (word_MulAdd _ q ov 0 _ hD hq hov hz).mono ?_
      rintro e w3 ⟨rfl, rfl⟩
      have hhi := maHi_lt (b := 0) hD hq hov hz
      have hlo := maLo_lt (dg W j v) q ov 0
      generalize maHi (dg W j v) q ov 0 = hi at *
      generalize maLo (dg W j v) q ov 0 = lo at *
      have ho2 := own_below hown1 hb2
      have c4 := ho2.cellAt (k + j) (by omega)
      rw [dl_get _ _ _ _ _ (by omega)] at c4
      have f4 := ho2.frozenAt (k + j)
      have hd := dg_lt W_pos (k + j) V
      obtain ⟨d, hdd⟩ : ∃ d, d = dg W (k + j) V := ⟨_, rfl⟩
      rw [← hdd] at c4 hd s1 s2
      clear hV hU hdd
      have S1 := Lib.hid s1
      have S2 := Lib.hid s2
      clear s1 s2
      go_wp2_with fail
      refine (word_Sub d lo br _ hd hlo (Nat.lt_of_le_of_lt hbr (by decide))).mono ?_
      rintro e w4 ⟨rfl, rfl⟩
      have hsl := subLo_lt d lo br
      have hsh := subHi_le d lo br
      have ho := (ho2.stored (k + j) (.int .u64 (subLo d lo br : Nat))).1
      rw [dl_set W_pos (by omega) hsl] at ho
      have Y := (X.to hb2).far (p := ⟨g, k + j, none⟩) (by show w.heap.size ≠ g; omega) (.int .u64 (subLo d lo br : Nat))
      have hgb2 := gb_set (gb_below hgb1 hb2) (p := ⟨g, k + j, none⟩) rfl (.int .u64 (subLo d lo br : Nat))
      clear hown1 hgb1 X hb2 ho2 c0 hv1
      go_wp2_with fail
      go_roundw
      case rel => exact ⟨j + 1, hi, subHi d lo br, _, by omega, by go_num, rfl, rfl, hhi, hsh, S1.out, S2.out, ho, hgb2, Y⟩
      case measure => simp [intOf]; omega
    · obtain rfl : j = m := by omega
      obtain ⟨s1, s2⟩ := take_end hov hbr hv.lt hV hU
      have cU := hown1.cellAt (k + j) (by omega)
      rw [dl_get _ _ _ _ _ (by omega)] at cU
      have hd := dg_lt W_pos (k + j) V
      obtain ⟨d, hdd⟩ : ∃ d, d = dg W (k + j) V := ⟨_, rfl⟩
      rw [← hdd] at cU hd s1 s2
      have S1 := Lib.hid s1
      have S2 := Lib.hid s2
      have jI : (j : Int) < (j : Int) + 1 := by omega
      have c0 := X.cell
      clear hV hU hdd s1 s2 hv1
      go_wp2_with fail
      refine wp_regionS (S := fun w' => w'.cell? ⟨w.heap.size, 0, none⟩ = some (.slice A j c) ∧ w'.cell? ⟨g, k + j, none⟩ = some (.int .u64 (d : Nat))) [15] kR ⟨cellB (show Below wr.heap.size wr _ from bW) c0, cellB (show Below wr.heap.size wr _ from bW) cU⟩ (fun hHeld => ?_)
      have hbd1 : Below wr.heap.size wr wr.drew := nxw (Below.refl _ _)
      generalize wr.drew = wd1 at hHeld hbd1 ⊢
      refine anyS_take0 (i := 0) (v := ?_) gO kR kR kR (by rfl) (by exact fun _ _ _ h => h) (Or.inl ⟨by rfl, ?_⟩) (fun _ => by assumption) ?_
      rotate_left
      · intro w hSw; (try dsimp only at hSw); go_simp; try with_reducible rfl
      try simp only [Act.put, sX, sY, sZ]
      refine anyS_take (i := 1) (v := ?_) gO kR kR kR kR kR (by exact fun _ _ _ h => h) (Or.inl ⟨by rfl, ?_⟩) (by assumption) ?_
      rotate_left
      · intro w hSw; (try dsimp only at hSw); go_simp; try with_reducible rfl
      try simp only [Act.put, sX, sY, sZ]
      refine anyS_take0 (i := 3) (v := ?_) gO kR kR kR (by rfl) (by exact fun _ _ _ h => h) (Or.inl ⟨by rfl, ?_⟩) (fun _ => by assumption) ?_
      rotate_left
      · intro w hSw; (try dsimp only at hSw); go_simp; try with_reducible rfl
      try simp only [Act.put, sX, sY, sZ]
      refine anyS_take (i := 4) (v := ?_) gO kR kR kR kR kR (by exact fun _ _ _ h => h) (Or.inl ⟨by rfl, ?_⟩) (by assumption) ?_
      rotate_left
      · intro w hSw; (try dsimp only at hSw); go_simp; try with_reducible rfl
      try simp only [Act.put, sX, sY, sZ]
      refine anyS_take0 (i := 8) (v := ?_) gO kR kR kR (by rfl) (by exact fun _ _ _ h => h) (Or.inl ⟨by rfl, ?_⟩) (fun _ => by assumption) ?_
      rotate_left
      · intro w hSw; (try dsimp only at hSw); go_simp; try with_reducible rfl
      try simp only [Act.put, sX, sY, sZ]
      refine anyS_take0 (i := 9) (v := ?_) gO kR kR kR (by rfl) (by exact fun _ _ _ h => h) (Or.inl ⟨by rfl, ?_⟩) (fun _ => by assumption) ?_
      rotate_left
      · intro w hSw; (try dsimp only at hSw); go_simp; try with_reducible rfl
      try simp only [Act.put, sX, sY, sZ]
      refine anyS_ready (rs := [2]) kR (by simp) (ReadyS.cons gO (fun K hK => ?_) ReadyS.nil)
      go_simp
      go_at_call 33
      (with_reducible refine (nat_Len A j c _).mono ?_)
      rintro e w2 ⟨rfl, hb2⟩
      go_simp
      refine hK.out _ _ ⟨cellB (show Below wr.heap.size wr _ from bW) c0, cellB (show Below wr.heap.size wr _ from bW) cU⟩ (fun hHeld => ?_)
      clear hK K
      try simp only [Act.put, sX, sY, sZ]
      refine anyS_ready (rs := [5]) kR (by simp) (ReadyS.cons gO (fun K hK => ?_) ReadyS.nil)
      go_simp
      go_at_call 33
      (with_reducible refine (nat_Len A j c _).mono ?_)
      rintro e w3 ⟨rfl, hb3⟩
      have ho3 := own_below hown1 (show Below wr.heap.size wr w3 from bW)
      have f3 := ho3.frozenAt (k + j)
      have c3 := cellB (show Below wr.heap.size wr w3 from bW) cU
      go_simp
      refine hK.out _ _ ⟨cellB (show Below wr.heap.size wr _ from bW) c0, cellB (show Below wr.heap.size wr _ from bW) cU⟩ (fun hHeld => ?_)
      clear hK K
      try simp only [Act.put, sX, sY, sZ]
      refine anyS_take0 (i := 6) (v := ?_) gO kR kR kR (by rfl) (by exact fun _ _ _ h => h) (Or.inl ⟨by rfl, ?_⟩) (fun _ => by assumption) ?_
      rotate_left
      · intro w hSw; (try dsimp only at hSw); go_simp; try with_reducible rfl
      try simp only [Act.put, sX, sY, sZ]
      refine anyS_take (i := 7) (v := ?_) gO kR kR kR kR kR (by exact fun _ _ _ h => h) (Or.inl ⟨by rfl, ?_⟩) (by assumption) ?_
      rotate_left
      · intro w hSw; (try dsimp only at hSw); go_simp; try with_reducible rfl
      try simp only [Act.put, sX, sY, sZ]
      refine anyS_ready (rs := [10]) kR (by simp) (ReadyS.cons gO (fun K hK => ?_) ReadyS.nil)
      go_simp
      go_at_call 53
      (with_reducible refine (word_Sub d ov br _ hd hov (Nat.lt_of_le_of_lt hbr (by decide))).mono ?_)
      rintro e w4 ⟨rfl, rfl⟩
      go_simp
      refine hK.out _ _ ⟨cellB (show Below wr.heap.size wr _ from bW) c0, cellB (show Below wr.heap.size wr _ from bW) cU⟩ (fun hHeld => ?_)
      clear hK K
      try simp only [Act.put, sX, sY, sZ]
      refine anyS_take0 (i := 11) (v := ?_) gO kR kR kR (by rfl) (by exact fun _ _ _ h => h) (Or.inl ⟨by rfl, ?_⟩) (fun _ => by assumption) ?_
      rotate_left
      · intro w hSw; (try dsimp only at hSw); go_simp; try with_reducible rfl
      try simp only [Act.put, sX, sY, sZ]
      refine anyS_take0 (i := 12) (v := ?_) gO kR kR kR (by rfl) (by exact fun _ _ _ h => h) (Or.inl ⟨by rfl, ?_⟩) (fun _ => by assumption) ?_
      rotate_left
      · intro w hSw; (try dsimp only at hSw); go_simp; try with_reducible rfl
      try simp only [Act.put, sX, sY, sZ]
      refine anyS_take0 (i := 13) (v := ?_) gO kR kR kR (by rfl) (by exact fun _ _ _ h => h) (Or.inl ⟨by rfl, ?_⟩) (fun _ => by assumption) ?_
      rotate_left
      · intro w hSw; (try dsimp only at hSw); go_simp; try with_reducible rfl
      try simp only [Act.put, sX, sY, sZ]
      refine anyS_take0 (i := 14) (v := ?_) gO kR kR kR (by rfl) (by exact fun _ _ _ h => h) (Or.inl ⟨by rfl, ?_⟩) (fun _ => by assumption) ?_
      rotate_left
      · intro w hSw; (try dsimp only at hSw); go_simp; try with_reducible rfl
      try simp only [Act.put, sX, sY, sZ]
      refine anyS_ready (rs := [15]) kR (by simp) (ReadyS.last gO kR (fun K hK => ?_))
      go_simp
      refine hK.out _ _ ?_
      clear hK K
      try simp only [Act.put, sX, sY, sZ]
      refine anyS_take1 (i := 16) (v := ?_) gO kR kR kR (by rfl) kR (by exact fun _ _ _ h => h) (Or.inl ⟨by rfl, ?_⟩) ?_
      rotate_left
      · intro w hSw; (try dsimp only at hSw); go_simp; try with_reducible rfl
      try simp only [Act.put, sX, sY, sZ]
      refine anyS_done kR ?_ _
      have hsl := subLo_lt d ov br
      have hsh := subHi_le d ov br
      have ho := (ho3.stored (k + j) (.int .u64 (subLo d ov br : Nat))).1
      rw [dl_set W_pos (by omega) hsl] at ho
      have hgb2 := gb_set (gb_below hgb1 (show Below wr.heap.size wr w3 from bW)) (p := ⟨g, k + j, none⟩) rfl (.int .u64 (subLo d ov br : Nat))
      generalize subHi d ov br = b at *
      clear c3 f3 ho3 hb2 hb3 hown1 X
      go_wp2_with fail
      go_ret
      exact ⟨_, b, retb (by rcases (show b = 0 ∨ b = 1 by omega) with rfl | rfl <;> rfl), hsh, S1.out, S2.out, ho, hgb2⟩
set_option maxHeartbeats 2000000 in
theorem quot_back (base g N cap U k m cc : Nat) (A : Option Addr) (c v : Nat) (w : World) (hown : w.ownsRow base 36 1 (.slice (some ⟨g, 0, none⟩) N cap) N (dl .u64 W N U)) (hv : NatAt w A m c v) (hA : ∀ a, A = some a → a.block ≠ g)
    (hk : k + m + 1 ≤ N) (hcc : m + 1 ≤ cc) (hN : N ≤ 17592186044420) (hc9 : cc ≤ 9223372036854775807) :
    Calls Try.prog 63 #[.slice (some ⟨g, k, none⟩) (m + 1) cc, .agg #[.slice A m c]] w fun e w' => ∃ V b, e = .returned (.tuple #[]) ∧ V + b * W ^ (k + m + 1) = U + v * W ^ k ∧ up W (k + m + 1) V = up W (k + m + 1) U ∧
      w'.ownsRow base 36 1 (.slice (some ⟨g, 0, none⟩) N cap) N (dl .u64 W N V) ∧ w.grownBy w' (some g) := by
  have hgw : g < w.heap.size := (hown.lt _ rfl).2
  have hgb : base ≤ g := (hown.lt _ rfl).1
  have m1 := hv.1.max
  have m2 := hv.1.cap
  have B0 := Blk1.new w 25 (.slice A m c)
  have hbe : Below w.heap.size w (w.alloc (.cells #[.slice A m c] 25)) := bW
  go_enter Try.func63, Try.ntmps63
  go_wp2_with fail
  refine (nat_Len A m c _).mono ?_
  rintro e w1 ⟨rfl, hb1⟩
  have ho1 := own_below (own_below hown hbe) hb1
  have X1 := B0.to hb1
  have hb2 := gb_below (gb_below (gb_refl w g) hbe) hb1
  clear hbe hb1 B0
  go_wp2_with fail
  go_loopw [4, 5, 8] (fun b _ t wr => ∃ j cy V : Nat, j ≤ m ∧ t = .int .i64 (j : Int) ∧ b = .int .u64 (cy : Nat) ∧ cy ≤ 1 ∧ V + cy * W ^ (k + j) = U + low W j v * W ^ k ∧ up W (k + j) V = up W (k + j) U ∧ wr.ownsRow base 36 1 (.slice (some ⟨g, 0, none⟩) N cap) N (dl .u64 W N (V)) ∧ w.grownBy wr (some g) ∧ Blk1 wr w.heap.size 25 (.slice A m c)) (fun _ _ t _ => m - (intOf t).toNat)
  case atStart => exact ⟨0, 0, U, Nat.zero_le _, rfl, rfl, by omega, by rw [low_nought, Nat.zero_mul, Nat.zero_mul], rfl, ho1, hb2, X1⟩
  case round =>
    clear ho1 hb2 X1
    obtain ⟨j, cy, V, hjm, rfl, rfl, hcy, hV, hU, hown1, hgb1, X⟩ := hrel
    have hv1 := hv.gb hgb1 hA
    have jM : j ≤ 9223372036854775807 := by omega
    have c0 := X.cell
    by_cases hlt : j < m
    · have jm : (j : Int) < (m : Int) := by omega
      have jm1 : (j : Int) < (m : Int) + 1 := by omega
      obtain ⟨s1, s2⟩ := back_step hcy hV hU
      have cU := hown1.cellAt (k + j) (by omega)
      rw [dl_get _ _ _ _ _ (by omega)] at cU
      have hd := dg_lt W_pos (k + j) V
      have hD := dg_lt W_pos j v
      obtain ⟨d, hdd⟩ : ∃ d, d = dg W (k + j) V := ⟨_, rfl⟩
      rw [← hdd] at cU hd s1 s2
      have S1 := Lib.hid s1
      have S2 := Lib.hid s2
      clear hV hU hdd s1 s2
      go_wp2_with fail
      refine wp_regionS (S := fun w' => w'.cell? ⟨w.heap.size, 0, none⟩ = some (.slice A m c) ∧ w'.cell? ⟨g, k + j, none⟩ = some (.int .u64 (d : Nat))) [15] kR ⟨cellB (show Below wr.heap.size wr _ from bW) c0, cellB (show Below wr.heap.size wr _ from bW) cU⟩ (fun hHeld => ?_)
      have hbd1 : Below wr.heap.size wr wr.drew := nxw (Below.refl _ _)
      generalize wr.drew = wd1 at hHeld hbd1 ⊢
      refine anyS_take0 (i := 0) (v := ?_) gO kR kR kR (by rfl) (by exact fun _ _ _ h => h) (Or.inl ⟨by rfl, ?_⟩) (fun _ => by assumption) ?_
      rotate_left
      · intro w hSw; (try dsimp only at hSw); go_simp; try with_reducible rfl
      try simp only [Act.put, sX, sY, sZ]
      refine anyS_take0 (i := 1) (v := ?_) gO kR kR kR (by rfl) (by exact fun _ _ _ h => h) (Or.inl ⟨by rfl, ?_⟩) (fun _ => by assumption) ?_
      rotate_left
      · intro w hSw; (try dsimp only at hSw); go_simp; try with_reducible rfl
      try simp only [Act.put, sX, sY, sZ]
      refine anyS_take0 (i := 2) (v := ?_) gO kR kR kR (by rfl) (by exact fun _ _ _ h => h) (Or.inl ⟨by rfl, ?_⟩) (fun _ => by assumption) ?_
      rotate_left
      · intro w hSw; (try dsimp only at hSw); go_simp; try with_reducible rfl
      try simp only [Act.put, sX, sY, sZ]
      refine anyS_take0 (i := 3) (v := ?_) gO kR kR kR (by rfl) (by exact fun _ _ _ h => h) (Or.inl ⟨by rfl, ?_⟩) (fun _ => by assumption) ?_
      rotate_left
      · intro w hSw; (try dsimp only at hSw); go_simp; try with_reducible rfl
      try simp only [Act.put, sX, sY, sZ]
      refine anyS_take0 (i := 4) (v := ?_) gO kR kR kR (by rfl) (by exact fun _ _ _ h => h) (Or.inl ⟨by rfl, ?_⟩) (fun _ => by assumption) ?_
      rotate_left
      · intro w hSw; (try dsimp only at hSw); go_simp; try with_reducible rfl
      try simp only [Act.put, sX, sY, sZ]
      refine anyS_take (i := 5) (v := ?_) gO kR kR kR kR kR (by exact fun _ _ _ h => h) (Or.inl ⟨by rfl, ?_⟩) (by assumption) ?_
      rotate_left
      · intro w hSw; (try dsimp only at hSw); go_simp; try with_reducible rfl
      try simp only [Act.put, sX, sY, sZ]
      refine anyS_take (i := 6) (v := ?_) gO kR kR kR kR kR (by exact fun _ _ _ h => h) (Or.inl ⟨by rfl, ?_⟩) (by assumption) ?_
      rotate_left
      · intro w hSw; (try dsimp only at hSw); go_simp; try with_reducible rfl
      try simp only [Act.put, sX, sY, sZ]
      refine anyS_take0 (i := 7) (v := ?_) gO kR kR kR (by rfl) (by exact fun _ _ _ h => h) (Or.inl ⟨by rfl, ?_⟩) (fun _ => by assumption) ?_
      rotate_left
      · intro w hSw; (try dsimp only at hSw); go_simp; try with_reducible rfl
      try simp only [Act.put, sX, sY, sZ]
      refine anyS_take0 (i := 9) (v := ?_) gO kR kR kR (by rfl) (by exact fun _ _ _ h => h) (Or.inl ⟨by rfl, ?_⟩) (fun _ => by assumption) ?_
      rotate_left
      · intro w hSw; (try dsimp only at hSw); go_simp; try with_reducible rfl
      try simp only [Act.put, sX, sY, sZ]
      refine anyS_ready (rs := [8]) kR (by simp) (ReadyS.cons gO (fun K hK => ?_) ReadyS.nil)
      go_simp
      go_at_call 32
      (with_reducible refine (nat_Word A m c v j _ (hv1.to bW) jM).mono ?_)
      rintro e w2 ⟨rfl, hb2⟩
      have ho3 := own_below hown1 (show Below wr.heap.size wr w2 from bW)
      have f3 := ho3.frozenAt (k + j)
      have c3 := cellB (show Below wr.heap.size wr w2 from bW) cU
      go_simp
      refine hK.out _ _ ⟨cellB (show Below wr.heap.size wr _ from bW) c0, cellB (show Below wr.heap.size wr _ from bW) cU⟩ (fun hHeld => ?_)
      clear hK K
      try simp only [Act.put, sX, sY, sZ]
      refine anyS_ready (rs := [10]) kR (by simp) (ReadyS.cons gO (fun K hK => ?_) ReadyS.nil)
      go_simp
      go_at_call 31
      (with_reducible refine (word_Add d _ cy _ hd hD (Nat.lt_of_le_of_lt hcy (by decide))).mono ?_)
      rintro e w4 ⟨rfl, rfl⟩
      go_simp
      refine hK.out _ _ ⟨cellB (show Below wr.heap.size wr _ from bW) c0, cellB (show Below wr.heap.size wr _ from bW) cU⟩ (fun hHeld => ?_)
      clear hK K
      try simp only [Act.put, sX, sY, sZ]
      refine anyS_take0 (i := 11) (v := ?_) gO kR kR kR (by rfl) (by exact fun _ _ _ h => h) (Or.inl ⟨by rfl, ?_⟩) (fun _ => by assumption) ?_
      rotate_left
      · intro w hSw; (try dsimp only at hSw); go_simp; try with_reducible rfl
      try simp only [Act.put, sX, sY, sZ]
      refine anyS_take0 (i := 12) (v := ?_) gO kR kR kR (by rfl) (by exact fun _ _ _ h => h) (Or.inl ⟨by rfl, ?_⟩) (fun _ => by assumption) ?_
      rotate_left
      · intro w hSw; (try dsimp only at hSw); go_simp; try with_reducible rfl
      try simp only [Act.put, sX, sY, sZ]
      refine anyS_take0 (i := 13) (v := ?_) gO kR kR kR (by rfl) (by exact fun _ _ _ h => h) (Or.inl ⟨by rfl, ?_⟩) (fun _ => by assumption) ?_
      rotate_left
      · intro w hSw; (try dsimp only at hSw); go_simp; try with_reducible rfl
      try simp only [Act.put, sX, sY, sZ]
      refine anyS_take0 (i := 14) (v := ?_) gO kR kR kR (by rfl) (by exact fun _ _ _ h => h) (Or.inl ⟨by rfl, ?_⟩) (fun _ => by assumption) ?_
      rotate_left
      · intro w hSw; (try dsimp only at hSw); go_simp; try with_reducible rfl
      try simp only [Act.put, sX, sY, sZ]
      refine anyS_ready (rs := [15]) kR (by simp) (ReadyS.last gO kR (fun K hK => ?_))
      go_simp
      refine hK.out _ _ ?_
      clear hK K
      try simp only [Act.put, sX, sY, sZ]
      refine anyS_take1 (i := 16) (v := ?_) gO kR kR kR (by rfl) kR (by exact fun _ _ _ h => h) (Or.inl ⟨by rfl, ?_⟩) ?_
      rotate_left
      · intro w hSw; (try dsimp only at hSw); go_simp; try with_reducible rfl
      try simp only [Act.put, sX, sY, sZ]
      refine anyS_done kR ?_ _
      have hsl := addLo_lt d (dg W j v) cy
      have hsh := addHi_le cy hd hD
      have ho := (ho3.stored (k + j) (.int .u64 (addLo d (dg W j v) cy : Nat))).1
      rw [dl_set W_pos (by omega) hsl] at ho
      have hgb2 := gb_set (gb_below hgb1 (show Below wr.heap.size wr w2 from bW)) (p := ⟨g, k + j, none⟩) rfl (.int .u64 (addLo d (dg W j v) cy : Nat))
      have Y := (X.to (show Below wr.heap.size wr w2 from bW)).far (p := ⟨g, k + j, none⟩) (by show w.heap.size ≠ g; omega) (.int .u64 (addLo d (dg W j v) cy : Nat))
      clear c3 f3 ho3 hb2 hown1 X c0 cU hgb1 hv1
      go_wp2_with fail
      go_roundw
      case rel => exact ⟨j + 1, addHi d (dg W j v) cy, _, by omega, by go_num, rfl, hsh, S1.out, S2.out, ho, hgb2, Y⟩
      case measure => simp [intOf]; omega
    · obtain rfl : j = m := by omega
      obtain ⟨b, s1, s2⟩ := back_end hv.lt hV hU
      obtain ⟨d, hdd⟩ : ∃ d, d = dg W (k + j) V := ⟨_, rfl⟩
      rw [← hdd] at s1 s2
      have S1 := Lib.hid s1
      have S2 := Lib.hid s2
      have jI : (j : Int) < (j : Int) + 1 := by omega
      have hdw : d < W := by rw [hdd]; exact dg_lt W_pos _ _
      have HD := Lib.hid hdd
      clear hV hU s1 s2 hdd hv1
      go_wp2_with fail
      refine (nat_Len A j c _).mono ?_
      rintro e w2 ⟨rfl, hb2⟩
      have ho3 := own_below hown1 hb2
      have f3 := ho3.frozenAt (k + j)
      have c3 := ho3.cellAt (k + j) (by omega)
      rw [dl_get _ _ _ _ _ (by omega), ← HD.out] at c3
      have zw : IntKind.u64.wrap ((d : Int) + (cy : Int)) = (((d + cy) % W : Nat) : Int) := wrap_add d cy
      have ho := (ho3.stored (k + j) (.int .u64 ((d + cy) % W : Nat))).1
      rw [dl_set W_pos (by omega) (Nat.mod_lt _ W_pos)] at ho
      have hgb2 := gb_set (gb_below hgb1 hb2) (p := ⟨g, k + j, none⟩) rfl (.int .u64 ((d + cy) % W : Nat))
      generalize (d + cy) % W = t at *
      clear ho3 hown1 hb2 hgb1 X c0
      go_wp2_with fail
      go_end0
      exact ⟨_, b, rfl, S1.out, S2.out, ho, hgb2⟩
end Go.Proofs.Ythjokpnihoigeaa
set_option linter.unusedVariables false
namespace Go.Proofs.Ythjokpnihoigeaa
theorem norm_top {y m : Nat} (h1 : y < W ^ (m + 1)) (h2 : W ^ m ≤ y) :
    lead (dg W m y) ≤ 63 ∧ y * 2 ^ lead (dg W m y) < W ^ (m + 1) ∧ 9223372036854775808 * W ^ m ≤ y * 2 ^ lead (dg W m y) := by
  have hp : 0 < W ^ m := Nat.pow_pos W_pos
  have ht := top_digit h1
  have htw := dg_lt W_pos m y
  have hne : dg W m y ≠ 0 := by rw [ht]; have := Nat.div_pos h2 hp; omega
  obtain ⟨b1, b2, b3, b4⟩ := lead_bounds hne htw
  have e1 : y / W ^ m * W ^ m ≤ y := Nat.div_mul_le_self _ _
  have e2 : y < (y / W ^ m + 1) * W ^ m := by rw [Nat.mul_comm]; exact Nat.lt_mul_div_succ _ hp
  rw [← ht] at e1 e2
  have hb := blen_lt (dg W m y)
  unfold lead
  generalize blen (dg W m y) = b at *
  generalize dg W m y = t at *
  have hs : 0 < 2 ^ (64 - b) := Nat.pow_pos (by decide)
  refine ⟨by omega, ?_, ?_⟩
  · have c1 : y * 2 ^ (64 - b) < (t + 1) * W ^ m * 2 ^ (64 - b) := Nat.mul_lt_mul_of_pos_right e2 hs
    have c2 : (t + 1) * 2 ^ (64 - b) ≤ 2 ^ b * 2 ^ (64 - b) := Nat.mul_le_mul_right _ hb
    rw [← Nat.pow_add, show b + (64 - b) = 64 by omega, ← W_eq] at c2
    have c3 : (t + 1) * 2 ^ (64 - b) * W ^ m ≤ W * W ^ m := Nat.mul_le_mul_right _ c2
    rw [Nat.pow_succ, Nat.mul_comm (W ^ m) W]
    rw [Nat.mul_right_comm] at c1
    omega
  · have c1 : t * W ^ m * 2 ^ (64 - b) ≤ y * 2 ^ (64 - b) := Nat.mul_le_mul_right _ e1
    have c2 : 9223372036854775808 * W ^ m ≤ t * 2 ^ (64 - b) * W ^ m := Nat.mul_le_mul_right _ b4
    rw [Nat.mul_right_comm] at c1
    omega
end Go.Proofs.Ythjokpnihoigeaa
set_option linter.unusedVariables false
set_option linter.unusedSimpArgs false
namespace Go.Proofs.Ythjokpnihoigeaa
/-- before the turn at k - 1: the row U, the digits Q found so far, the whole U0 -/
def Turn (k v U0 U Q : Nat) : Prop := U + Q * W ^ k * v = U0 ∧ U < v * W ^ k
theorem turn_sum {k U U1 v q Q : Nat} (h : U1 + q * v * W ^ k = U) : U1 + (q + W * Q) * W ^ k * v = U + Q * W ^ (k + 1) * v := by
  subst h
  rw [Nat.pow_succ, Nat.add_mul, Nat.add_mul]
  have e1 : q * W ^ k * v = q * v * W ^ k := by simp only [Nat.mul_assoc, Nat.mul_comm, Nat.mul_left_comm]
  have e2 : W * Q * W ^ k * v = Q * (W ^ k * W) * v := by simp only [Nat.mul_assoc, Nat.mul_comm, Nat.mul_left_comm]
  rw [e1, e2]; omega
theorem Turn.fits {k m U U1 v q b Q U0 : Nat} (hS : Turn (k + 1) v U0 U Q) (hv : v < W ^ m) (hq : qd k U v = q) (h : U1 + q * v * W ^ k = U + b * W ^ (k + m + 1)) (hu : up W (k + m + 1) U1 = up W (k + m + 1) U) (hb : b ≤ 1) :
    b = 0 ∧ Turn k v U0 U1 (q + W * Q) := by
  obtain ⟨h1, h2, h3⟩ := take_fits hS.2 hv hq h hu hb
  exact ⟨h1, by rw [turn_sum h2]; exact hS.1, h3⟩
theorem Turn.over {k m U U1 v q b Q U0 : Nat} (hS : Turn (k + 1) v U0 U Q) (hv : v < W ^ m) (hq : qd k U v + 1 = q) (h : U1 + q * v * W ^ k = U + b * W ^ (k + m + 1)) (hu : up W (k + m + 1) U1 = up W (k + m + 1) U) (hb : b ≤ 1) :
    b = 1 ∧ ∀ U2 c, U2 + c * W ^ (k + m + 1) = U1 + v * W ^ k → up W (k + m + 1) U2 = up W (k + m + 1) U1 → Turn k v U0 U2 (qd k U v + W * Q) := by
  obtain ⟨h1, h2⟩ := take_over hS.2 hv hq h hu hb
  refine ⟨h1, fun U2 c h3 h4 => ?_⟩
  obtain ⟨h5, h6⟩ := h2 U2 c h3 h4
  exact ⟨by rw [turn_sum h5]; exact hS.1, h6⟩
/-- the guess is the digit, or one above it -/
theorem Turn.near {k m U v Q U0 : Nat} (hS : Turn (k + 1) v U0 U Q) (hv : v < W ^ (m + 2)) (hv1 : 9223372036854775808 * W ^ (m + 1) ≤ v) (q : Nat) (hq : q = gss ((dg W (k + m + 2) U * W + dg W (k + m + 1) U) * W + dg W (k + m) U) (dg W (m + 1) v * W + dg W m v)) :
    qd k U v = q ∨ qd k U v + 1 = q := by
  have := guess_near hS.2 hv (by have : 1 * W ^ (m + 1) ≤ 9223372036854775808 * W ^ (m + 1) := Nat.mul_le_mul_right _ (by decide); omega)
  rw [← hq] at this
  omega
/-- the row's upper word is at most the divisor's -/
theorem top_le {k m U v : Nat} (hU : U < v * W ^ (k + 1)) (hv : v < W ^ (m + 2)) : dg W (k + m + 2) U ≤ dg W (m + 1) v := by
  have hp : 0 < W ^ (k + 1) := Nat.pow_pos W_pos
  have e1 : dg W (k + m + 2) U ≤ U / W ^ (k + m + 2) := Nat.mod_le _ _
  have e2 : dg W (m + 1) v = v / W ^ (m + 1) := by
    unfold dg
    apply Nat.mod_eq_of_lt
    apply Nat.div_lt_of_lt_mul
    rwa [← Nat.pow_succ]
  have e3 : U / W ^ (k + m + 2) ≤ v * W ^ (k + 1) / W ^ (k + m + 2) := Nat.div_le_div_right (Nat.le_of_lt hU)
  have e4 : v * W ^ (k + 1) / W ^ (k + m + 2) = v / W ^ (m + 1) := by
    rw [show k + m + 2 = m + 1 + (k + 1) by omega, Nat.pow_add W (m + 1) (k + 1)]
    exact Nat.mul_div_mul_right _ _ hp
  omega
theorem Turn.zero {v U0 U Q : Nat} (h : Turn 0 v U0 U Q) : U + Q * v = U0 ∧ U < v := by
  obtain ⟨h1, h2⟩ := h
  rw [Nat.pow_zero, Nat.mul_one] at h1 h2
  exact ⟨h1, h2⟩
theorem Turn.start {k v U : Nat} (h : U < v * W ^ k) : Turn k v U U 0 := ⟨by simp, h⟩
/-- what the guess is handed, and what comes of it -/
theorem Turn.guessed {j m U V Q U0 : Nat} (hS : Turn (j + 1) V U0 U Q) (hV : V < W ^ m) (hm : 2 ≤ m) (hV1 : 9223372036854775808 * W ^ (m - 1) ≤ V) :
    dg W (j + m) U ≤ dg W (m - 1) V ∧ 0 < dg W (m - 1) V ∧
    (qd j U V = gss ((dg W (j + m) U * W + dg W (j + m - 1) U) * W + dg W (j + m - 2) U) (dg W (m - 1) V * W + dg W (m - 2) V) ∨
     qd j U V + 1 = gss ((dg W (j + m) U * W + dg W (j + m - 1) U) * W + dg W (j + m - 2) U) (dg W (m - 1) V * W + dg W (m - 2) V)) := by
  obtain ⟨M, rfl⟩ : ∃ M, m = M + 2 := ⟨m - 2, by omega⟩
  have e1 : M + 2 - 1 = M + 1 := by omega
  rw [e1] at hV1
  have h1 := top_le (k := j) (m := M) hS.2 hV
  have h2 := hS.near hV hV1 _ rfl
  rw [show j + (M + 2) = j + M + 2 by omega, show j + M + 2 - 1 = j + M + 1 by omega, show j + M + 2 - 2 = j + M by omega, e1, show M + 2 - 2 = M by omega]
  refine ⟨h1, ?_, h2⟩
  have ht : dg W (M + 1) V = V / W ^ (M + 1) := by
    unfold dg
    apply Nat.mod_eq_of_lt
    apply Nat.div_lt_of_lt_mul
    rwa [← Nat.pow_succ]
  have hp : 0 < W ^ (M + 1) := Nat.pow_pos W_pos
  have := Nat.div_pos (Nat.le_trans (Nat.le_mul_of_pos_left _ (by decide)) hV1) hp
  omega
theorem put_same {b : Nat} (hb : 0 < b) {j U a : Nat} (ha : a < b) (d : Nat) : put b j ((a + b * U) * b ^ j) d = (d + b * U) * b ^ j := by
  have h1 : (a + b * U) * b ^ j % b ^ j = 0 := Nat.mul_mod_left _ _
  have h2 : (a + b * U) * b ^ j / b ^ (j + 1) = U := by
    rw [Nat.pow_succ, ← Nat.div_div_eq_div_mul, Nat.mul_div_cancel _ (Nat.pow_pos hb), Nat.add_mul_div_left _ _ hb, Nat.div_eq_of_lt ha, Nat.zero_add]
  unfold put
  rw [h1, h2, Nat.zero_add, Nat.add_mul, Nat.pow_succ, Nat.mul_comm b U]
  simp only [Nat.mul_assoc, Nat.mul_comm, Nat.mul_left_comm]
theorem Turn.quot_lt {v U0 U Q m k : Nat} (h : Turn 0 v U0 U Q) (h0 : U0 < v * W ^ k) : Q < W ^ k := by
  obtain ⟨h1, h2⟩ := h.zero
  have h3 : Q * v < W ^ k * v := by rw [Nat.mul_comm (W ^ k)]; omega
  exact Nat.lt_of_mul_lt_mul_right h3
/-- a row that is left as it was while another one turns -/
theorem own_gb {w w' : World} {base : Nat} {e : TypeId} {g' n c g : Nat} {xs : List Value} (h : w.ownsRow base e 1 (.slice (some ⟨g', 0, none⟩) n c) n xs) (hg : w.grownBy w' (some g)) (hne : g' ≠ g) :
    w'.ownsRow base e 1 (.slice (some ⟨g', 0, none⟩) n c) n xs := h.kept hg (.inr fun e => hne (Option.some.inj e))
/-- a row of one's own, cut to its first m cells -/
theorem own_shrink {w : World} {base : Nat} {e : TypeId} {k : IntKind} {b n m x g cap : Nat} (h : w.ownsRow base e 1 (.slice (some ⟨g, 0, none⟩) n cap) n (dl k b n x)) (hm : m ≤ n) :
    w.ownsRow base e 1 (.slice (some ⟨g, 0, none⟩) m cap) m (dl k b m x) := by
  obtain ⟨h1, h2 | ⟨g', cap', cur, e1, hb, hw, h3, h4, h5, h6⟩⟩ := h
  · cases h2.1
  · cases e1
    refine ⟨by rw [dl_length, Nat.mul_one], .inr ⟨g, cap, cur, rfl, hb, hw, by omega, h4, h5, ?_⟩⟩
    rw [Nat.mul_one] at h6 ⊢
    have e2 : dl k b m x = (dl k b n x).take m := by unfold dl; rw [← List.map_take, List.take_range, Nat.min_eq_left hm]
    rw [e2, ← h6, List.take_take, Nat.min_eq_left hm]
end Go.Proofs.Ythjokpnihoigeaa
