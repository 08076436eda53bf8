/- Plain law of division, word by word: the guess, what is taken, what is put back. No program in sight. -/
import Derived.Test.YtflleaifmeiikaaProdLaw
import Derived.Test.YtflleaifmeiikaaWordLaw2
set_option linter.unusedVariables false
set_option linter.unusedSimpArgs false
namespace Go.Proofs.Ytflleaifmeiikaa
/-- the guessed word -/
def gss (u v : Nat) : Nat := min (W - 1) (u / v)
theorem gss_lt (u v : Nat) : gss u v < W := by unfold gss; have := W_pos; omega
/-- what holds of a candidate: it is not too small, and q times v1, and what is left, are u's two highest words -/
def Cand (u2 u1 u0 v1 v0 q r : Nat) : Prop := q * v1 + r = u2 * W + u1 ∧ gss ((u2 * W + u1) * W + u0) (v1 * W + v0) ≤ q ∧ q < W
theorem Cand.fit {u2 u1 u0 v1 v0 q r : Nat} (h : Cand u2 u1 u0 v1 v0 q r) (hv : 0 < v1) (hq : q * v0 ≤ r * W + u0) : q = gss ((u2 * W + u1) * W + u0) (v1 * W + v0) := by
  obtain ⟨h1, h2, h3⟩ := h
  have hvp : 0 < v1 * W + v0 := by have := Nat.mul_pos hv W_pos; omega
  refine Nat.le_antisymm ?_ h2
  have h4 : q * (v1 * W + v0) ≤ (u2 * W + u1) * W + u0 := by
    rw [← h1, Nat.mul_add, Nat.add_mul, Nat.mul_assoc]
    omega
  have h5 := (Nat.le_div_iff_mul_le hvp).2 h4
  have h6 : q ≤ W - 1 := Nat.le_sub_one_of_lt h3
  unfold gss
  generalize ((u2 * W + u1) * W + u0) / (v1 * W + v0) = z at *
  generalize W - 1 = y at *
  omega
theorem Cand.down {u2 u1 u0 v1 v0 q r : Nat} (h : Cand u2 u1 u0 v1 v0 q r) (hq : r * W + u0 < q * v0) : 0 < q ∧ Cand u2 u1 u0 v1 v0 (q - 1) (r + v1) := by
  obtain ⟨h1, h2, h3⟩ := h
  have hq0 : 0 < q := by
    rcases Nat.eq_zero_or_pos q with h0 | h0
    · subst h0; simp at hq
    · exact h0
  refine ⟨hq0, ?_, ?_, by omega⟩
  · obtain ⟨p, rfl⟩ : ∃ p, q = p + 1 := ⟨q - 1, by omega⟩
    rw [Nat.add_sub_cancel, ← h1, Nat.add_mul]; omega
  · have h4 : (u2 * W + u1) * W + u0 < q * (v1 * W + v0) := by
      rw [← h1, Nat.mul_add, Nat.add_mul, Nat.mul_assoc]
      omega
    have h5 : (u2 * W + u1) * W + u0 < (v1 * W + v0) * q := by rw [Nat.mul_comm (v1 * W + v0) q]; exact h4
    have h6 := Nat.div_lt_of_lt_mul h5
    unfold gss
    generalize ((u2 * W + u1) * W + u0) / (v1 * W + v0) = z at *
    omega
theorem over_fits {q v0 r u0 : Nat} (hq : q < W) (hv : v0 < W) (hr : W ≤ r) : q * v0 ≤ r * W + u0 := by
  have h1 : q * v0 ≤ W * W := Nat.mul_le_mul (Nat.le_of_lt hq) (Nat.le_of_lt hv)
  have h2 : W * W ≤ r * W := Nat.mul_le_mul_right _ hr
  omega
theorem Cand.start {u2 u1 u0 v1 v0 : Nat} (h : u2 < v1) (hv : v1 < W) (h1 : u1 < W) (h0 : u0 < W) : Cand u2 u1 u0 v1 v0 ((u2 * W + u1) / v1) ((u2 * W + u1) % v1) := by
  refine ⟨Nat.div_add_mod' _ _, ?_, ?_⟩
  · have e : (u2 * W + u1) / v1 = ((u2 * W + u1) * W) / (v1 * W) := (Nat.mul_div_mul_right _ _ W_pos).symm
    have hd : ((u2 * W + u1) * W + u0) / (v1 * W + v0) ≤ ((u2 * W + u1) * W + u0) / (v1 * W) := Nat.div_le_div_left (by omega) (Nat.mul_pos (by omega) W_pos)
    have hd2 : ((u2 * W + u1) * W + u0) / (v1 * W) = (u2 * W + u1) / v1 := by
      rw [Nat.mul_comm v1 W, ← Nat.div_div_eq_div_mul, Nat.mul_comm _ W, Nat.mul_add_div W_pos, Nat.div_eq_of_lt h0, Nat.add_zero]
    unfold gss
    omega
  · apply Nat.div_lt_of_lt_mul
    have : (u2 + 1) * W ≤ v1 * W := Nat.mul_le_mul_right _ h
    rw [Nat.add_mul] at this
    omega
theorem Cand.big {u1 u0 v1 v0 : Nat} (hv : 0 < v1) : Cand v1 u1 u0 v1 v0 (W - 1) (u1 + v1) := by
  refine ⟨?_, ?_, ?_⟩
  · have hm : (W - 1) * v1 + 1 * v1 = W * v1 := by rw [← Nat.add_mul]; rfl
    rw [Nat.mul_comm v1 W]; omega
  · unfold gss; omega
  · have := W_pos; omega
/-- the guess is right or one too great -/
theorem gss_near {v2 t u3 vl ul : Nat} (hv2 : W ≤ v2) (hvl : vl < t) (hul : ul < t) (hlt : u3 * t + ul < (v2 * t + vl) * W) :
    (u3 * t + ul) / (v2 * t + vl) ≤ gss u3 v2 ∧ gss u3 v2 ≤ (u3 * t + ul) / (v2 * t + vl) + 1 := by
  have ht : 0 < t := by omega
  have hvp : 0 < v2 * t + vl := by have := Nat.mul_pos (show 0 < v2 by have := W_pos; omega) ht; omega
  have hq : (u3 * t + ul) / (v2 * t + vl) < W := Nat.div_lt_of_lt_mul hlt
  generalize hQ : (u3 * t + ul) / (v2 * t + vl) = q at *
  have h1 : q * (v2 * t + vl) ≤ u3 * t + ul := by rw [← hQ]; exact Nat.div_mul_le_self _ _
  have h2 : u3 * t + ul < (q + 1) * (v2 * t + vl) := by
    have := Nat.lt_mul_div_succ (u3 * t + ul) hvp
    rw [hQ, Nat.mul_comm (v2 * t + vl) (q + 1)] at this
    exact this
  constructor
  · have h3 : q * v2 ≤ u3 := by
      have : q * v2 * t < (u3 + 1) * t := by
        rw [Nat.mul_add, ← Nat.mul_assoc] at h1
        rw [Nat.add_mul]; omega
      have := Nat.lt_of_mul_lt_mul_right this
      omega
    have := (Nat.le_div_iff_mul_le (show 0 < v2 by have := W_pos; omega)).2 h3
    unfold gss; omega
  · have hgl := gss_lt u3 v2
    have hg : gss u3 v2 * v2 ≤ u3 := by
      have : gss u3 v2 ≤ u3 / v2 := by unfold gss; omega
      exact Nat.le_trans (Nat.mul_le_mul_right _ this) (Nat.div_mul_le_self _ _)
    generalize gss u3 v2 = g at *
    have h4 : g * (v2 * t + vl) < (q + 2) * (v2 * t + vl) := by
      have e1 : g * v2 * t ≤ u3 * t := Nat.mul_le_mul_right _ hg
      have e2 : g * vl ≤ W * vl := Nat.mul_le_mul_right _ (Nat.le_of_lt hgl)
      have e3 : W * (vl + 1) ≤ W * t := Nat.mul_le_mul_left _ hvl
      have e4 : W * t ≤ v2 * t := Nat.mul_le_mul_right _ hv2
      have e5 : (q + 2) * (v2 * t + vl) = (q + 1) * (v2 * t + vl) + (v2 * t + vl) := by rw [Nat.add_mul q 2, Nat.add_mul q 1]; omega
      rw [Nat.mul_add g, ← Nat.mul_assoc, e5]
      rw [Nat.mul_add] at e3
      have := W_pos
      omega
    have := Nat.lt_of_mul_lt_mul_right h4
    omega
/-- one place of what is taken away: over goes over from the product, br is lacking -/
theorem take_step {k j U U0 q ov br v : Nat} (hv : dg W j v < W) (hbr : br ≤ 1) (h : U + q * low W j v * W ^ k = U0 + (ov + br) * W ^ (k + j)) (hu : up W (k + j) U = up W (k + j) U0) :
    put W (k + j) U (subLo (dg W (k + j) U) (maLo (dg W j v) q ov 0) br) + q * low W (j + 1) v * W ^ k = U0 + (maHi (dg W j v) q ov 0 + subHi (dg W (k + j) U) (maLo (dg W j v) q ov 0) br) * W ^ (k + (j + 1)) ∧
    up W (k + (j + 1)) (put W (k + j) U (subLo (dg W (k + j) U) (maLo (dg W j v) q ov 0) br)) = up W (k + (j + 1)) U0 := by
  have hs := ma_split (dg W j v) q ov 0
  have hl := maLo_lt (dg W j v) q ov 0
  generalize maLo (dg W j v) q ov 0 = lo at *
  generalize maHi (dg W j v) q ov 0 = hi at *
  have hd := sub_split (dg W (k + j) U) lo br (dg_lt W_pos _ _) hl
  have hdl := subLo_lt (dg W (k + j) U) lo br
  have hc := Nat.mod_eq_of_lt (show br < 2 by omega)
  rw [hc] at hd
  generalize subLo (dg W (k + j) U) lo br = d at *
  generalize subHi (dg W (k + j) U) lo br = b2 at *
  refine ⟨?_, ?_⟩
  · have hp := put_add W (k + j) U d
    have hm := congrArg (· * W ^ (k + j)) hs
    have hn := congrArg (· * W ^ (k + j)) hd
    simp only [Nat.add_mul] at hm hn h
    have e1 : (hi + b2) * W ^ (k + (j + 1)) = W * hi * W ^ (k + j) + W * b2 * W ^ (k + j) := by
      rw [← Nat.add_mul, ← Nat.mul_add, ← Nat.add_assoc, Nat.pow_succ, Nat.mul_comm W (hi + b2), Nat.mul_assoc, Nat.mul_comm W]
    have e2 : q * low W (j + 1) v * W ^ k = q * low W j v * W ^ k + dg W j v * q * W ^ (k + j) := by
      rw [← low_next, Nat.mul_add, Nat.add_mul, Nat.pow_add, Nat.mul_comm (W ^ k) (W ^ j), Nat.mul_comm (dg W j v) q]
      simp only [Nat.mul_assoc]
    rw [e1, e2]
    omega
  · rw [show k + (j + 1) = k + j + 1 from rfl, up_put W_pos hdl]
    exact up_succ_of hu
theorem take_end {k m U U0 q ov br v : Nat} (hov : ov < W) (hbr : br ≤ 1) (hv : v < W ^ m) (h : U + q * low W m v * W ^ k = U0 + (ov + br) * W ^ (k + m)) (hu : up W (k + m) U = up W (k + m) U0) :
    put W (k + m) U (subLo (dg W (k + m) U) ov br) + q * v * W ^ k = U0 + subHi (dg W (k + m) U) ov br * W ^ (k + m + 1) ∧
    up W (k + m + 1) (put W (k + m) U (subLo (dg W (k + m) U) ov br)) = up W (k + m + 1) U0 := by
  rw [low_all hv] at h
  have hd := sub_split (dg W (k + m) U) ov br (dg_lt W_pos _ _) hov
  have hdl := subLo_lt (dg W (k + m) U) ov br
  rw [Nat.mod_eq_of_lt (show br < 2 by omega)] at hd
  generalize subLo (dg W (k + m) U) ov br = d at *
  generalize subHi (dg W (k + m) U) ov br = b2 at *
  refine ⟨?_, ?_⟩
  · have hp := put_add W (k + m) U d
    have hn := congrArg (· * W ^ (k + m)) hd
    simp only [Nat.add_mul] at hn h
    have e1 : b2 * W ^ (k + m + 1) = W * b2 * W ^ (k + m) := by
      rw [Nat.pow_succ, Nat.mul_comm W b2, Nat.mul_assoc, Nat.mul_comm W]
    rw [e1]
    omega
  · rw [up_put W_pos hdl]
    exact up_succ_of hu
/-- one place of what is put back -/
theorem back_step {k j U U0 cy v : Nat} (hcy : cy ≤ 1) (h : U + cy * W ^ (k + j) = U0 + low W j v * W ^ k) (hu : up W (k + j) U = up W (k + j) U0) :
    put W (k + j) U (addLo (dg W (k + j) U) (dg W j v) cy) + addHi (dg W (k + j) U) (dg W j v) cy * W ^ (k + (j + 1)) = U0 + low W (j + 1) v * W ^ k ∧
    up W (k + (j + 1)) (put W (k + j) U (addLo (dg W (k + j) U) (dg W j v) cy)) = up W (k + (j + 1)) U0 := by
  have hd := add_split (dg W (k + j) U) (dg W j v) cy
  have hdl := addLo_lt (dg W (k + j) U) (dg W j v) cy
  rw [Nat.mod_eq_of_lt (show cy < 2 by omega)] at hd
  generalize addLo (dg W (k + j) U) (dg W j v) cy = d at *
  generalize addHi (dg W (k + j) U) (dg W j v) cy = c2 at *
  refine ⟨?_, ?_⟩
  · have hp := put_add W (k + j) U d
    have hn := congrArg (· * W ^ (k + j)) hd
    simp only [Nat.add_mul] at hn
    have e1 : c2 * W ^ (k + (j + 1)) = W * c2 * W ^ (k + j) := by
      rw [← Nat.add_assoc, Nat.pow_succ, Nat.mul_comm W c2, Nat.mul_assoc, Nat.mul_comm W]
    have e2 : low W (j + 1) v * W ^ k = low W j v * W ^ k + dg W j v * W ^ (k + j) := by
      rw [← low_next, Nat.add_mul, Nat.pow_add, Nat.mul_comm (W ^ k) (W ^ j), Nat.mul_assoc]
    rw [e1, e2]
    omega
  · rw [show k + (j + 1) = k + j + 1 from rfl, up_put W_pos hdl]
    exact up_succ_of hu
/-- the last place: what goes over there is lost -/
theorem back_end {k m U U0 cy v : Nat} (hv : v < W ^ m) (h : U + cy * W ^ (k + m) = U0 + low W m v * W ^ k) (hu : up W (k + m) U = up W (k + m) U0) :
    ∃ c, put W (k + m) U ((dg W (k + m) U + cy) % W) + c * W ^ (k + m + 1) = U0 + v * W ^ k ∧ up W (k + m + 1) (put W (k + m) U ((dg W (k + m) U + cy) % W)) = up W (k + m + 1) U0 := by
  rw [low_all hv] at h
  have hd : dg W (k + m) U + cy = (dg W (k + m) U + cy) % W + W * ((dg W (k + m) U + cy) / W) := (Nat.mod_add_div _ _).symm
  have hdl : (dg W (k + m) U + cy) % W < W := Nat.mod_lt _ W_pos
  refine ⟨(dg W (k + m) U + cy) / W, ?_, ?_⟩
  · generalize (dg W (k + m) U + cy) % W = d at *
    generalize (dg W (k + m) U + cy) / W = c2 at *
    have hp := put_add W (k + m) U d
    have hn := congrArg (· * W ^ (k + m)) hd
    simp only [Nat.add_mul] at hn
    have e1 : c2 * W ^ (k + m + 1) = W * c2 * W ^ (k + m) := by
      rw [Nat.pow_succ, Nat.mul_comm W c2, Nat.mul_assoc, Nat.mul_comm W]
    rw [e1]
    omega
  · rw [up_put W_pos hdl]
    exact up_succ_of hu
/-- U's three digits at the place, v's two: what the guess is told -/
theorem three_digits {k m U v : Nat} (hU : U < v * W ^ (k + 1)) (hv : v < W ^ (m + 2)) :
    up W (k + m) U = (dg W (k + m + 2) U * W + dg W (k + m + 1) U) * W + dg W (k + m) U ∧ up W m v = dg W (m + 1) v * W + dg W m v := by
  have hlt : U < W ^ (k + m + 3) := by
    refine Nat.lt_of_lt_of_le hU ?_
    rw [show k + m + 3 = m + 2 + (k + 1) by omega, Nat.pow_add W (m + 2) (k + 1)]
    exact Nat.mul_le_mul_right _ (Nat.le_of_lt hv)
  have step : ∀ j x, up W j x = up W (j + 1) x * W + dg W j x := fun j x => by
    rw [← up_mod, ← up_succ]; exact (Nat.div_add_mod' _ _).symm
  constructor
  · rw [step (k + m) U, step (k + m + 1) U, step (k + m + 1 + 1) U, up_eq_zero (i := k + m + 1 + 1 + 1) hlt]
    simp
  · rw [step m v, step (m + 1) v, up_eq_zero (i := m + 1 + 1) hv]
    simp
/-- the place's true digit -/
def qd (k U v : Nat) : Nat := up W k U / v
theorem qd_lt {k U v : Nat} (hU : U < v * W ^ (k + 1)) : qd k U v < W := by
  unfold qd up
  rw [Nat.div_div_eq_div_mul]
  apply Nat.div_lt_of_lt_mul
  rw [Nat.mul_comm (W ^ k), Nat.mul_assoc]
  rwa [Nat.pow_succ] at hU
theorem qd_rest {k U v : Nat} (hv : 0 < v) : ∃ R, R + qd k U v * v * W ^ k = U ∧ R < v * W ^ k := by
  have h1 := low_add_up W k U
  have h2 := low_bound W_pos k U
  have h3 : up W k U = qd k U v * v + up W k U % v := (Nat.div_add_mod' _ _).symm
  have h4 := Nat.mod_lt (up W k U) hv
  refine ⟨low W k U + up W k U % v * W ^ k, ?_, ?_⟩
  · conv => rhs; rw [← h1, h3]
    rw [Nat.add_mul]; omega
  · have : (up W k U % v + 1) * W ^ k ≤ v * W ^ k := Nat.mul_le_mul_right _ h4
    rw [Nat.add_mul] at this
    omega
theorem guess_near {k m U v : Nat} (hU : U < v * W ^ (k + 1)) (hv : v < W ^ (m + 2)) (hv1 : W ^ (m + 1) ≤ v) :
    qd k U v ≤ gss ((dg W (k + m + 2) U * W + dg W (k + m + 1) U) * W + dg W (k + m) U) (dg W (m + 1) v * W + dg W m v) ∧
    gss ((dg W (k + m + 2) U * W + dg W (k + m + 1) U) * W + dg W (k + m) U) (dg W (m + 1) v * W + dg W m v) ≤ qd k U v + 1 := by
  obtain ⟨e1, e2⟩ := three_digits (m := m) hU hv
  rw [← e1, ← e2]
  have hv2 : W ≤ up W m v := by
    unfold up
    rw [Nat.le_div_iff_mul_le (Nat.pow_pos W_pos), Nat.mul_comm, ← Nat.pow_succ]; exact hv1
  have a1 := low_add_up W m v
  have a2 := low_add_up W m (up W k U)
  rw [up_up] at a2
  have hlt : up W (k + m) U * W ^ m + low W m (up W k U) < (up W m v * W ^ m + low W m v) * W := by
    rw [Nat.add_comm, a2, Nat.add_comm, a1]
    unfold up
    apply Nat.div_lt_of_lt_mul
    rw [Nat.mul_comm (W ^ k), Nat.mul_assoc]
    rwa [Nat.pow_succ, Nat.mul_comm (W ^ k)] at hU
  have hn := gss_near hv2 (low_bound W_pos m v) (low_bound W_pos m (up W k U)) hlt
  rw [Nat.add_comm, a2, Nat.add_comm (up W m v * W ^ m), a1] at hn
  exact hn
/-- behind the taking, and the putting back where it was too much -/
theorem take_fits {k m U U1 v q b : Nat} (hU : U < v * W ^ (k + 1)) (hv : v < W ^ m) (hq : qd k U v = q) (h : U1 + q * v * W ^ k = U + b * W ^ (k + m + 1)) (hu : up W (k + m + 1) U1 = up W (k + m + 1) U) (hb : b ≤ 1) :
    b = 0 ∧ U1 + q * v * W ^ k = U ∧ U1 < v * W ^ k := by
  have hv0 : 0 < v := by rcases Nat.eq_zero_or_pos v with h0 | h0; · subst h0; simp at hU
                         · exact h0
  obtain ⟨R, h1, h2⟩ := qd_rest (k := k) (U := U) hv0
  rw [hq] at h1
  have hlt : U < W ^ (k + m + 1) := by
    refine Nat.lt_of_lt_of_le hU ?_
    rw [show k + m + 1 = m + (k + 1) by omega, Nat.pow_add W m (k + 1)]
    exact Nat.mul_le_mul_right _ (Nat.le_of_lt hv)
  rw [up_eq_zero hlt] at hu
  have hU1 := lt_of_up_zero W_pos hu
  obtain rfl | rfl : b = 0 ∨ b = 1 := by omega
  · exact ⟨rfl, by omega, by omega⟩
  · omega
theorem take_over {k m U U1 v q b : Nat} (hU : U < v * W ^ (k + 1)) (hv : v < W ^ m) (hq : qd k U v + 1 = q) (h : U1 + q * v * W ^ k = U + b * W ^ (k + m + 1)) (hu : up W (k + m + 1) U1 = up W (k + m + 1) U) (hb : b ≤ 1) :
    b = 1 ∧ ∀ U2 c, U2 + c * W ^ (k + m + 1) = U1 + v * W ^ k → up W (k + m + 1) U2 = up W (k + m + 1) U1 → U2 + qd k U v * v * W ^ k = U ∧ U2 < v * W ^ k := by
  have hv0 : 0 < v := by rcases Nat.eq_zero_or_pos v with h0 | h0; · subst h0; simp at hU
                         · exact h0
  obtain ⟨R, h1, h2⟩ := qd_rest (k := k) (U := U) hv0
  have hlt : U < W ^ (k + m + 1) := by
    refine Nat.lt_of_lt_of_le hU ?_
    rw [show k + m + 1 = m + (k + 1) by omega, Nat.pow_add W m (k + 1)]
    exact Nat.mul_le_mul_right _ (Nat.le_of_lt hv)
  rw [up_eq_zero hlt] at hu
  have hU1 := lt_of_up_zero W_pos hu
  have e : q * v * W ^ k = qd k U v * v * W ^ k + v * W ^ k := by rw [← hq, Nat.add_mul, Nat.one_mul, Nat.add_mul]
  rw [e] at h
  obtain rfl | rfl : b = 0 ∨ b = 1 := by omega
  · omega
  · refine ⟨rfl, fun U2 c h3 h4 => ?_⟩
    rw [hu] at h4
    have hU2 := lt_of_up_zero W_pos h4
    have hc : c = 1 := by
      rcases Nat.lt_or_ge c 1 with h5 | h5
      · obtain rfl : c = 0 := by omega
        omega
      · rcases Nat.lt_or_ge c 2 with h6 | h6
        · omega
        · have : 2 * W ^ (k + m + 1) ≤ c * W ^ (k + m + 1) := Nat.mul_le_mul_right _ h6
          omega
    subst hc
    constructor <;> omega
theorem put_upper {b : Nat} (hb : 0 < b) (j U d : Nat) : put b j (U * b ^ (j + 1)) d = (d + b * U) * b ^ j := by
  have h1 : U * b ^ (j + 1) % b ^ j = 0 := by rw [Nat.pow_succ, Nat.mul_comm (b ^ j), ← Nat.mul_assoc]; exact Nat.mul_mod_left _ _
  unfold put
  rw [h1, Nat.mul_div_cancel _ (Nat.pow_pos hb), Nat.zero_add, Nat.add_mul, Nat.pow_succ, Nat.mul_comm b U]
  simp only [Nat.mul_assoc, Nat.mul_comm, Nat.mul_left_comm]
/-- the start: all of n, shifted, is below v by a word more -/
theorem div_start {n d N m s : Nat} (hn : n < W ^ N) (hs : s ≤ 63) (hmN : m ≤ N) (hv : 9223372036854775808 * W ^ (m - 1) ≤ d * 2 ^ s) (hm : 1 ≤ m) : n * 2 ^ s < d * 2 ^ s * W ^ (N - m + 1) := by
  have h1 : n * 2 ^ s < W ^ N * 2 ^ 63 := by
    exact Nat.lt_of_lt_of_le (Nat.mul_lt_mul_of_pos_right hn (Nat.pow_pos (by decide))) (Nat.mul_le_mul_left _ (Nat.pow_le_pow_right (by decide) hs))
  have h2 : 9223372036854775808 * W ^ (m - 1) * W ^ (N - m + 1) ≤ d * 2 ^ s * W ^ (N - m + 1) := Nat.mul_le_mul_right _ hv
  rw [Nat.mul_assoc, ← Nat.pow_add, show m - 1 + (N - m + 1) = N by omega] at h2
  rw [show (2 : Nat) ^ 63 = 9223372036854775808 from by decide, Nat.mul_comm (W ^ N)] at h1
  omega
theorem div_end {n d s Q R : Nat} (hd : 0 < d) (h : R + Q * (d * 2 ^ s) = n * 2 ^ s) (hR : R < d * 2 ^ s) : Q = n / d ∧ R / 2 ^ s = n % d := by
  have hp : 0 < 2 ^ s := Nat.pow_pos (by decide)
  have h1 : n * 2 ^ s / (d * 2 ^ s) = Q := by
    rw [← h, Nat.add_mul_div_right _ _ (Nat.mul_pos hd hp), Nat.div_eq_of_lt hR, Nat.zero_add]
  have h2 : n * 2 ^ s % (d * 2 ^ s) = R := by
    rw [← h, Nat.add_mul_mod_self_right, Nat.mod_eq_of_lt hR]
  have h3 := @div_shifted n d s
  rw [h1, h2] at h3
  exact h3
/-- by one word -/
theorem bw_step {j X m : Nat} (hm : 0 < m) :
    up W j (X / m) = (up W (j + 1) X % m * W + dg W j X) / m + W * up W (j + 1) (X / m) ∧ (up W (j + 1) X % m * W + dg W j X) % m = up W j X % m ∧ (up W (j + 1) X % m * W + dg W j X) / m < W := by
  have e0 : ∀ i, up W i (X / m) = up W i X / m := fun i => by unfold up; rw [Nat.div_div_eq_div_mul, Nat.div_div_eq_div_mul, Nat.mul_comm]
  have e1 : up W j X = dg W j X + W * up W (j + 1) X := by
    rw [← up_mod, ← up_succ]; exact (Nat.mod_add_div _ _).symm
  have e2 := Nat.mod_add_div (up W (j + 1) X) m
  have hd := dg_lt W_pos j X
  have e3 : up W j X = (up W (j + 1) X % m * W + dg W j X) + m * (W * (up W (j + 1) X / m)) := by
    rw [e1]
    conv => lhs; rw [← e2]
    rw [Nat.mul_add, ← Nat.mul_assoc, Nat.mul_comm W m, Nat.mul_assoc, Nat.mul_comm W (_ % m)]; omega
  refine ⟨?_, ?_, ?_⟩
  · rw [e0, e0, e3, Nat.add_mul_div_left _ _ hm]
  · rw [e3, Nat.add_mul_mod_self_left]
  · have hl := Nat.mod_lt (up W (j + 1) X) hm
    apply Nat.div_lt_of_lt_mul
    have := Nat.mul_le_mul_right W (show up W (j + 1) X % m + 1 ≤ m by omega)
    rw [Nat.add_mul] at this; omega
end Go.Proofs.Ytflleaifmeiikaa
