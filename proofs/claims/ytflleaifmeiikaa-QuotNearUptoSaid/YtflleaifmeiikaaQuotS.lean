/- Plain law: one turn of the long division's loop, from the guess to the next row. -/
import Derived.Test.YtflleaifmeiikaaQuotLaw
import Derived.Test.YtflleaifmeiikaaMem
set_option linter.unusedVariables false
set_option linter.unusedSimpArgs false
namespace Go.Proofs.Ytflleaifmeiikaa
/-- before the turn at k - 1: the row U, the digits Q found so far, the whole U0 -/
def Turn (k v U0 U Q : Nat) : Prop := U + Q * W ^ k * v = U0 ∧ U < v * W ^ k
theorem turn_sum {k U U1 v q Q : Nat} (h : U1 + q * v * W ^ k = U) : U1 + (q + W * Q) * W ^ k * v = U + Q * W ^ (k + 1) * v := by
  subst h
  rw [Nat.pow_succ, Nat.add_mul, Nat.add_mul]
  have e1 : q * W ^ k * v = q * v * W ^ k := by simp only [Nat.mul_assoc, Nat.mul_comm, Nat.mul_left_comm]
  have e2 : W * Q * W ^ k * v = Q * (W ^ k * W) * v := by simp only [Nat.mul_assoc, Nat.mul_comm, Nat.mul_left_comm]
  rw [e1, e2]; omega
theorem Turn.fits {k m U U1 v q b Q U0 : Nat} (hS : Turn (k + 1) v U0 U Q) (hv : v < W ^ m) (hq : qd k U v = q) (h : U1 + q * v * W ^ k = U + b * W ^ (k + m + 1)) (hu : up W (k + m + 1) U1 = up W (k + m + 1) U) (hb : b ≤ 1) :
    b = 0 ∧ Turn k v U0 U1 (q + W * Q) := by
  obtain ⟨h1, h2, h3⟩ := take_fits hS.2 hv hq h hu hb
  exact ⟨h1, by rw [turn_sum h2]; exact hS.1, h3⟩
theorem Turn.over {k m U U1 v q b Q U0 : Nat} (hS : Turn (k + 1) v U0 U Q) (hv : v < W ^ m) (hq : qd k U v + 1 = q) (h : U1 + q * v * W ^ k = U + b * W ^ (k + m + 1)) (hu : up W (k + m + 1) U1 = up W (k + m + 1) U) (hb : b ≤ 1) :
    b = 1 ∧ ∀ U2 c, U2 + c * W ^ (k + m + 1) = U1 + v * W ^ k → up W (k + m + 1) U2 = up W (k + m + 1) U1 → Turn k v U0 U2 (qd k U v + W * Q) := by
  obtain ⟨h1, h2⟩ := take_over hS.2 hv hq h hu hb
  refine ⟨h1, fun U2 c h3 h4 => ?_⟩
  obtain ⟨h5, h6⟩ := h2 U2 c h3 h4
  exact ⟨by rw [turn_sum h5]; exact hS.1, h6⟩
/-- the guess is the digit, or one above it -/
theorem Turn.near {k m U v Q U0 : Nat} (hS : Turn (k + 1) v U0 U Q) (hv : v < W ^ (m + 2)) (hv1 : 9223372036854775808 * W ^ (m + 1) ≤ v) (q : Nat) (hq : q = gss ((dg W (k + m + 2) U * W + dg W (k + m + 1) U) * W + dg W (k + m) U) (dg W (m + 1) v * W + dg W m v)) :
    qd k U v = q ∨ qd k U v + 1 = q := by
  have := guess_near hS.2 hv (by have : 1 * W ^ (m + 1) ≤ 9223372036854775808 * W ^ (m + 1) := Nat.mul_le_mul_right _ (by decide); omega)
  rw [← hq] at this
  omega
/-- the row's upper word is at most the divisor's -/
theorem top_le {k m U v : Nat} (hU : U < v * W ^ (k + 1)) (hv : v < W ^ (m + 2)) : dg W (k + m + 2) U ≤ dg W (m + 1) v := by
  have hp : 0 < W ^ (k + 1) := Nat.pow_pos W_pos
  have e1 : dg W (k + m + 2) U ≤ U / W ^ (k + m + 2) := Nat.mod_le _ _
  have e2 : dg W (m + 1) v = v / W ^ (m + 1) := by
    unfold dg
    apply Nat.mod_eq_of_lt
    apply Nat.div_lt_of_lt_mul
    rwa [← Nat.pow_succ]
  have e3 : U / W ^ (k + m + 2) ≤ v * W ^ (k + 1) / W ^ (k + m + 2) := Nat.div_le_div_right (Nat.le_of_lt hU)
  have e4 : v * W ^ (k + 1) / W ^ (k + m + 2) = v / W ^ (m + 1) := by
    rw [show k + m + 2 = m + 1 + (k + 1) by omega, Nat.pow_add W (m + 1) (k + 1)]
    exact Nat.mul_div_mul_right _ _ hp
  omega
theorem Turn.zero {v U0 U Q : Nat} (h : Turn 0 v U0 U Q) : U + Q * v = U0 ∧ U < v := by
  obtain ⟨h1, h2⟩ := h
  rw [Nat.pow_zero, Nat.mul_one] at h1 h2
  exact ⟨h1, h2⟩
theorem Turn.start {k v U : Nat} (h : U < v * W ^ k) : Turn k v U U 0 := ⟨by simp, h⟩
/-- what the guess is handed, and what comes of it -/
theorem Turn.guessed {j m U V Q U0 : Nat} (hS : Turn (j + 1) V U0 U Q) (hV : V < W ^ m) (hm : 2 ≤ m) (hV1 : 9223372036854775808 * W ^ (m - 1) ≤ V) :
    dg W (j + m) U ≤ dg W (m - 1) V ∧ 0 < dg W (m - 1) V ∧
    (qd j U V = gss ((dg W (j + m) U * W + dg W (j + m - 1) U) * W + dg W (j + m - 2) U) (dg W (m - 1) V * W + dg W (m - 2) V) ∨
     qd j U V + 1 = gss ((dg W (j + m) U * W + dg W (j + m - 1) U) * W + dg W (j + m - 2) U) (dg W (m - 1) V * W + dg W (m - 2) V)) := by
  obtain ⟨M, rfl⟩ : ∃ M, m = M + 2 := ⟨m - 2, by omega⟩
  have e1 : M + 2 - 1 = M + 1 := by omega
  rw [e1] at hV1
  have h1 := top_le (k := j) (m := M) hS.2 hV
  have h2 := hS.near hV hV1 _ rfl
  rw [show j + (M + 2) = j + M + 2 by omega, show j + M + 2 - 1 = j + M + 1 by omega, show j + M + 2 - 2 = j + M by omega, e1, show M + 2 - 2 = M by omega]
  refine ⟨h1, ?_, h2⟩
  have ht : dg W (M + 1) V = V / W ^ (M + 1) := by
    unfold dg
    apply Nat.mod_eq_of_lt
    apply Nat.div_lt_of_lt_mul
    rwa [← Nat.pow_succ]
  have hp : 0 < W ^ (M + 1) := Nat.pow_pos W_pos
  have := Nat.div_pos (Nat.le_trans (Nat.le_mul_of_pos_left _ (by decide)) hV1) hp
  omega
theorem put_same {b : Nat} (hb : 0 < b) {j U a : Nat} (ha : a < b) (d : Nat) : put b j ((a + b * U) * b ^ j) d = (d + b * U) * b ^ j := by
  have h1 : (a + b * U) * b ^ j % b ^ j = 0 := Nat.mul_mod_left _ _
  have h2 : (a + b * U) * b ^ j / b ^ (j + 1) = U := by
    rw [Nat.pow_succ, ← Nat.div_div_eq_div_mul, Nat.mul_div_cancel _ (Nat.pow_pos hb), Nat.add_mul_div_left _ _ hb, Nat.div_eq_of_lt ha, Nat.zero_add]
  unfold put
  rw [h1, h2, Nat.zero_add, Nat.add_mul, Nat.pow_succ, Nat.mul_comm b U]
  simp only [Nat.mul_assoc, Nat.mul_comm, Nat.mul_left_comm]
theorem Turn.quot_lt {v U0 U Q m k : Nat} (h : Turn 0 v U0 U Q) (h0 : U0 < v * W ^ k) : Q < W ^ k := by
  obtain ⟨h1, h2⟩ := h.zero
  have h3 : Q * v < W ^ k * v := by rw [Nat.mul_comm (W ^ k)]; omega
  exact Nat.lt_of_mul_lt_mul_right h3
/-- a row that is left as it was while another one turns -/
theorem own_gb {w w' : World} {base : Nat} {e : TypeId} {g' n c g : Nat} {xs : List Value} (h : w.ownsRow base e 1 (.slice (some ⟨g', 0, none⟩) n c) n xs) (hg : w.grownBy w' (some g)) (hne : g' ≠ g) :
    w'.ownsRow base e 1 (.slice (some ⟨g', 0, none⟩) n c) n xs := h.kept hg (.inr fun e => hne (Option.some.inj e))
/-- a row of one's own, cut to its first m cells -/
theorem own_shrink {w : World} {base : Nat} {e : TypeId} {k : IntKind} {b n m x g cap : Nat} (h : w.ownsRow base e 1 (.slice (some ⟨g, 0, none⟩) n cap) n (dl k b n x)) (hm : m ≤ n) :
    w.ownsRow base e 1 (.slice (some ⟨g, 0, none⟩) m cap) m (dl k b m x) := by
  obtain ⟨h1, h2 | ⟨g', cap', cur, e1, hb, hw, h3, h4, h5, h6⟩⟩ := h
  · cases h2.1
  · cases e1
    refine ⟨by rw [dl_length, Nat.mul_one], .inr ⟨g, cap, cur, rfl, hb, hw, by omega, h4, h5, ?_⟩⟩
    rw [Nat.mul_one] at h6 ⊢
    have e2 : dl k b m x = (dl k b n x).take m := by unfold dl; rw [← List.map_take, List.take_range, Nat.min_eq_left hm]
    rw [e2, ← h6, List.take_take, Nat.min_eq_left hm]
end Go.Proofs.Ytflleaifmeiikaa
