/- Plain law of texts and bytes: a text comes back, a number comes back; the order of texts as long. No program in sight. -/
import Derived.Test.YtihbpkljjmpkjaaTxtLaw
import GoSem.Op.String
set_option linter.unusedVariables false
set_option linter.unusedSimpArgs false
namespace Go.Proofs.Ytihbpkljjmpkjaa
/-- the bytes that the digits to the base 256 are, the lowest first -/
def bl (n v : Nat) : List UInt8 := (List.range n).map fun j => UInt8.ofNat (dg 256 j v)
theorem bl_length (n v : Nat) : (bl n v).length = n := by simp [bl]
theorem str_size (l : List UInt8) : (ByteArray.mk l.toArray).size = l.length := rfl
theorem str_sd (l : List UInt8) (i : Nat) : sd ⟨l.toArray⟩ i = (l.getD i 0).toNat := rfl
theorem txt_sd {N x i : Nat} (hi : i < N) : sd ⟨(txt N x).toArray⟩ i = 48 + dg 10 (N - 1 - i) x := by
  have hd := dg_lt (b := 10) (by decide) (N - 1 - i) x
  rw [str_sd]
  unfold txt
  rw [List.getD_eq_getElem?_getD, List.getElem?_map, List.getElem?_range hi]
  simp only [Option.map_some, Option.getD_some, UInt8.toNat_ofNat']
  rw [Nat.mod_eq_of_lt (by omega)]
theorem dv_txt {N x : Nat} : ∀ k, k ≤ N → x < 10 ^ N → dv ⟨(txt N x).toArray⟩ k = x / 10 ^ (N - k)
  | 0, _, h => by rw [dv, Nat.sub_zero, Nat.div_eq_of_lt h]
  | k + 1, hk, h => by
    rw [dv, dv_txt k (by omega) h, txt_sd (by omega), show 48 + dg 10 (N - 1 - k) x - 48 = dg 10 (N - 1 - k) x by omega]
    unfold dg
    rw [show N - k = N - 1 - k + 1 by omega, show N - (k + 1) = N - 1 - k by omega, Nat.pow_succ, ← Nat.div_div_eq_div_mul]
    omega
theorem tlen_pos {x : Nat} (h : 0 < x) : 0 < tlen 10 x := isLen_pos (tlen_is (by decide) x) h
/-- a number's text is a number's -/
theorem okd_tx (x : Nat) : okd ⟨(tx x).toArray⟩ := by
  rcases Nat.eq_zero_or_pos x with h0 | h0
  · rw [tx_zero h0]
    decide
  · rw [tx_pos h0]
    have hN := tlen_pos h0
    have hL := tlen_is (b := 10) (by decide) x
    generalize tlen 10 x = N at *
    have hs : (ByteArray.mk (txt N x).toArray).size = N := by rw [str_size, txt_length]
    refine ⟨by omega, fun _ => ?_, fun i hi => ?_⟩
    · rw [txt_sd hN]
      obtain ⟨M, rfl⟩ : ∃ M, N = M + 1 := ⟨N - 1, by omega⟩
      have := isLen_top (by decide) hL
      rw [show M + 1 - 1 - 0 = M by omega]
      omega
    · rw [hs] at hi
      rw [txt_sd hi]
      have hd := dg_lt (b := 10) (by decide) (N - 1 - i) x
      omega
theorem dv_tx (x : Nat) : dv ⟨(tx x).toArray⟩ (ByteArray.mk (tx x).toArray).size = x := by
  rcases Nat.eq_zero_or_pos x with h0 | h0
  · subst h0; rfl
  · rw [tx_pos h0, str_size, txt_length, dv_txt _ (Nat.le_refl _) (tlen_is (by decide) x).1, Nat.sub_self, Nat.pow_zero, Nat.div_one]
/-- a number's text is told as it stood -/
theorem tx_dv {s : ByteArray} (h : okd s) : tx (dv s s.size) = s.data.toList := by
  obtain ⟨h0, h1, h2⟩ := h
  have hX := dv_lt h2
  have hdg := dg_dv h2
  have hlen : s.data.toList.length = s.size := rfl
  rcases Nat.eq_zero_or_pos (dv s s.size) with hz | hz
  · rw [tx_zero hz]
    have hk : s.size = 1 := by
      rcases Nat.lt_or_ge 1 s.size with h5 | h5
      · have := hdg (s.size - 1) (by omega)
        rw [hz, dg_zero, show s.size - 1 - (s.size - 1) = 0 by omega] at this
        exact absurd this.symm (h1 h5)
      · omega
    have := hdg 0 (by omega)
    rw [hz, dg_zero, hk] at this
    rw [hk] at hlen
    obtain ⟨a, ha⟩ := List.length_eq_one_iff.1 hlen
    unfold sd at this
    rw [ha] at this ⊢
    have h3 : a.toNat = 48 := this.symm
    have : a = 48 := UInt8.toNat_inj.1 h3
    rw [this]
  · rw [tx_pos hz]
    have hL : IsLen 10 (dv s s.size) s.size := by
      obtain ⟨M, hM⟩ : ∃ M, s.size = M + 1 := ⟨s.size - 1, by omega⟩
      have hd := hdg M (by omega)
      rw [show s.size - 1 - M = 0 by omega] at hd
      rw [hM] at hX hz h1 hd ⊢
      refine isLen_of_top (by decide) hX fun e => ?_
      rw [e] at hd
      rcases Nat.eq_zero_or_pos M with h5 | h5
      · subst h5
        have e2 : dv s 1 % 10 = 0 := by simpa [dg] using e
        have e3 : dv s 1 < 10 := by simpa using hX
        have e4 : 0 < dv s 1 := hz
        omega
      · exact h1 (by omega) hd.symm
    rw [isLen_unique (by decide) (tlen_is (by decide) _) hL]
    apply List.ext_getElem?
    intro i
    rcases Nat.lt_or_ge i s.size with hi2 | hi2
    · have hd := hdg (s.size - 1 - i) (by omega)
      rw [show s.size - 1 - (s.size - 1 - i) = i by omega] at hd
      have h5 : s.data.toList[i]? = some (UInt8.ofNat (sd s i)) := by
        unfold sd
        rw [List.getD_eq_getElem?_getD, List.getElem?_eq_getElem (by omega), Option.getD_some, UInt8.ofNat_toNat]
      rw [h5, ← hd]
      unfold txt
      rw [List.getElem?_map, List.getElem?_range hi2]
      rfl
    · rw [List.getElem?_eq_none (by rw [txt_length]; exact hi2), List.getElem?_eq_none (by omega)]
/-! ### bytes -/
def okb (n v : Nat) : Prop := n = 0 ∨ dg 256 0 v ≠ 0
instance (n v : Nat) : Decidable (okb n v) := by unfold okb; infer_instance
def pv (n v : Nat) : Nat := if okb n v then rv 256 n v else 0
theorem okb_rv {N x : Nat} (h : IsLen 256 x N) : okb N (rv 256 N x) := by
  rcases N with _ | M
  · exact .inl rfl
  · refine .inr ?_
    rw [dg_rv (by decide) (by omega), show M + 1 - 1 - 0 = M by omega]
    exact isLen_top (by decide) h
theorem pv_rv {N x : Nat} (h : IsLen 256 x N) : pv N (rv 256 N x) = x := by
  unfold pv
  rw [if_pos (okb_rv h), rv_rv (by decide) h.1]
theorem isLen_rv {n v : Nat} (h : okb n v) (hv : v < 256 ^ n) : IsLen 256 (rv 256 n v) n := by
  rcases n with _ | m
  · rw [show rv 256 0 v = 0 from rfl]; exact isLen_zero _
  · have h2 : dg 256 0 v ≠ 0 := by rcases h with e | e; (exact absurd e (by omega)); exact e
    refine isLen_of_top (by decide) (rv_lt (by decide) _ _) ?_
    rw [dg_rv (by decide) (by omega), show m + 1 - 1 - m = 0 by omega]
    exact h2
/-! ### the order of texts as long -/
/-- digits told as letters, the top one first -/
def tb (b a n x : Nat) : List UInt8 := (List.range n).map fun i => UInt8.ofNat (a + dg b (n - 1 - i) x)
theorem txt_tb (n x : Nat) : txt n x = tb 10 48 n x := rfl
theorem bl_tb (n x : Nat) : bl n (rv 256 n x) = tb 256 0 n x := by
  unfold bl tb
  refine List.map_congr_left fun j hj => ?_
  rw [dg_rv (by decide) (List.mem_range.1 hj), Nat.zero_add]
theorem tb_succ (b a n x : Nat) : tb b a (n + 1) x = UInt8.ofNat (a + dg b n x) :: tb b a n x := by
  unfold tb
  rw [List.range_succ_eq_map, List.map_cons, List.map_map]
  congr 1
  refine List.map_congr_left fun j hj => ?_
  have := List.mem_range.1 hj
  simp only [Function.comp]
  congr 3
  omega
theorem byte_lt {p q : Nat} (hp : p < 256) (hq : q < 256) : (UInt8.ofNat p < UInt8.ofNat q) ↔ p < q := by
  rw [UInt8.lt_iff_toNat_lt, UInt8.toNat_ofNat', UInt8.toNat_ofNat', Nat.mod_eq_of_lt hp, Nat.mod_eq_of_lt hq]
theorem byte_eq {p q : Nat} (hp : p < 256) (hq : q < 256) : (UInt8.ofNat p = UInt8.ofNat q) ↔ p = q := by
  rw [← UInt8.toNat_inj, UInt8.toNat_ofNat', UInt8.toNat_ofNat', Nat.mod_eq_of_lt hp, Nat.mod_eq_of_lt hq]
theorem tb_less {b a : Nat} (hb : 0 < b) (hab : a + b ≤ 256) (x y : Nat) : ∀ n, Op.bytesLess (tb b a n x) (tb b a n y) = decide (x % b ^ n < y % b ^ n)
  | 0 => by simp [tb, Op.bytesLess, Nat.mod_one]
  | n + 1 => by
    have h1 := dg_lt hb n x
    have h2 := dg_lt hb n y
    rw [tb_succ, tb_succ, Op.bytesLess, tb_less hb hab x y n, low_succ, low_succ]
    have l1 := Nat.mod_lt x (Nat.pow_pos (n := n) hb)
    have l2 := Nat.mod_lt y (Nat.pow_pos (n := n) hb)
    generalize x % b ^ n = r at *
    generalize y % b ^ n = s at *
    generalize dg b n x = p at *
    generalize dg b n y = q at *
    generalize b ^ n = m at *
    have e1 := byte_lt (p := a + p) (q := a + q) (by omega) (by omega)
    have e2 := byte_eq (p := a + p) (q := a + q) (by omega) (by omega)
    rcases Nat.lt_trichotomy p q with h | h | h
    · have c1 : (p + 1) * m ≤ q * m := Nat.mul_le_mul_right _ h
      rw [Nat.add_mul] at c1
      rw [decide_eq_true (e1.2 (by omega)), Bool.true_or]
      exact (decide_eq_true (by omega)).symm
    · subst h
      rw [decide_eq_false (fun h => absurd (e1.1 h) (by omega)), Bool.false_or, beq_self_eq_true, Bool.true_and]
      congr 1
      exact propext ⟨fun h => by omega, fun h => by omega⟩
    · have c1 : (q + 1) * m ≤ p * m := Nat.mul_le_mul_right _ h
      rw [Nat.add_mul] at c1
      rw [decide_eq_false (fun h => absurd (e1.1 h) (by omega)), Bool.false_or]
      have e3 : (UInt8.ofNat (a + p) == UInt8.ofNat (a + q)) = false := by
        simp only [beq_eq_false_iff_ne, ne_eq]
        intro h5
        have := e2.1 h5
        omega
      rw [e3, Bool.false_and]
      exact (decide_eq_false (by omega)).symm
/-- how many letters a number's text has -/
def tw (x : Nat) : Nat := max 1 (tlen 10 x)
theorem tx_tb (x : Nat) : tx x = tb 10 48 (tw x) x := by
  rcases Nat.eq_zero_or_pos x with h0 | h0
  · subst h0; rfl
  · rw [tx_pos h0]
    have := tlen_pos h0
    rw [txt_tb, show tw x = tlen 10 x by unfold tw; omega]
theorem tb_length (b a n x : Nat) : (tb b a n x).length = n := by simp [tb]
theorem tx_length (x : Nat) : (tx x).length = tw x := by rw [tx_tb, tb_length]
theorem tw_lt (x : Nat) : x < 10 ^ tw x := Nat.lt_of_lt_of_le (tlen_is (by decide) x).1 (Nat.pow_le_pow_right (by decide) (Nat.le_max_right _ _))
theorem tw_mono {x y : Nat} (h : tw x < tw y) : x < y := by
  have h1 := tw_lt x
  have h2 := tlen_is (b := 10) (by decide) y
  have h3 : 1 ≤ tw x := Nat.le_max_left _ _
  have h4 : tw y = tlen 10 y := by unfold tw at h h3 ⊢; omega
  have h5 := h2.2 (by omega)
  have h6 := Nat.pow_le_pow_right (show 0 < 10 by decide) (show tw x ≤ tlen 10 y - 1 by omega)
  omega
theorem len_mono {b x y n m : Nat} (hb : 0 < b) (hx : IsLen b x n) (hy : IsLen b y m) (h : n < m) : x < y := by
  have h1 := hx.1
  have h2 := hy.2 (by omega)
  have h3 := Nat.pow_le_pow_right hb (show n ≤ m - 1 by omega)
  omega
theorem tx_less {x y : Nat} (h : tw x = tw y) : Op.bytesLess (tx x) (tx y) = decide (x < y) := by
  rw [tx_tb, tx_tb, h, tb_less (by decide) (by decide), Nat.mod_eq_of_lt (h ▸ tw_lt x), Nat.mod_eq_of_lt (tw_lt y)]
theorem bl_less {x y n : Nat} (hx : IsLen 256 x n) (hy : IsLen 256 y n) : Op.bytesLess (bl n (rv 256 n x)) (bl n (rv 256 n y)) = decide (x < y) := by
  rw [bl_tb, bl_tb, tb_less (by decide) (by decide), Nat.mod_eq_of_lt hx.1, Nat.mod_eq_of_lt hy.1]
theorem tx_inj {x y : Nat} (h : tx x = tx y) : x = y := by
  have := dv_tx x
  rw [h, dv_tx] at this
  exact this.symm
/-! ### a nought more -/
theorem dv_append (l r : List UInt8) : ∀ k, k ≤ l.length → dv ⟨(l ++ r).toArray⟩ k = dv ⟨l.toArray⟩ k
  | 0, _ => rfl
  | k + 1, h => by
    rw [dv, dv, dv_append l r k (by omega), str_sd, str_sd, List.getD_eq_getElem?_getD, List.getD_eq_getElem?_getD, List.getElem?_append_left (by omega)]
theorem okd_tens {x : Nat} (hx : 0 < x) : okd ⟨(tx x ++ [48]).toArray⟩ ∧ dv ⟨(tx x ++ [48]).toArray⟩ (ByteArray.mk (tx x ++ [48]).toArray).size = x * 10 := by
  obtain ⟨h0, h1, h2⟩ := okd_tx x
  have hv := dv_tx x
  rw [str_size] at hv h0 h1 h2
  have hs : (ByteArray.mk (tx x ++ [48]).toArray).size = (tx x).length + 1 := by rw [str_size, List.length_append]; rfl
  have hin : ∀ i, i < (tx x).length → sd ⟨(tx x ++ [48]).toArray⟩ i = sd ⟨(tx x).toArray⟩ i := fun i hi => by
    rw [str_sd, str_sd, List.getD_eq_getElem?_getD, List.getD_eq_getElem?_getD, List.getElem?_append_left hi]
  have hat : sd ⟨(tx x ++ [48]).toArray⟩ (tx x).length = 48 := by
    rw [str_sd, List.getD_eq_getElem?_getD, List.getElem?_append_right (Nat.le_refl _), Nat.sub_self]; rfl
  refine ⟨⟨by omega, fun _ => ?_, fun i hi => ?_⟩, ?_⟩
  · rw [hin 0 h0]
    rcases Nat.lt_or_ge 1 (tx x).length with h5 | h5
    · exact h1 h5
    · have e1 : (tx x).length = 1 := by omega
      intro h6
      have h7 : dv ⟨(tx x).toArray⟩ 1 = x := by rw [e1] at hv; exact hv
      rw [show dv ⟨(tx x).toArray⟩ 1 = 0 * 10 + (sd ⟨(tx x).toArray⟩ 0 - 48) from rfl, h6] at h7
      omega
  · rw [hs] at hi
    rcases Nat.lt_or_ge i (tx x).length with h5 | h5
    · rw [hin i h5]; exact h2 i h5
    · obtain rfl : i = (tx x).length := by omega
      rw [hat]; decide
  · rw [hs, dv, hat, dv_append _ _ _ (Nat.le_refl _), hv]; rfl
end Go.Proofs.Ytihbpkljjmpkjaa
