/- Plain law of texts as a program reads them: letters as numbers, the value of the first letters, which texts are numbers'. No program in sight. -/
import Derived.Test.YtihbpkljjmpkjaaDigLaw
import Derived.Laws.Strings
set_option linter.unusedVariables false
set_option linter.unusedSimpArgs false
namespace Go.Proofs.Ytihbpkljjmpkjaa
/-- letter i of a text, as a number -/
def sd (s : ByteArray) (i : Nat) : Nat := (s.data.toList.getD i 0).toNat
theorem sd_get (s : ByteArray) (i : Nat) (h : i < s.size) : (s[i]'h).toNat = sd s i := by
  obtain ⟨⟨l⟩⟩ := s
  have hl : i < l.length := h
  have e : (ByteArray.mk ⟨l⟩)[i]'h = l.getD i 0 := by
    simp only [List.getD, List.getElem?_eq_getElem hl, Option.getD_some]
    rfl
  rw [e]
  rfl
theorem toList_empty {s : ByteArray} (h : s.size = 0) : s.toList = [] := by
  rw [ByteArray.toList_eq]
  exact List.eq_nil_of_length_eq_zero h
theorem toList_some {s : ByteArray} (h : 0 < s.size) : ¬ s.toList = [] := by
  rw [ByteArray.toList_eq]
  intro e
  have : s.data.toList.length = s.size := rfl
  rw [e] at this
  simp at this
  omega
theorem isEmpty_some {s : ByteArray} (h : 0 < s.size) : s.toList.isEmpty = false := by
  have := toList_some h
  cases e : s.toList
  · exact absurd e this
  · rfl
theorem sd_lt (s : ByteArray) (i : Nat) : sd s i < 256 := UInt8.toNat_lt _
/-- the value of the first k letters, read as decimal digits -/
def dv (s : ByteArray) : Nat → Nat
  | 0 => 0
  | k + 1 => dv s k * 10 + (sd s k - 48)
/-- a text that is a number's -/
def okd (s : ByteArray) : Prop := 0 < s.size ∧ (1 < s.size → sd s 0 ≠ 48) ∧ ∀ i, i < s.size → 48 ≤ sd s i ∧ sd s i ≤ 57
instance (s : ByteArray) : Decidable (okd s) := by unfold okd; infer_instance
theorem dv_lt {s : ByteArray} : ∀ {k : Nat}, (∀ i, i < k → 48 ≤ sd s i ∧ sd s i ≤ 57) → dv s k < 10 ^ k
  | 0, _ => by simp [dv]
  | k + 1, h => by
    have h1 := dv_lt (s := s) (k := k) (fun i hi => h i (by omega))
    have h2 := h k (by omega)
    rw [dv, Nat.pow_succ]
    omega
theorem dv_words {s : ByteArray} {k : Nat} (h : ∀ i, i < k → 48 ≤ sd s i ∧ sd s i ≤ 57) : dv s k < W ^ (k / 19 + 1) := by
  refine Nat.lt_of_lt_of_le (dv_lt h) ?_
  refine Nat.le_trans (Nat.pow_le_pow_right (n := 10) (by decide) (show k ≤ 19 * (k / 19 + 1) by omega)) ?_
  rw [Nat.pow_mul]
  exact Nat.pow_le_pow_left (by unfold W; decide) _
/-- one step of a group of letters -/
theorem dv_part {s : ByteArray} {k a P B : Nat} (h : dv s a = dv s k * B + P) : dv s (a + 1) = dv s k * (B * 10) + (P * 10 + (sd s a - 48)) := by
  rw [dv, h, Nat.add_mul, Nat.mul_assoc]
  omega
/-- the digits of the value are the letters -/
theorem dg_dv {s : ByteArray} : ∀ {k : Nat}, (∀ i, i < k → 48 ≤ sd s i ∧ sd s i ≤ 57) → ∀ j, j < k → 48 + dg 10 j (dv s k) = sd s (k - 1 - j)
  | 0, _, j, hj => absurd hj (by omega)
  | k + 1, h, j, hj => by
    have h2 := h k (by omega)
    rcases j with _ | j
    · unfold dg
      rw [dv, Nat.pow_zero, Nat.div_one]
      show 48 + (dv s k * 10 + (sd s k - 48)) % 10 = sd s k
      omega
    · have h1 := dg_dv (s := s) (k := k) (fun i hi => h i (by omega)) j (by omega)
      have e : dv s (k + 1) / 10 = dv s k := by rw [dv]; omega
      rw [← dg_div, e, h1]
      congr 1; omega
/-- the decimal digits' letters, the last n of them, the top one first -/
def txt (n x : Nat) : List UInt8 := (List.range n).map fun i => UInt8.ofNat (48 + dg 10 (n - 1 - i) x)
theorem txt_zero (x : Nat) : txt 0 x = [] := rfl
theorem txt_length (n x : Nat) : (txt n x).length = n := by simp [txt]
/-- the first m of n letters -/
def txtTo (n m x : Nat) : List UInt8 := (List.range m).map fun i => UInt8.ofNat (48 + dg 10 (n - 1 - i) x)
theorem txtTo_all (n x : Nat) : txtTo n n x = txt n x := rfl
theorem txtTo_length (n m x : Nat) : (txtTo n m x).length = m := by simp [txtTo]
theorem txtTo_succ (n m x : Nat) : txtTo n (m + 1) x = txtTo n m x ++ [UInt8.ofNat (48 + dg 10 (n - 1 - m) x)] := by
  unfold txtTo; rw [List.range_succ, List.map_append]; rfl
/-- how many digits a number has -/
def lenF (b : Nat) : Nat → Nat → Nat
  | 0, _ => 0
  | f + 1, x => if x = 0 then 0 else lenF b f (x / b) + 1
def tlen (b x : Nat) : Nat := lenF b x x
theorem isLen_up {b x k : Nat} (hb : 2 ≤ b) (hx : 0 < x) (h : IsLen b (x / b) k) : IsLen b x (k + 1) := by
  refine ⟨?_, fun _ => ?_⟩
  · have h1 := h.1
    rw [Nat.pow_succ]
    exact (Nat.div_lt_iff_lt_mul (by omega)).1 h1
  · rw [Nat.add_sub_cancel]
    rcases Nat.eq_zero_or_pos k with h0 | h0
    · subst h0; rw [Nat.pow_zero]; exact hx
    · have h2 := h.2 h0
      rw [show k = k - 1 + 1 by omega, Nat.pow_succ]
      exact (Nat.le_div_iff_mul_le (by omega)).1 h2
theorem lenF_is {b : Nat} (hb : 2 ≤ b) : ∀ f x, x ≤ f → IsLen b x (lenF b f x)
  | 0, x, h => by
    obtain rfl : x = 0 := by omega
    exact isLen_zero b
  | f + 1, x, h => by
    rw [lenF]
    by_cases h0 : x = 0
    · rw [if_pos h0, h0]; exact isLen_zero b
    · rw [if_neg h0]
      exact isLen_up hb (by omega) (lenF_is hb f (x / b) (by have := Nat.div_lt_self (show 0 < x by omega) (show 1 < b by omega); omega))
theorem tlen_is {b : Nat} (hb : 2 ≤ b) (x : Nat) : IsLen b x (tlen b x) := lenF_is hb x x (Nat.le_refl _)
/-- a number's text -/
def tx (x : Nat) : List UInt8 := if x = 0 then [48] else txt (tlen 10 x) x
theorem tx_zero {x : Nat} (h : x = 0) : tx x = [48] := if_pos h
theorem tx_pos {x : Nat} (h : 0 < x) : tx x = txt (tlen 10 x) x := if_neg (by omega)
end Go.Proofs.Ytihbpkljjmpkjaa
