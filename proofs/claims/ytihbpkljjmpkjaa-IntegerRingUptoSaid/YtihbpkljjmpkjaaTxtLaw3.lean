/- Plain law of whole numbers' texts: a number comes back, a text comes back. -/
import Derived.Test.YtihbpkljjmpkjaaInt6
set_option linter.unusedVariables false
set_option linter.unusedSimpArgs false
namespace Go.Proofs.Ytihbpkljjmpkjaa
open Go.RowKit
theorem extract_list (a : UInt8) (l : List UInt8) : (ByteArray.mk (a :: l).toArray).extract 1 (ByteArray.mk (a :: l).toArray).size = ⟨l.toArray⟩ := by
  apply ByteArray.ext
  rw [ByteArray.data_extract]
  apply Array.ext'
  simp [ByteArray.size]
theorem data_cons {s : ByteArray} (h : 0 < s.size) : s.data.toList = UInt8.ofNat (sd s 0) :: (s.extract 1 s.size).data.toList := by
  obtain ⟨⟨l⟩⟩ := s
  cases l with
  | nil => exact absurd h (by decide)
  | cons a l =>
    rw [extract_list]
    show a :: l = UInt8.ofNat a.toNat :: l
    rw [UInt8.ofNat_toNat]
theorem nb_neg {z : Int} (h : bz z = true) : nb ⟨(ztx z).toArray⟩ = true ∧ body ⟨(ztx z).toArray⟩ = ⟨(tx z.natAbs).toArray⟩ := by
  have h1 : nb ⟨(ztx z).toArray⟩ = true := by
    rw [ztx_neg h]
    unfold nb
    apply decide_eq_true
    exact ⟨by rw [str_size]; simp, rfl⟩
  refine ⟨h1, ?_⟩
  unfold body
  rw [if_pos h1, ztx_neg h, extract_list]
theorem nb_pos {z : Int} (h : bz z = false) : nb ⟨(ztx z).toArray⟩ = false ∧ body ⟨(ztx z).toArray⟩ = ⟨(tx z.natAbs).toArray⟩ := by
  have h1 : nb ⟨(ztx z).toArray⟩ = false := by
    rw [ztx_pos h]
    unfold nb
    apply decide_eq_false
    rintro ⟨h2, h3⟩
    have := (okd_tx z.natAbs).2.2 0 h2
    omega
  refine ⟨h1, ?_⟩
  unfold body
  rw [if_neg (by rw [h1]; decide), ztx_pos h]
theorem okz_ztx (z : Int) : okz ⟨(ztx z).toArray⟩ := by
  unfold okz
  cases h : bz z
  · obtain ⟨h1, h2⟩ := nb_pos h
    rw [h1, h2]
    exact ⟨okd_tx _, fun h => by cases h.1⟩
  · obtain ⟨h1, h2⟩ := nb_neg h
    rw [h1, h2, rdv_tx]
    refine ⟨okd_tx _, fun h3 => ?_⟩
    have := bz_true.1 h
    have := h3.2
    omega
theorem zv_ztx (z : Int) : zv ⟨(ztx z).toArray⟩ = z := by
  unfold zv
  rw [if_pos (okz_ztx z)]
  cases h : bz z
  · obtain ⟨h1, h2⟩ := nb_pos h
    rw [h1, h2, rdv_tx, sg_false]
    have := abs_pos h
    omega
  · obtain ⟨h1, h2⟩ := nb_neg h
    rw [h1, h2, rdv_tx, sg_true]
    have := abs_neg h
    omega
theorem ztx_zv {s : ByteArray} (h : okz s) : ztx (zv s) = s.data.toList := by
  have hv : zv s = sg (nb s) (rdv (body s)) := if_pos h
  cases hn : nb s
  · have hb : body s = s := by unfold body; rw [if_neg (by rw [hn]; decide)]
    rw [hv, hn, hb, ztx_pos (by rw [sg_below]; rfl), sg_abs]
    exact tx_rdv (hb ▸ h.1)
  · have hb : body s = s.extract 1 s.size := by unfold body; rw [if_pos hn]
    have h0 : rdv (body s) ≠ 0 := fun e => h.2 ⟨hn, e⟩
    rw [hv, hn, ztx_neg (by rw [sg_below, decide_eq_false h0]; rfl), sg_abs]
    have h1 : 0 < s.size ∧ sd s 0 = 45 := of_decide_eq_true hn
    rw [data_cons h1.1, h1.2, ← hb, tx_rdv h.1]
    rfl
theorem ztx_fit {z : Int} {n : Nat} (h : z.natAbs < W ^ n) (hn : n ≤ 1099511627776) : (ByteArray.mk (ztx z).toArray).size ≤ 140737488355328 := by
  have h1 := tw_fit h
  rw [str_size] at h1 ⊢
  cases hb : bz z
  · rw [ztx_pos hb]; omega
  · rw [ztx_neg hb, List.length_cons]; omega
theorem zv_words (s : ByteArray) : (zv s).natAbs < W ^ (s.size + 1) := by
  unfold zv
  split
  · rw [sg_abs]
    refine Nat.lt_of_lt_of_le (rdv_words (body s)) (Nat.pow_le_pow_right W_pos ?_)
    have := body_size s
    omega
  · exact Nat.pow_pos W_pos
theorem integer_Text_as (s : ByteArray) (A : Option Addr) (n c : Nat) (z : Int) (w : World) (h : NatAt w A n c z.natAbs) (hs : ztx z = s.data.toList) (hn : n ≤ 1099511627776) :
    Calls Try.prog 21 #[.agg #[.bool (bz z), .slice A n c]] w (Ret w (.string s)) := by
  refine (integer_Text A n c z w h hn).mono fun e w' h => ?_
  obtain ⟨rfl, hb⟩ := h
  exact ⟨by rw [hs], hb⟩
theorem cmpZ_neg (x y : Int) : cmpZ (-x) (-y) = -cmpZ x y := by
  rcases Int.lt_trichotomy x y with h | h | h
  · rw [cmpZ_lt h, cmpZ_gt (by omega)]; rfl
  · rw [cmpZ_eq h, cmpZ_eq (by omega)]; rfl
  · rw [cmpZ_gt h, cmpZ_lt (by omega)]
theorem cmpZ_swap (x y : Int) : cmpZ y x = -cmpZ x y := by
  rcases Int.lt_trichotomy x y with h | h | h
  · rw [cmpZ_lt h, cmpZ_gt h]; rfl
  · rw [cmpZ_eq h, cmpZ_eq h.symm]; rfl
  · rw [cmpZ_gt h, cmpZ_lt h]
theorem cmpZ_add (x y z : Int) : cmpZ (x + z) (y + z) = cmpZ x y := by
  rcases Int.lt_trichotomy x y with h | h | h
  · rw [cmpZ_lt h, cmpZ_lt (by omega)]
  · rw [cmpZ_eq h, cmpZ_eq (by omega)]
  · rw [cmpZ_gt h, cmpZ_gt (by omega)]
theorem cmpZ_nonpos {x y : Int} : cmpZ x y ≤ 0 ↔ x ≤ y := by
  rcases Int.lt_trichotomy x y with h | h | h
  · rw [cmpZ_lt h]; constructor <;> intro <;> omega
  · rw [cmpZ_eq h]; constructor <;> intro <;> omega
  · rw [cmpZ_gt h]; constructor <;> intro <;> omega
theorem cmpZ_cases (x y : Int) : cmpZ x y = -1 ∨ cmpZ x y = 0 ∨ cmpZ x y = 1 := by
  rcases Int.lt_trichotomy x y with h | h | h
  · exact .inl (cmpZ_lt h)
  · exact .inr (.inl (cmpZ_eq h))
  · exact .inr (.inr (cmpZ_gt h))
end Go.Proofs.Ytihbpkljjmpkjaa
