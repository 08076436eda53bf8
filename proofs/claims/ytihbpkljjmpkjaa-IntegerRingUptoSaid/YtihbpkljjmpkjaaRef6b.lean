/- The walks of actuaryref06, second part: Parse, Read. -/
import Derived.Test.YtihbpkljjmpkjaaRef6
import Derived.Test.YtihbpkljjmpkjaaDig4
import Derived.Test.YtihbpkljjmpkjaaKC
set_option linter.unusedVariables false
set_option linter.unusedSimpArgs false
namespace Go.Proofs.Ytihbpkljjmpkjaa
open Go.RowKit
set_option maxRecDepth 100000
def RetRefB (w : World) (x : Nat) (b : Bool) (e : Ending) (w' : World) : Prop := ∃ A n c, e = .returned (.tuple #[.slice A n c, .bool b]) ∧ NumAt .i64 65536 w' A n c x ∧ Below w.heap.size w w'
theorem toList_one {s : ByteArray} (h : s.size = 1) (h0 : sd s 0 = 48) : s.toList = [48] := by
  rw [ByteArray.toList_eq]
  obtain ⟨⟨l⟩⟩ := s
  have hl : l.length = 1 := h
  obtain ⟨a, rfl⟩ := List.length_eq_one_iff.1 hl
  have h2 : a.toNat = 48 := h0
  have : a = 48 := UInt8.toNat_inj.1 h2
  subst this
  rfl
theorem toList_ne_one {s : ByteArray} (h : s.size ≠ 1) : ¬ s.toList = [48] := by
  rw [ByteArray.toList_eq]
  intro e
  apply h
  have : s.data.toList.length = s.size := rfl
  rw [e] at this
  exact this.symm
set_option maxHeartbeats 4000000 in
theorem ref6_Read_short (s : ByteArray) (w : World) (hs : s.size ≤ 1000000000) (h0 : s.size = 0 ∨ 1 < s.size ∧ sd s 0 = 48) :
    Calls Try.prog 19 #[.string s] w (RetRefB w 0 false) := by
  rcases h0 with h0 | ⟨h0, h1⟩
  · have e1 := toList_empty h0
    go_enter Try.func19, Try.ntmps19
    go_wp2_with fail
    go_ret2
    exact ⟨_, _, _, rfl, NumAt.nil _ _ _, Below.refl _ _⟩
  · have e1 := toList_some (s := s) (by omega)
    have e2 := isEmpty_some (s := s) (by omega)
    have e3 := toList_ne_one (s := s) (by omega)
    have e4 : (s.toList == [48]) = false := by simp [e3]
    have SG := sd_get s
    have z1 : (((sd s 0 : Nat) : Int) == 48) = true := by simp; omega
    have hp : 0 < s.size := by omega
    go_enter Try.func19, Try.ntmps19
    go_wp2_with fail
    go_ret2
    exact ⟨_, _, _, rfl, NumAt.nil _ _ _, Below.refl _ _⟩
set_option maxHeartbeats 4000000 in
theorem ref6_Read_long (s : ByteArray) (w : World) (hs : s.size ≤ 1000000000) (h0 : 0 < s.size) (h1 : 1 < s.size → sd s 0 ≠ 48) (v : Nat) (b : Bool) (hr : Hid (RdIs s v b)) :
    Calls Try.prog 19 #[.string s] w (RetRefB w v b) := by
  have e1 := toList_some (s := s) (by omega)
  have e2 := isEmpty_some (s := s) (by omega)
  have SG := sd_get s
  have hI : (0 : Int) < (s.size : Int) := by omega
  have hp : 0 < s.size := by omega
  have hk2 := Lib.hid h1
  clear h1
  by_cases hI1 : sd s 0 = 48
  · have e3 := toList_one (s := s) (by have := hk2.out; omega) hI1
    have e4 : (s.toList == [48]) = true := by rw [e3]; rfl
    have z1 : (((sd s 0 : Nat) : Int) == 48) = true := by simp; omega
    clear hI1 e1 e2
    have e5 : ((([48] : List UInt8)) == ([] : List UInt8)) = false := by decide
    go_enter Try.func19, Try.ntmps19
    go_wp2_with fail
    clear z1
    go_loopw [4, 5] (fun t4 t5 wr => ∃ k A1 n1 c1, t5 = .int .i64 (k : Nat) ∧ t4 = .slice A1 n1 c1 ∧ k ≤ s.size ∧ (∀ i, i < k → 48 ≤ sd s i ∧ sd s i ≤ 57) ∧ NumAt .i64 65536 wr A1 n1 c1 (dv s k) ∧ Below w.heap.size w wr) (fun _ t _ => s.size - (intOf t).toNat)
    case atStart => exact ⟨0, none, 0, 0, rfl, rfl, Nat.zero_le _, fun i hi => absurd hi (by omega), NumAt.nil _ _ _, Below.refl _ _⟩
    case round =>
      obtain ⟨a, A1, n1, c1', rfl, rfl, hk, hd, hn, hb⟩ := hrel
      by_cases has : a < s.size
      · have aS : (a : Int) < (s.size : Int) := by omega
        have hc := sd_lt s a
        have hD2 := Lib.hid hd
        clear hd
        obtain ⟨c, hc0⟩ : ∃ c, c = sd s a := ⟨_, rfl⟩
        have SGa : ∀ h : a < s.size, (s[a]'h).toNat = c := fun h => (SG a h).trans hc0.symm
        have HC := Lib.hid hc0
        rw [← hc0] at hc
        clear hc0 SG
        by_cases c1 : c < 48
        · have c1I : (c : Int) < 48 := by omega
          go_wp2_with fail
          go_ret2
          obtain ⟨rfl, rfl⟩ := hr.out.2 (fun h => by have := h.2.2 a has; have := HC.out; omega)
          exact ⟨_, _, _, rfl, NumAt.nil _ _ _, hb⟩
        · have c1I : 48 ≤ (c : Int) := by omega
          by_cases c2 : 57 < c
          · have c2I : 57 < (c : Int) := by omega
            go_wp2_with fail
            go_ret2
            obtain ⟨rfl, rfl⟩ := hr.out.2 (fun h => by have := h.2.2 a has; have := HC.out; omega)
            exact ⟨_, _, _, rfl, NumAt.nil _ _ _, hb⟩
          · have c2I : (c : Int) ≤ 57 := by omega
            obtain ⟨d, hd9⟩ : ∃ d, d = c - 48 := ⟨_, rfl⟩
            have cI : (c : Int) - 48 = (d : Int) := by omega
            have hnl := hn.le_of (by decide) a (Nat.lt_of_lt_of_le (dv_lt hD2.out) (Nat.pow_le_pow_left (by decide) a))
            have HV := Lib.hid (show dv s (a + 1) = dv s a * 10 + d by rw [dv, ← HC.out]; omega)
            have hd10 : d ≤ 9 := by omega
            clear hd9
            go_wp2_with fail
            refine (ref2_Small _ _ _ _ 10 d _ hn.1 (by decide) (by omega) (by omega)).mono ?_
            rintro e w2 ⟨A2, n2, c2', rfl, h2, hb2, hf2⟩
            rw [← HV.out] at h2
            go_wp2_with fail
            go_roundw
            case rel =>
              refine ⟨a + 1, _, _, _, by go_num, rfl, by omega, ?_, h2, nx hb hb2⟩
              intro i hi
              rcases Nat.lt_or_ge i a with h5 | h5
              · exact hD2.out i h5
              · obtain rfl : i = a := by omega
                rw [← HC.out]; omega
            case measure => simp [intOf]; omega
      · obtain rfl : a = s.size := by omega
        obtain ⟨rfl, rfl⟩ := hr.out.1 ⟨h0, hk2.out, hd⟩
        clear hd SG
        go_wp2_with fail
        go_ret2
        exact ⟨_, _, _, rfl, hn, hb⟩
  · have z1 : (((sd s 0 : Nat) : Int) == 48) = false := by simp; omega
    clear hI1
    go_enter Try.func19, Try.ntmps19
    go_wp2_with fail
    clear z1
    go_loopw [4, 5] (fun t4 t5 wr => ∃ k A1 n1 c1, t5 = .int .i64 (k : Nat) ∧ t4 = .slice A1 n1 c1 ∧ k ≤ s.size ∧ (∀ i, i < k → 48 ≤ sd s i ∧ sd s i ≤ 57) ∧ NumAt .i64 65536 wr A1 n1 c1 (dv s k) ∧ Below w.heap.size w wr) (fun _ t _ => s.size - (intOf t).toNat)
    case atStart => exact ⟨0, none, 0, 0, rfl, rfl, Nat.zero_le _, fun i hi => absurd hi (by omega), NumAt.nil _ _ _, Below.refl _ _⟩
    case round =>
      obtain ⟨a, A1, n1, c1', rfl, rfl, hk, hd, hn, hb⟩ := hrel
      by_cases has : a < s.size
      · have aS : (a : Int) < (s.size : Int) := by omega
        have hc := sd_lt s a
        have hD2 := Lib.hid hd
        clear hd
        obtain ⟨c, hc0⟩ : ∃ c, c = sd s a := ⟨_, rfl⟩
        have SGa : ∀ h : a < s.size, (s[a]'h).toNat = c := fun h => (SG a h).trans hc0.symm
        have HC := Lib.hid hc0
        rw [← hc0] at hc
        clear hc0 SG
        by_cases c1 : c < 48
        · have c1I : (c : Int) < 48 := by omega
          go_wp2_with fail
          go_ret2
          obtain ⟨rfl, rfl⟩ := hr.out.2 (fun h => by have := h.2.2 a has; have := HC.out; omega)
          exact ⟨_, _, _, rfl, NumAt.nil _ _ _, hb⟩
        · have c1I : 48 ≤ (c : Int) := by omega
          by_cases c2 : 57 < c
          · have c2I : 57 < (c : Int) := by omega
            go_wp2_with fail
            go_ret2
            obtain ⟨rfl, rfl⟩ := hr.out.2 (fun h => by have := h.2.2 a has; have := HC.out; omega)
            exact ⟨_, _, _, rfl, NumAt.nil _ _ _, hb⟩
          · have c2I : (c : Int) ≤ 57 := by omega
            obtain ⟨d, hd9⟩ : ∃ d, d = c - 48 := ⟨_, rfl⟩
            have cI : (c : Int) - 48 = (d : Int) := by omega
            have hnl := hn.le_of (by decide) a (Nat.lt_of_lt_of_le (dv_lt hD2.out) (Nat.pow_le_pow_left (by decide) a))
            have HV := Lib.hid (show dv s (a + 1) = dv s a * 10 + d by rw [dv, ← HC.out]; omega)
            have hd10 : d ≤ 9 := by omega
            clear hd9
            go_wp2_with fail
            refine (ref2_Small _ _ _ _ 10 d _ hn.1 (by decide) (by omega) (by omega)).mono ?_
            rintro e w2 ⟨A2, n2, c2', rfl, h2, hb2, hf2⟩
            rw [← HV.out] at h2
            go_wp2_with fail
            go_roundw
            case rel =>
              refine ⟨a + 1, _, _, _, by go_num, rfl, by omega, ?_, h2, nx hb hb2⟩
              intro i hi
              rcases Nat.lt_or_ge i a with h5 | h5
              · exact hD2.out i h5
              · obtain rfl : i = a := by omega
                rw [← HC.out]; omega
            case measure => simp [intOf]; omega
      · obtain rfl : a = s.size := by omega
        obtain ⟨rfl, rfl⟩ := hr.out.1 ⟨h0, hk2.out, hd⟩
        clear hd SG
        go_wp2_with fail
        go_ret2
        exact ⟨_, _, _, rfl, hn, hb⟩
theorem ref6_Read (s : ByteArray) (w : World) (hs : s.size ≤ 1000000000) :
    Calls Try.prog 19 #[.string s] w (RetRefB w (rdv s) (decide (okd s))) := by
  by_cases h : s.size = 0 ∨ 1 < s.size ∧ sd s 0 = 48
  · have hno : ¬ okd s := fun h2 => by
      rcases h with h | ⟨h, h3⟩
      · have := h2.1; omega
      · exact h2.2.1 h h3
    have := ref6_Read_short s w hs h
    unfold rdv
    rw [if_neg hno, decide_eq_false hno]
    exact this
  · refine ref6_Read_long s w hs (by omega) (fun h1 h2 => h (.inr ⟨h1, h2⟩)) _ _ ⟨fun h2 => ?_, fun h2 => ?_⟩
    · unfold rdv; rw [if_pos h2, decide_eq_true h2]; exact ⟨rfl, rfl⟩
    · unfold rdv; rw [if_neg h2, decide_eq_false h2]; exact ⟨rfl, rfl⟩
end Go.Proofs.Ytihbpkljjmpkjaa
