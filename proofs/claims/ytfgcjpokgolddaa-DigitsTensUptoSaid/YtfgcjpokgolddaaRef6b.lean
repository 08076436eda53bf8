/- The walks of actuaryref06, second part: Parse, Read. -/
import Derived.Test.YtfgcjpokgolddaaRef6
import Derived.Test.YtfgcjpokgolddaaDig4
import Derived.Test.YtfgcjpokgolddaaKC
set_option linter.unusedVariables false
set_option linter.unusedSimpArgs false
namespace Go.Proofs.Ytfgcjpokgolddaa
open Go.RowKit
set_option maxRecDepth 100000
def RetRefB (w : World) (x : Nat) (b : Bool) (e : Ending) (w' : World) : Prop := ∃ A n c, e = .returned (.tuple #[.slice A n c, .bool b]) ∧ NumAt .i64 65536 w' A n c x ∧ Below w.heap.size w w'
theorem toList_one {s : ByteArray} (h : s.size = 1) (h0 : sd s 0 = 48) : s.toList = [48] := by
  rw [ByteArray.toList_eq]
  obtain ⟨⟨l⟩⟩ := s
  have hl : l.length = 1 := h
  obtain ⟨a, rfl⟩ := List.length_eq_one_iff.1 hl
  have h2 : a.toNat = 48 := h0
  have : a = 48 := UInt8.toNat_inj.1 h2
  subst this
  rfl
theorem toList_ne_one {s : ByteArray} (h : s.size ≠ 1) : ¬ s.toList = [48] := by
  rw [ByteArray.toList_eq]
  intro e
  apply h
  have : s.data.toList.length = s.size := rfl
  rw [e] at this
  exact this.symm
set_option maxHeartbeats 4000000 in
theorem ref6_Parse_no (A : Option Addr) (n c v : Nat) (w : World) (h : Dig .u8 256 w A n c v) (hn : n ≤ 1000000000) (h0 : 0 < n) (hv : dg 256 0 v = 0) :
    Calls Try.prog 20 #[.slice A n c] w (RetRefB w 0 false) := by
  have m1 := h.max
  have m2 := h.cap
  obtain ⟨g, o, rfl, hg, hc⟩ := h.at_ h0
  have c0 := hc 0 h0
  rw [Nat.add_zero, hv] at c0
  have zi : (0 : Int) < (n : Int) := by omega
  clear hc hv
  go_enter Try.func20, Try.ntmps20
  go_wp2_with fail
  go_ret2
  exact ⟨_, _, _, rfl, NumAt.nil _ _ _, Below.refl _ _⟩
set_option maxHeartbeats 4000000 in
theorem ref6_Parse_yes (A : Option Addr) (n c v : Nat) (w : World) (h : Dig .u8 256 w A n c v) (hn : n ≤ 1000000000) (hv : n = 0 ∨ dg 256 0 v ≠ 0) :
    Calls Try.prog 20 #[.slice A n c] w (RetRefB w (rv 256 n v) true) := by
  have m1 := h.max
  have m2 := h.cap
  rcases Nat.eq_zero_or_pos n with h0 | h0
  · subst h0
    clear hv
    go_enter Try.func20, Try.ntmps20
    go_wp2_with fail
    obtain ⟨n, rfl⟩ : ∃ n, n = 0 := ⟨_, rfl⟩
    rw [h.zero]
    go_loopw [4, 5] (fun t4 t5 wr => t5 = .int .i64 0 ∧ t4 = .slice none 0 0 ∧ Below w.heap.size w wr) (fun _ t _ => 0)
    case atStart => exact ⟨rfl, rfl, Below.refl _ _⟩
    case round =>
      obtain ⟨rfl, rfl, hb⟩ := hrel
      go_wp2_with fail
      go_ret2
      exact ⟨_, _, _, rfl, NumAt.nil _ _ _, hb⟩
  · replace hv : dg 256 0 v ≠ 0 := by rcases hv with e | e; (exact absurd e (by omega)); exact e
    obtain ⟨g, o, rfl, hg, hc⟩ := h.at_ h0
    have c0 := hc 0 h0
    rw [Nat.add_zero] at c0
    obtain ⟨d0, hd0⟩ : ∃ d, d = dg 256 0 v := ⟨_, rfl⟩
    rw [← hd0] at c0 hv
    have zi : (0 : Int) < (n : Int) := by omega
    have z1 : (((d0 : Nat) : Int) == 0) = false := by simp; omega
    clear hc hd0
    go_enter Try.func20, Try.ntmps20
    go_wp2_with fail
    clear c0 z1 hg

    go_loopw [4, 5] (fun t4 t5 wr => ∃ k A1 n1 c1, k ≤ n ∧ t5 = .int .i64 (k : Nat) ∧ t4 = .slice A1 n1 c1 ∧ NumAt .i64 65536 wr A1 n1 c1 (rv 256 k v) ∧ Below w.heap.size w wr) (fun _ t _ => n - (intOf t).toNat)
    case atStart => exact ⟨0, none, 0, 0, Nat.zero_le _, rfl, rfl, NumAt.nil _ _ _, Below.refl _ _⟩
    case round =>
      obtain ⟨k, A1, n1, c1, hk, rfl, rfl, h1, hb⟩ := hrel
      by_cases hlt : k < n
      · have kI : (k : Int) < (n : Int) := by omega
        obtain ⟨g9, o9, e9, hg, hc⟩ := (h.to (show Below w.heap.size w wr from hb)).at_ (by omega)
        cases e9
        have ck := hc k hlt
        have hd := dg_lt (b := 256) (by decide) k v
        have hnl := h1.le_of (by decide) k (Nat.lt_of_lt_of_le (rv_lt (by decide) k v) (Nat.pow_le_pow_left (by decide) k))
        have HS := Lib.hid (rv_succ (b := 256) k v)
        obtain ⟨d, hd0⟩ : ∃ d, d = dg 256 k v := ⟨_, rfl⟩
        rw [← hd0] at ck hd
        have HD := Lib.hid hd0
        clear hc hd0
        go_wp2_with fail
        refine (ref2_Small _ _ _ _ 256 d _ h1.1 (by decide) (by omega) (by omega)).mono ?_
        rintro e w2 ⟨A2, n2, c2, rfl, h2, hb2, hf2⟩
        rw [HD.out, ← HS.out] at h2
        go_wp2_with fail
        go_roundw
        case rel => exact ⟨k + 1, _, _, _, by omega, by go_num, rfl, h2, nx hb hb2⟩
        case measure => simp [intOf]; omega
      · obtain rfl : k = n := by omega
        go_wp2_with fail
        go_ret2
        exact ⟨_, _, _, rfl, h1, hb⟩
set_option maxHeartbeats 4000000 in
theorem ref6_Read_short (s : ByteArray) (w : World) (hs : s.size ≤ 1000000000) (h0 : s.size = 0 ∨ 1 < s.size ∧ sd s 0 = 48) :
    Calls Try.prog 21 #[.string s] w (RetRefB w 0 false) := by
  rcases h0 with h0 | ⟨h0, h1⟩
  · have e1 := toList_empty h0
    go_enter Try.func21, Try.ntmps21
    go_wp2_with fail
    go_ret2
    exact ⟨_, _, _, rfl, NumAt.nil _ _ _, Below.refl _ _⟩
  · have e1 := toList_some (s := s) (by omega)
    have e2 := isEmpty_some (s := s) (by omega)
    have e3 := toList_ne_one (s := s) (by omega)
    have e4 : (s.toList == [48]) = false := by simp [e3]
    have SG := sd_get s
    have z1 : (((sd s 0 : Nat) : Int) == 48) = true := by simp; omega
    have hp : 0 < s.size := by omega
    go_enter Try.func21, Try.ntmps21
    go_wp2_with fail
    go_ret2
    exact ⟨_, _, _, rfl, NumAt.nil _ _ _, Below.refl _ _⟩
set_option maxHeartbeats 4000000 in
theorem ref6_Read_long (s : ByteArray) (w : World) (hs : s.size ≤ 1000000000) (h0 : 0 < s.size) (h1 : 1 < s.size → sd s 0 ≠ 48) (v : Nat) (b : Bool) (hr : Hid (RdIs s v b)) :
    Calls Try.prog 21 #[.string s] w (RetRefB w v b) := by
  have e1 := toList_some (s := s) (by omega)
  have e2 := isEmpty_some (s := s) (by omega)
  have SG := sd_get s
  have hI : (0 : Int) < (s.size : Int) := by omega
  have hp : 0 < s.size := by omega
  have hk2 := Lib.hid h1
  clear h1
  by_cases hI1 : sd s 0 = 48
  · have e3 := toList_one (s := s) (by have := hk2.out; omega) hI1
    have e4 : (s.toList == [48]) = true := by rw [e3]; rfl
    have z1 : (((sd s 0 : Nat) : Int) == 48) = true := by simp; omega
    clear hI1 e1 e2
    have e5 : ((([48] : List UInt8)) == ([] : List UInt8)) = false := by decide
    go_enter Try.func21, Try.ntmps21
    go_wp2_with fail
    clear z1
    go_loopw [4, 5] (fun t4 t5 wr => ∃ k A1 n1 c1, t5 = .int .i64 (k : Nat) ∧ t4 = .slice A1 n1 c1 ∧ k ≤ s.size ∧ (∀ i, i < k → 48 ≤ sd s i ∧ sd s i ≤ 57) ∧ NumAt .i64 65536 wr A1 n1 c1 (dv s k) ∧ Below w.heap.size w wr) (fun _ t _ => s.size - (intOf t).toNat)
    case atStart => exact ⟨0, none, 0, 0, rfl, rfl, Nat.zero_le _, fun i hi => absurd hi (by omega), NumAt.nil _ _ _, Below.refl _ _⟩
    case round =>
      obtain ⟨a, A1, n1, c1', rfl, rfl, hk, hd, hn, hb⟩ := hrel
      by_cases has : a < s.size
      · have aS : (a : Int) < (s.size : Int) := by omega
        have hc := sd_lt s a
        have hD2 := Lib.hid hd
        clear hd
        obtain ⟨c, hc0⟩ : ∃ c, c = sd s a := ⟨_, rfl⟩
        have SGa : ∀ h : a < s.size, (s[a]'h).toNat = c := fun h => (SG a h).trans hc0.symm
        have HC := Lib.hid hc0
        rw [← hc0] at hc
        clear hc0 SG
        by_cases c1 : c < 48
        · have c1I : (c : Int) < 48 := by omega
          go_wp2_with fail
          go_ret2
          obtain ⟨rfl, rfl⟩ := hr.out.2 (fun h => by have := h.2.2 a has; have := HC.out; omega)
          exact ⟨_, _, _, rfl, NumAt.nil _ _ _, hb⟩
        · have c1I : 48 ≤ (c : Int) := by omega
          by_cases c2 : 57 < c
          · have c2I : 57 < (c : Int) := by omega
            go_wp2_with fail
            go_ret2
            obtain ⟨rfl, rfl⟩ := hr.out.2 (fun h => by have := h.2.2 a has; have := HC.out; omega)
            exact ⟨_, _, _, rfl, NumAt.nil _ _ _, hb⟩
          · have c2I : (c : Int) ≤ 57 := by omega
            obtain ⟨d, hd9⟩ : ∃ d, d = c - 48 := ⟨_, rfl⟩
            have cI : (c : Int) - 48 = (d : Int) := by omega
            have hnl := hn.le_of (by decide) a (Nat.lt_of_lt_of_le (dv_lt hD2.out) (Nat.pow_le_pow_left (by decide) a))
            have HV := Lib.hid (show dv s (a + 1) = dv s a * 10 + d by rw [dv, ← HC.out]; omega)
            have hd10 : d ≤ 9 := by omega
            clear hd9
            go_wp2_with fail
            refine (ref2_Small _ _ _ _ 10 d _ hn.1 (by decide) (by omega) (by omega)).mono ?_
            rintro e w2 ⟨A2, n2, c2', rfl, h2, hb2, hf2⟩
            rw [← HV.out] at h2
            go_wp2_with fail
            go_roundw
            case rel =>
              refine ⟨a + 1, _, _, _, by go_num, rfl, by omega, ?_, h2, nx hb hb2⟩
              intro i hi
              rcases Nat.lt_or_ge i a with h5 | h5
              · exact hD2.out i h5
              · obtain rfl : i = a := by omega
                rw [← HC.out]; omega
            case measure => simp [intOf]; omega
      · obtain rfl : a = s.size := by omega
        obtain ⟨rfl, rfl⟩ := hr.out.1 ⟨h0, hk2.out, hd⟩
        clear hd SG
        go_wp2_with fail
        go_ret2
        exact ⟨_, _, _, rfl, hn, hb⟩
  · have z1 : (((sd s 0 : Nat) : Int) == 48) = false := by simp; omega
    clear hI1
    go_enter Try.func21, Try.ntmps21
    go_wp2_with fail
    clear z1
    go_loopw [4, 5] (fun t4 t5 wr => ∃ k A1 n1 c1, t5 = .int .i64 (k : Nat) ∧ t4 = .slice A1 n1 c1 ∧ k ≤ s.size ∧ (∀ i, i < k → 48 ≤ sd s i ∧ sd s i ≤ 57) ∧ NumAt .i64 65536 wr A1 n1 c1 (dv s k) ∧ Below w.heap.size w wr) (fun _ t _ => s.size - (intOf t).toNat)
    case atStart => exact ⟨0, none, 0, 0, rfl, rfl, Nat.zero_le _, fun i hi => absurd hi (by omega), NumAt.nil _ _ _, Below.refl _ _⟩
    case round =>
      obtain ⟨a, A1, n1, c1', rfl, rfl, hk, hd, hn, hb⟩ := hrel
      by_cases has : a < s.size
      · have aS : (a : Int) < (s.size : Int) := by omega
        have hc := sd_lt s a
        have hD2 := Lib.hid hd
        clear hd
        obtain ⟨c, hc0⟩ : ∃ c, c = sd s a := ⟨_, rfl⟩
        have SGa : ∀ h : a < s.size, (s[a]'h).toNat = c := fun h => (SG a h).trans hc0.symm
        have HC := Lib.hid hc0
        rw [← hc0] at hc
        clear hc0 SG
        by_cases c1 : c < 48
        · have c1I : (c : Int) < 48 := by omega
          go_wp2_with fail
          go_ret2
          obtain ⟨rfl, rfl⟩ := hr.out.2 (fun h => by have := h.2.2 a has; have := HC.out; omega)
          exact ⟨_, _, _, rfl, NumAt.nil _ _ _, hb⟩
        · have c1I : 48 ≤ (c : Int) := by omega
          by_cases c2 : 57 < c
          · have c2I : 57 < (c : Int) := by omega
            go_wp2_with fail
            go_ret2
            obtain ⟨rfl, rfl⟩ := hr.out.2 (fun h => by have := h.2.2 a has; have := HC.out; omega)
            exact ⟨_, _, _, rfl, NumAt.nil _ _ _, hb⟩
          · have c2I : (c : Int) ≤ 57 := by omega
            obtain ⟨d, hd9⟩ : ∃ d, d = c - 48 := ⟨_, rfl⟩
            have cI : (c : Int) - 48 = (d : Int) := by omega
            have hnl := hn.le_of (by decide) a (Nat.lt_of_lt_of_le (dv_lt hD2.out) (Nat.pow_le_pow_left (by decide) a))
            have HV := Lib.hid (show dv s (a + 1) = dv s a * 10 + d by rw [dv, ← HC.out]; omega)
            have hd10 : d ≤ 9 := by omega
            clear hd9
            go_wp2_with fail
            refine (ref2_Small _ _ _ _ 10 d _ hn.1 (by decide) (by omega) (by omega)).mono ?_
            rintro e w2 ⟨A2, n2, c2', rfl, h2, hb2, hf2⟩
            rw [← HV.out] at h2
            go_wp2_with fail
            go_roundw
            case rel =>
              refine ⟨a + 1, _, _, _, by go_num, rfl, by omega, ?_, h2, nx hb hb2⟩
              intro i hi
              rcases Nat.lt_or_ge i a with h5 | h5
              · exact hD2.out i h5
              · obtain rfl : i = a := by omega
                rw [← HC.out]; omega
            case measure => simp [intOf]; omega
      · obtain rfl : a = s.size := by omega
        obtain ⟨rfl, rfl⟩ := hr.out.1 ⟨h0, hk2.out, hd⟩
        clear hd SG
        go_wp2_with fail
        go_ret2
        exact ⟨_, _, _, rfl, hn, hb⟩
theorem ref6_Read (s : ByteArray) (w : World) (hs : s.size ≤ 1000000000) :
    Calls Try.prog 21 #[.string s] w (RetRefB w (rdv s) (decide (okd s))) := by
  by_cases h : s.size = 0 ∨ 1 < s.size ∧ sd s 0 = 48
  · have hno : ¬ okd s := fun h2 => by
      rcases h with h | ⟨h, h3⟩
      · have := h2.1; omega
      · exact h2.2.1 h h3
    have := ref6_Read_short s w hs h
    unfold rdv
    rw [if_neg hno, decide_eq_false hno]
    exact this
  · refine ref6_Read_long s w hs (by omega) (fun h1 h2 => h (.inr ⟨h1, h2⟩)) _ _ ⟨fun h2 => ?_, fun h2 => ?_⟩
    · unfold rdv; rw [if_pos h2, decide_eq_true h2]; exact ⟨rfl, rfl⟩
    · unfold rdv; rw [if_neg h2, decide_eq_false h2]; exact ⟨rfl, rfl⟩
end Go.Proofs.Ytfgcjpokgolddaa
