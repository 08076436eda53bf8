/- The walks of package digits, fourth part: Read. -/
import Derived.Test.YtihbpkljjmpkjaaDig2
import Derived.Test.YtihbpkljjmpkjaaTxtLaw
import Derived.Test.YtihbpkljjmpkjaaKI
import Derived.Test.YtihbpkljjmpkjaaKD
set_option linter.unusedVariables false
set_option linter.unusedSimpArgs false
namespace Go.Proofs.Ytihbpkljjmpkjaa
open Go.RowKit
set_option maxRecDepth 100000
set_option maxHeartbeats 4000000 in
theorem digits_Read_short (s : ByteArray) (w : World) (hs : s.size ≤ 140737488355328) (h0 : s.size = 0 ∨ 1 < s.size ∧ sd s 0 = 48) :
    Calls Try.prog 51 #[.string s] w (RetNatB w 0 false) := by
  rcases h0 with h0 | ⟨h0, h1⟩
  · have e1 := toList_empty h0
    go_enter Try.func51, Try.ntmps51
    go_wp2_with fail
    have X := Blk1.new w 27 (.slice none 0 0)
    have er := X.cell
    exact bodyPost_ret (v := .tuple #[.agg #[.slice none 0 0], .bool false]) (by simp [results, Try.results51, go_sem, er]) rfl ⟨_, _, _, rfl, nat_nil _, nxa (Below.refl _ _) _⟩
  · have e1 := toList_some (s := s) (by omega)
    have e2 := isEmpty_some (s := s) (by omega)
    have SG := sd_get s
    have z1 : (((sd s 0 : Nat) : Int) == 48) = true := by simp; omega
    have hI : (1 : Int) < (s.size : Int) := by omega
    have hp : 0 < s.size := by omega
    go_enter Try.func51, Try.ntmps51
    go_wp2_with fail
    have X := Blk1.new w 27 (.slice none 0 0)
    have er := X.cell
    exact bodyPost_ret (v := .tuple #[.agg #[.slice none 0 0], .bool false]) (by simp [results, Try.results51, go_sem, er]) rfl ⟨_, _, _, rfl, nat_nil _, nxa (Below.refl _ _) _⟩
def RdIs (s : ByteArray) (v : Nat) (b : Bool) : Prop := (okd s → v = dv s s.size ∧ b = true) ∧ (¬ okd s → v = 0 ∧ b = false)
set_option maxHeartbeats 4000000 in
theorem digits_Read_long (s : ByteArray) (w : World) (hs : s.size ≤ 140737488355328) (h0 : 0 < s.size) (h1 : 1 < s.size → sd s 0 ≠ 48) (v : Nat) (b : Bool) (hr : Hid (RdIs s v b)) :
    Calls Try.prog 51 #[.string s] w (RetNatB w v b) := by
  have e1 := toList_some (s := s) (by omega)
  have e2 := isEmpty_some (s := s) (by omega)
  have SG := sd_get s
  have hI : (0 : Int) < (s.size : Int) := by omega
  have hk2 := Lib.hid h1
  clear h1
  by_cases hI1 : (1 : Int) < (s.size : Int)
  · have z1 : (((sd s 0 : Nat) : Int) == 48) = false := by have := hk2.out (by omega); simp; omega
    go_enter Try.func51, Try.ntmps51
    go_wp2_with fail
    have X := Blk1.newAt w (w.heap.size) 27 (.slice none 0 0) (by first | rfl | simp)
    have Y := Blk1.newAt (w.alloc (.cells #[.slice none 0 0] 27)) (w.heap.size + 1) 27 (.slice none 0 0) (by first | rfl | simp)
    replace X := X.to (show Below (w.alloc (.cells #[.slice none 0 0] 27)).heap.size (w.alloc (.cells #[.slice none 0 0] 27)) ((w.alloc (.cells #[.slice none 0 0] 27)).alloc (.cells #[.slice none 0 0] 27)) from bW)
    have hb1 : Below w.heap.size w ((w.alloc (.cells #[.slice none 0 0] 27)).alloc (.cells #[.slice none 0 0] 27)) := bW
    generalize (w.alloc (.cells #[.slice none 0 0] 27)).alloc (.cells #[.slice none 0 0] 27) = w1 at X Y hb1 ⊢
    clear z1 hI1
    go_loopw [5] (fun t5 wr => ∃ k A1 n1 c1, t5 = .int .i64 (k : Nat) ∧ k ≤ s.size ∧ (∀ i, i < k → 48 ≤ sd s i ∧ sd s i ≤ 57) ∧ Blk1 wr w.heap.size 27 (.slice none 0 0) ∧ Blk1 wr (w.heap.size + 1) 27 (.slice A1 n1 c1) ∧ NatAt wr A1 n1 c1 (dv s k) ∧ Below w.heap.size w wr) (fun t _ => s.size - (intOf t).toNat)
    case atStart => exact ⟨0, none, 0, 0, rfl, Nat.zero_le _, fun i hi => absurd hi (by omega), X, Y, nat_nil _, hb1⟩
    case round =>
      clear X Y hb1
      obtain ⟨k, A1, n1, c1, rfl, hk, hd, X, Y, hn, hb⟩ := hrel
      by_cases hlt : k < s.size
      · have kI : (k : Int) < (s.size : Int) := by omega
        have hD := Lib.hid hd
        clear hd
        obtain ⟨T, hT⟩ : ∃ T, T = min s.size (k + 18) := ⟨_, rfl⟩
        have hTk : k < T := by omega
        have hT18 : T ≤ k + 18 := by omega
        have hTs : T ≤ s.size := by omega
        have tI : (if (k : Int) + 19 - 1 < (s.size : Int) then (k : Int) + 19 - 1 else (s.size : Int)) = (T : Int) := by split <;> omega
        clear hT
        go_wp2_with fail
        clear tI kI
        go_loop [5, 7, 8] (fun t5 t7 t8 => ∃ a P B : Nat, t5 = .int .i64 (a : Nat) ∧ k ≤ a ∧ a ≤ T ∧ t7 = .int .u64 (P : Nat) ∧ t8 = .int .u64 (B : Nat) ∧ B = 10 ^ (a - k) ∧ dv s a = dv s k * B + P ∧ P < B ∧ ∀ i, i < a → 48 ≤ sd s i ∧ sd s i ≤ 57) (fun t _ _ => T - (intOf t).toNat)
        case atStart => exact ⟨k, 0, 1, rfl, Nat.le_refl _, by omega, rfl, rfl, by simp, by simp, by omega, hD.out⟩
        case round =>
          obtain ⟨a, P, B, rfl, hka, haT, rfl, rfl, hB, hv, hPB, hd⟩ := hrel
          by_cases hat : a < T
          · have aI : (a : Int) < (T : Int) := by omega
            have has : a < s.size := by omega
            have aS : (a : Int) < (s.size : Int) := by omega
            have hc := sd_lt s a
            have hD2 := Lib.hid hd
            have hV2 := Lib.hid hv
            have hB2 := Lib.hid hB
            have hB18 : B ≤ 10 ^ 17 := by rw [hB]; exact Nat.pow_le_pow_right (by decide) (by omega)
            clear hd hv hB
            obtain ⟨c, hc0⟩ : ∃ c, c = sd s a := ⟨_, rfl⟩
            have SGa : ∀ h : a < s.size, (s[a]'h).toNat = c := fun h => (SG a h).trans hc0.symm
            have HC := Lib.hid hc0
            rw [← hc0] at hc
            clear hc0 SG
            by_cases c1 : c < 48
            · have c1I : (c : Int) < 48 := by omega
              have hX := X.cell
              have hXf := X.free
              go_wp2_with fail
              have er := (X.set (.slice none 0 0)).cell
              have hbs := hb.setCell (p := ⟨w.heap.size, 0, none⟩) (Nat.le_refl _) (.slice none 0 0)
              obtain ⟨rfl, rfl⟩ := hr.out.2 (fun h => by have := h.2.2 a has; have := HC.out; omega)
              exact bodyPost_ret (v := .tuple #[.agg #[.slice none 0 0], .bool false]) (by simp [results, Try.results51, go_sem, er]) rfl ⟨_, _, _, rfl, nat_nil _, hbs⟩
            · have c1I : 48 ≤ (c : Int) := by omega
              by_cases c2 : 57 < c
              · have c2I : 57 < (c : Int) := by omega
                have hX := X.cell
                have hXf := X.free
                go_wp2_with fail
                have er := (X.set (.slice none 0 0)).cell
                have hbs := hb.setCell (p := ⟨w.heap.size, 0, none⟩) (Nat.le_refl _) (.slice none 0 0)
                obtain ⟨rfl, rfl⟩ := hr.out.2 (fun h => by have := h.2.2 a has; have := HC.out; omega)
                exact bodyPost_ret (v := .tuple #[.agg #[.slice none 0 0], .bool false]) (by simp [results, Try.results51, go_sem, er]) rfl ⟨_, _, _, rfl, nat_nil _, hbs⟩
              · have c2I : (c : Int) ≤ 57 := by omega
                go_wp2_with fail
                go_round
                case rel =>
                  refine ⟨a + 1, P * 10 + (c - 48), B * 10, by go_num, by omega, by omega, by rw [show ((P : Int) * 10 + ((c : Int) - 48)) = ((P * 10 + (c - 48) : Nat) : Int) by omega], by go_num, ?_, ?_, by omega, ?_⟩
                  · rw [hB2.out, show a + 1 - k = a - k + 1 by omega, Nat.pow_succ]
                  · rw [HC.out]; exact dv_part hV2.out
                  · intro i hi
                    rcases Nat.lt_or_ge i a with h5 | h5
                    · exact hD2.out i h5
                    · obtain rfl : i = a := by omega
                      rw [← HC.out]; omega
                case measure => simp [intOf]; omega
          · obtain rfl : a = T := by omega
            have hD2 := Lib.hid hd
            have hV2 := Lib.hid hv
            have hBW : B < W := by rw [hB]; exact Nat.lt_of_le_of_lt (Nat.pow_le_pow_right (show 0 < 10 by decide) (show a - k ≤ 18 by omega)) (by unfold W; decide)
            have hPW : P < W := Nat.lt_trans hPB hBW
            have hnl := hn.le_of _ (dv_words hD.out)
            have hX := X.cell
            have hY := Y.cell
            clear hd hv hB SG
            go_wp2_with fail
            refine (prod_ByWord _ _ _ _ _ _ _ hn hBW hPW (by omega)).mono ?_
            rintro e w2 ⟨A2, n2, c2, rfl, h2, hb2⟩
            rw [← hV2.out] at h2
            have Y2 := Y.to hb2
            have X2 := X.to hb2
            have hY2 := Y2.cell
            have hYf := Y2.free
            go_wp2_with fail
            have h3 := h2.put_ hY2 (.slice A2 n2 c2)
            have X3 := X2.far (p := ⟨w.heap.size + 1, 0, none⟩) (by show w.heap.size ≠ w.heap.size + 1; omega) (.slice A2 n2 c2)
            have Y3 := Y2.set (.slice A2 n2 c2)
            have hb3 := (nx hb hb2).setCell (p := ⟨w.heap.size + 1, 0, none⟩) (by show w.heap.size ≤ w.heap.size + 1; omega) (.slice A2 n2 c2)
            go_roundw
            case rel => exact ⟨a, A2, n2, c2, rfl, hTs, hD2.out, X3, Y3, h3, hb3⟩
            case measure => simp [intOf]; omega
      · obtain rfl : k = s.size := by omega
        have hX := X.cell
        have hXf := X.free
        have hY := Y.cell
        obtain ⟨rfl, rfl⟩ := hr.out.1 ⟨h0, hk2.out, hd⟩
        clear hd SG
        go_wp2_with fail
        have hn2 := hn.put_ hX (.slice A1 n1 c1)
        have er := (X.set (.slice A1 n1 c1)).cell
        have hbs := hb.setCell (p := ⟨w.heap.size, 0, none⟩) (Nat.le_refl _) (.slice A1 n1 c1)
        exact bodyPost_ret (v := .tuple #[.agg #[.slice A1 n1 c1], .bool true]) (by simp [results, Try.results51, go_sem, er]) rfl ⟨_, _, _, rfl, hn2, hbs⟩
  · have hI2 : (s.size : Int) ≤ 1 := by omega
    go_enter Try.func51, Try.ntmps51
    go_wp2_with fail
    have X := Blk1.newAt w (w.heap.size) 27 (.slice none 0 0) (by first | rfl | simp)
    have Y := Blk1.newAt (w.alloc (.cells #[.slice none 0 0] 27)) (w.heap.size + 1) 27 (.slice none 0 0) (by first | rfl | simp)
    replace X := X.to (show Below (w.alloc (.cells #[.slice none 0 0] 27)).heap.size (w.alloc (.cells #[.slice none 0 0] 27)) ((w.alloc (.cells #[.slice none 0 0] 27)).alloc (.cells #[.slice none 0 0] 27)) from bW)
    have hb1 : Below w.heap.size w ((w.alloc (.cells #[.slice none 0 0] 27)).alloc (.cells #[.slice none 0 0] 27)) := bW
    generalize (w.alloc (.cells #[.slice none 0 0] 27)).alloc (.cells #[.slice none 0 0] 27) = w1 at X Y hb1 ⊢
    clear hI2 hI1
    go_loopw [5] (fun t5 wr => ∃ k A1 n1 c1, t5 = .int .i64 (k : Nat) ∧ k ≤ s.size ∧ (∀ i, i < k → 48 ≤ sd s i ∧ sd s i ≤ 57) ∧ Blk1 wr w.heap.size 27 (.slice none 0 0) ∧ Blk1 wr (w.heap.size + 1) 27 (.slice A1 n1 c1) ∧ NatAt wr A1 n1 c1 (dv s k) ∧ Below w.heap.size w wr) (fun t _ => s.size - (intOf t).toNat)
    case atStart => exact ⟨0, none, 0, 0, rfl, Nat.zero_le _, fun i hi => absurd hi (by omega), X, Y, nat_nil _, hb1⟩
    case round =>
      clear X Y hb1
      obtain ⟨k, A1, n1, c1, rfl, hk, hd, X, Y, hn, hb⟩ := hrel
      by_cases hlt : k < s.size
      · have kI : (k : Int) < (s.size : Int) := by omega
        have hD := Lib.hid hd
        clear hd
        obtain ⟨T, hT⟩ : ∃ T, T = min s.size (k + 18) := ⟨_, rfl⟩
        have hTk : k < T := by omega
        have hT18 : T ≤ k + 18 := by omega
        have hTs : T ≤ s.size := by omega
        have tI : (if (k : Int) + 19 - 1 < (s.size : Int) then (k : Int) + 19 - 1 else (s.size : Int)) = (T : Int) := by split <;> omega
        clear hT
        go_wp2_with fail
        clear tI kI
        go_loop [5, 7, 8] (fun t5 t7 t8 => ∃ a P B : Nat, t5 = .int .i64 (a : Nat) ∧ k ≤ a ∧ a ≤ T ∧ t7 = .int .u64 (P : Nat) ∧ t8 = .int .u64 (B : Nat) ∧ B = 10 ^ (a - k) ∧ dv s a = dv s k * B + P ∧ P < B ∧ ∀ i, i < a → 48 ≤ sd s i ∧ sd s i ≤ 57) (fun t _ _ => T - (intOf t).toNat)
        case atStart => exact ⟨k, 0, 1, rfl, Nat.le_refl _, by omega, rfl, rfl, by simp, by simp, by omega, hD.out⟩
        case round =>
          obtain ⟨a, P, B, rfl, hka, haT, rfl, rfl, hB, hv, hPB, hd⟩ := hrel
          by_cases hat : a < T
          · have aI : (a : Int) < (T : Int) := by omega
            have has : a < s.size := by omega
            have aS : (a : Int) < (s.size : Int) := by omega
            have hc := sd_lt s a
            have hD2 := Lib.hid hd
            have hV2 := Lib.hid hv
            have hB2 := Lib.hid hB
            have hB18 : B ≤ 10 ^ 17 := by rw [hB]; exact Nat.pow_le_pow_right (by decide) (by omega)
            clear hd hv hB
            obtain ⟨c, hc0⟩ : ∃ c, c = sd s a := ⟨_, rfl⟩
            have SGa : ∀ h : a < s.size, (s[a]'h).toNat = c := fun h => (SG a h).trans hc0.symm
            have HC := Lib.hid hc0
            rw [← hc0] at hc
            clear hc0 SG
            by_cases c1 : c < 48
            · have c1I : (c : Int) < 48 := by omega
              have hX := X.cell
              have hXf := X.free
              go_wp2_with fail
              have er := (X.set (.slice none 0 0)).cell
              have hbs := hb.setCell (p := ⟨w.heap.size, 0, none⟩) (Nat.le_refl _) (.slice none 0 0)
              obtain ⟨rfl, rfl⟩ := hr.out.2 (fun h => by have := h.2.2 a has; have := HC.out; omega)
              exact bodyPost_ret (v := .tuple #[.agg #[.slice none 0 0], .bool false]) (by simp [results, Try.results51, go_sem, er]) rfl ⟨_, _, _, rfl, nat_nil _, hbs⟩
            · have c1I : 48 ≤ (c : Int) := by omega
              by_cases c2 : 57 < c
              · have c2I : 57 < (c : Int) := by omega
                have hX := X.cell
                have hXf := X.free
                go_wp2_with fail
                have er := (X.set (.slice none 0 0)).cell
                have hbs := hb.setCell (p := ⟨w.heap.size, 0, none⟩) (Nat.le_refl _) (.slice none 0 0)
                obtain ⟨rfl, rfl⟩ := hr.out.2 (fun h => by have := h.2.2 a has; have := HC.out; omega)
                exact bodyPost_ret (v := .tuple #[.agg #[.slice none 0 0], .bool false]) (by simp [results, Try.results51, go_sem, er]) rfl ⟨_, _, _, rfl, nat_nil _, hbs⟩
              · have c2I : (c : Int) ≤ 57 := by omega
                go_wp2_with fail
                go_round
                case rel =>
                  refine ⟨a + 1, P * 10 + (c - 48), B * 10, by go_num, by omega, by omega, by rw [show ((P : Int) * 10 + ((c : Int) - 48)) = ((P * 10 + (c - 48) : Nat) : Int) by omega], by go_num, ?_, ?_, by omega, ?_⟩
                  · rw [hB2.out, show a + 1 - k = a - k + 1 by omega, Nat.pow_succ]
                  · rw [HC.out]; exact dv_part hV2.out
                  · intro i hi
                    rcases Nat.lt_or_ge i a with h5 | h5
                    · exact hD2.out i h5
                    · obtain rfl : i = a := by omega
                      rw [← HC.out]; omega
                case measure => simp [intOf]; omega
          · obtain rfl : a = T := by omega
            have hD2 := Lib.hid hd
            have hV2 := Lib.hid hv
            have hBW : B < W := by rw [hB]; exact Nat.lt_of_le_of_lt (Nat.pow_le_pow_right (show 0 < 10 by decide) (show a - k ≤ 18 by omega)) (by unfold W; decide)
            have hPW : P < W := Nat.lt_trans hPB hBW
            have hnl := hn.le_of _ (dv_words hD.out)
            have hX := X.cell
            have hY := Y.cell
            clear hd hv hB SG
            go_wp2_with fail
            refine (prod_ByWord _ _ _ _ _ _ _ hn hBW hPW (by omega)).mono ?_
            rintro e w2 ⟨A2, n2, c2, rfl, h2, hb2⟩
            rw [← hV2.out] at h2
            have Y2 := Y.to hb2
            have X2 := X.to hb2
            have hY2 := Y2.cell
            have hYf := Y2.free
            go_wp2_with fail
            have h3 := h2.put_ hY2 (.slice A2 n2 c2)
            have X3 := X2.far (p := ⟨w.heap.size + 1, 0, none⟩) (by show w.heap.size ≠ w.heap.size + 1; omega) (.slice A2 n2 c2)
            have Y3 := Y2.set (.slice A2 n2 c2)
            have hb3 := (nx hb hb2).setCell (p := ⟨w.heap.size + 1, 0, none⟩) (by show w.heap.size ≤ w.heap.size + 1; omega) (.slice A2 n2 c2)
            go_roundw
            case rel => exact ⟨a, A2, n2, c2, rfl, hTs, hD2.out, X3, Y3, h3, hb3⟩
            case measure => simp [intOf]; omega
      · obtain rfl : k = s.size := by omega
        have hX := X.cell
        have hXf := X.free
        have hY := Y.cell
        obtain ⟨rfl, rfl⟩ := hr.out.1 ⟨h0, hk2.out, hd⟩
        clear hd SG
        go_wp2_with fail
        have hn2 := hn.put_ hX (.slice A1 n1 c1)
        have er := (X.set (.slice A1 n1 c1)).cell
        have hbs := hb.setCell (p := ⟨w.heap.size, 0, none⟩) (Nat.le_refl _) (.slice A1 n1 c1)
        exact bodyPost_ret (v := .tuple #[.agg #[.slice A1 n1 c1], .bool true]) (by simp [results, Try.results51, go_sem, er]) rfl ⟨_, _, _, rfl, hn2, hbs⟩
def rdv (s : ByteArray) : Nat := if okd s then dv s s.size else 0
theorem digits_Read (s : ByteArray) (w : World) (hs : s.size ≤ 140737488355328) :
    Calls Try.prog 51 #[.string s] w (RetNatB w (rdv s) (decide (okd s))) := by
  by_cases h : s.size = 0 ∨ 1 < s.size ∧ sd s 0 = 48
  · have hno : ¬ okd s := fun h2 => by
      rcases h with h | ⟨h, h3⟩
      · have := h2.1; omega
      · exact h2.2.1 h h3
    have := digits_Read_short s w hs h
    unfold rdv
    rw [if_neg hno, decide_eq_false hno]
    exact this
  · refine digits_Read_long s w hs (by omega) (fun h1 h2 => h (.inr ⟨h1, h2⟩)) _ _ ⟨fun h2 => ?_, fun h2 => ?_⟩
    · unfold rdv; rw [if_pos h2, decide_eq_true h2]; exact ⟨rfl, rfl⟩
    · unfold rdv; rw [if_neg h2, decide_eq_false h2]; exact ⟨rfl, rfl⟩
end Go.Proofs.Ytihbpkljjmpkjaa
