/- The walk of 'DigitsSizes'. -/
import Derived.Test.YtfgcjpokgolddaaAwake6
set_option linter.unusedVariables false
set_option linter.unusedSimpArgs false
namespace Go.Proofs.Ytfgcjpokgolddaa
open Go.RowKit
set_option maxRecDepth 100000
/-- a text that may be a number's, as far as its first k letters tell -/
def pl (s : ByteArray) (k : Nat) : Prop := 0 < s.size ∧ (1 < s.size → sd s 0 ≠ 48) ∧ ∀ i, i < k → 48 ≤ sd s i ∧ sd s i ≤ 57
instance (s : ByteArray) (k : Nat) : Decidable (pl s k) := by unfold pl; infer_instance
theorem pl_succ {s : ByteArray} {k : Nat} : pl s (k + 1) ↔ pl s k ∧ 48 ≤ sd s k ∧ sd s k ≤ 57 := by
  unfold pl
  constructor
  · rintro ⟨h1, h2, h3⟩
    exact ⟨⟨h1, h2, fun i hi => h3 i (by omega)⟩, h3 k (by omega)⟩
  · rintro ⟨⟨h1, h2, h3⟩, h4⟩
    refine ⟨h1, h2, fun i hi => ?_⟩
    rcases Nat.lt_or_ge i k with h5 | h5
    · exact h3 i h5
    · obtain rfl : i = k := by omega
      exact h4
set_option maxHeartbeats 4000000 in
theorem law_DigitsSizes (A n c x) (s : ByteArray) (w : World) (k1 : Dig .u64 W w A n c x) (r1 : n ≤ 17592186043904) (r2 : s.size ≤ 140737488351232) :
    Calls Try.prog 4 #[.slice A n c, .string s] w (Ret w (.bool true)) := by
  by_cases hz : s.size = 0
  · skip
    have e1 := toList_empty hz
    have HP0 := Lib.hid (show ¬ pl s 0 from fun h => by have := h.1; omega)
    clear hz
    go_enter Try.func4, Try.ntmps4
    go_wp2_with fail
    refine (awake6 _).mono ?_
    rintro e w1 ⟨rfl, hb1⟩
    go_wp2_with fail
    refine (nat_Of _ _ _ _ _ (k1.to (by with_reducible repeat (first | exact Below.refl _ _ | refine nxa ?_ _ | refine nxd ?_ _ | refine nxw ?_ | refine nx ?_ (by assumption)))) (by omega)).mono ?_
    rintro e w2 ⟨A2, n2, c2, rfl, h2, hb2, m2⟩
    go_wp2_with fail
    have X1 := Blk1.newAt w2 (w2.heap.size) 25 (.slice A2 n2 c2) (by first | rfl | simp)
    have hbwe1 : Below w2.heap.size w2 (w2.alloc (.cells #[.slice A2 n2 c2] 25)) := (by with_reducible repeat (first | exact Below.refl _ _ | refine nxa ?_ _ | refine nxd ?_ _ | refine nxw ?_ | refine nx ?_ (by assumption)))
    generalize (w2.alloc (.cells #[.slice A2 n2 c2] 25)) = we1 at X1 hbwe1  ⊢
    refine (nat_Bits _ _ _ _ _ (h2.to (by with_reducible repeat (first | exact Below.refl _ _ | refine nxa ?_ _ | refine nxd ?_ _ | refine nxw ?_ | refine nx ?_ (by assumption)))) (by omega)).mono ?_
    rintro e w3 ⟨rfl, hb3⟩
    go_wp2_with fail
    clear e1
    go_loop [7, 8] (fun t7 t8 => ∃ k : Nat, k ≤ s.size ∧ t7 = .bool (decide (pl s k)) ∧ t8 = .int .i64 (k : Nat)) (fun _ t => s.size - (intOf t).toNat)
    case atStart => exact ⟨0, Nat.zero_le _, by first | rw [decide_eq_true HP0.out] | rw [decide_eq_false HP0.out], rfl⟩
    case round =>
      obtain ⟨k, hk, rfl, rfl⟩ := hrel
      by_cases hlt : k < s.size
      · have kI : (k : Int) < (s.size : Int) := by omega
        have SG := sd_get s
        have HS := Lib.hid (pl_succ (s := s) (k := k))
        by_cases hp : pl s k
        · have HP1 := Lib.hid (decide_eq_true hp)
          rw [HP1.out]
          have hc := sd_lt s k
          obtain ⟨c, hc0⟩ : ∃ c, c = sd s k := ⟨_, rfl⟩
          have SGa : ∀ h : k < s.size, (s[k]'h).toNat = c := fun h => (SG k h).trans hc0.symm
          have HC := Lib.hid hc0
          rw [← hc0] at hc
          have HP2 := Lib.hid hp
          clear hc0 SG hp
          by_cases c1 : c < 48
          · have c1I : ¬ 48 ≤ (c : Int) := by omega
            have HE := Lib.hid (decide_eq_false (show ¬ pl s (k + 1) from fun h => by have := HS.out.1 h; have := HC.out; omega))
            go_wp2_with fail
            go_round
            case rel => exact ⟨k + 1, by omega, by rw [HE.out], by go_num⟩
            case measure => simp [intOf]; omega
          · have c1I : 48 ≤ (c : Int) := by omega
            by_cases c2 : 57 < c
            · have c2I : ¬ (c : Int) ≤ 57 := by omega
              have HE := Lib.hid (decide_eq_false (show ¬ pl s (k + 1) from fun h => by have := HS.out.1 h; have := HC.out; omega))
              go_wp2_with fail
              go_round
              case rel => exact ⟨k + 1, by omega, by rw [HE.out], by go_num⟩
              case measure => simp [intOf]; omega
            · have c2I : (c : Int) ≤ 57 := by omega
              have HE := Lib.hid (decide_eq_true (show pl s (k + 1) from HS.out.2 ⟨HP2.out, by have := HC.out; omega⟩))
              go_wp2_with fail
              go_round
              case rel => exact ⟨k + 1, by omega, by rw [HE.out], by go_num⟩
              case measure => simp [intOf]; omega
        · have HP1 := Lib.hid (decide_eq_false hp)
          rw [HP1.out]
          have HE := Lib.hid (decide_eq_false (show ¬ pl s (k + 1) from fun h => hp (HS.out.1 h).1))
          clear hp SG
          go_wp2_with fail
          go_round
          case rel => exact ⟨k + 1, by omega, by rw [HE.out], by go_num⟩
          case measure => simp [intOf]; omega
      · obtain rfl : k = s.size := by omega
        rw [show decide (pl s s.size) = decide (okd s) from rfl]
        have f0 : blen x ≤ 64 * n := blen_le_of_lt (by rw [← W_pow]; exact k1.lt)
        have f1 : ((blen x : Nat) : Int) + 7 ≤ 9223372036854775807 := by omega
        have f2 : (((blen x : Nat) : Int) + 7) / 8 = ((bsize x : Nat) : Int) := by unfold bsize; omega
        have f3 : (((blen x : Nat) : Int) + 7).tdiv 8 = ((bsize x : Nat) : Int) := by rw [Int.tdiv_eq_ediv_of_nonneg (by omega)]; exact f2
        go_wp2_with fail
        refine (digits_Read s _ (by omega)).mono ?_
        rintro e w4 ⟨A4, n4, c4, rfl, h4, hb4⟩
        have q4 := h4.le_of _ (rdv_words s)
        have d1 := (show Blk1 (w4.alloc (.cells #[.slice A4 n4 c4] 25)) _ _ _ from X1.to (by with_reducible repeat (first | exact Below.refl _ _ | refine nxa ?_ _ | refine nxd ?_ _ | refine nxw ?_ | refine nx ?_ (by assumption)))).cell
        go_wp2_with fail
        clear d1
        have X2 := Blk1.newAt w4 (w4.heap.size) 25 (.slice A4 n4 c4) (by first | rfl | simp)
        have hbwe2 : Below w4.heap.size w4 (w4.alloc (.cells #[.slice A4 n4 c4] 25)) := (by with_reducible repeat (first | exact Below.refl _ _ | refine nxa ?_ _ | refine nxd ?_ _ | refine nxw ?_ | refine nx ?_ (by assumption)))
        generalize (w4.alloc (.cells #[.slice A4 n4 c4] 25)) = we2 at X2 hbwe2  ⊢
        refine (digits_Size _ _ _ _ _ (h2.to (by with_reducible repeat (first | exact Below.refl _ _ | refine nxa ?_ _ | refine nxd ?_ _ | refine nxw ?_ | refine nx ?_ (by assumption)))) (by omega)).mono ?_
        rintro e w5 ⟨rfl, hb5⟩
        go_wp2_with fail
        go_ret
        exact ⟨rfl, (by with_reducible repeat (first | exact Below.refl _ _ | refine nxa ?_ _ | refine nxd ?_ _ | refine nxw ?_ | refine nx ?_ (by assumption)))⟩
  have hz1 : 0 < s.size := by omega
  by_cases hz : s.size = 1 ∧ sd s 0 = 48
  · skip
    have e1 := toList_one hz.1 hz.2
    have HP0 := Lib.hid (show pl s 0 from ⟨by omega, fun h => absurd h (by omega), fun i hi => absurd hi (by omega)⟩)
    have e2 : (([48] : List UInt8) == ([] : List UInt8)) = false := by decide
    clear hz
    go_enter Try.func4, Try.ntmps4
    go_wp2_with fail
    refine (awake6 _).mono ?_
    rintro e w1 ⟨rfl, hb1⟩
    go_wp2_with fail
    refine (nat_Of _ _ _ _ _ (k1.to (by with_reducible repeat (first | exact Below.refl _ _ | refine nxa ?_ _ | refine nxd ?_ _ | refine nxw ?_ | refine nx ?_ (by assumption)))) (by omega)).mono ?_
    rintro e w2 ⟨A2, n2, c2, rfl, h2, hb2, m2⟩
    go_wp2_with fail
    have X1 := Blk1.newAt w2 (w2.heap.size) 25 (.slice A2 n2 c2) (by first | rfl | simp)
    have hbwe1 : Below w2.heap.size w2 (w2.alloc (.cells #[.slice A2 n2 c2] 25)) := (by with_reducible repeat (first | exact Below.refl _ _ | refine nxa ?_ _ | refine nxd ?_ _ | refine nxw ?_ | refine nx ?_ (by assumption)))
    generalize (w2.alloc (.cells #[.slice A2 n2 c2] 25)) = we1 at X1 hbwe1  ⊢
    refine (nat_Bits _ _ _ _ _ (h2.to (by with_reducible repeat (first | exact Below.refl _ _ | refine nxa ?_ _ | refine nxd ?_ _ | refine nxw ?_ | refine nx ?_ (by assumption)))) (by omega)).mono ?_
    rintro e w3 ⟨rfl, hb3⟩
    go_wp2_with fail
    clear e1 e2
    go_loop [7, 8] (fun t7 t8 => ∃ k : Nat, k ≤ s.size ∧ t7 = .bool (decide (pl s k)) ∧ t8 = .int .i64 (k : Nat)) (fun _ t => s.size - (intOf t).toNat)
    case atStart => exact ⟨0, Nat.zero_le _, by first | rw [decide_eq_true HP0.out] | rw [decide_eq_false HP0.out], rfl⟩
    case round =>
      obtain ⟨k, hk, rfl, rfl⟩ := hrel
      by_cases hlt : k < s.size
      · have kI : (k : Int) < (s.size : Int) := by omega
        have SG := sd_get s
        have HS := Lib.hid (pl_succ (s := s) (k := k))
        by_cases hp : pl s k
        · have HP1 := Lib.hid (decide_eq_true hp)
          rw [HP1.out]
          have hc := sd_lt s k
          obtain ⟨c, hc0⟩ : ∃ c, c = sd s k := ⟨_, rfl⟩
          have SGa : ∀ h : k < s.size, (s[k]'h).toNat = c := fun h => (SG k h).trans hc0.symm
          have HC := Lib.hid hc0
          rw [← hc0] at hc
          have HP2 := Lib.hid hp
          clear hc0 SG hp
          by_cases c1 : c < 48
          · have c1I : ¬ 48 ≤ (c : Int) := by omega
            have HE := Lib.hid (decide_eq_false (show ¬ pl s (k + 1) from fun h => by have := HS.out.1 h; have := HC.out; omega))
            go_wp2_with fail
            go_round
            case rel => exact ⟨k + 1, by omega, by rw [HE.out], by go_num⟩
            case measure => simp [intOf]; omega
          · have c1I : 48 ≤ (c : Int) := by omega
            by_cases c2 : 57 < c
            · have c2I : ¬ (c : Int) ≤ 57 := by omega
              have HE := Lib.hid (decide_eq_false (show ¬ pl s (k + 1) from fun h => by have := HS.out.1 h; have := HC.out; omega))
              go_wp2_with fail
              go_round
              case rel => exact ⟨k + 1, by omega, by rw [HE.out], by go_num⟩
              case measure => simp [intOf]; omega
            · have c2I : (c : Int) ≤ 57 := by omega
              have HE := Lib.hid (decide_eq_true (show pl s (k + 1) from HS.out.2 ⟨HP2.out, by have := HC.out; omega⟩))
              go_wp2_with fail
              go_round
              case rel => exact ⟨k + 1, by omega, by rw [HE.out], by go_num⟩
              case measure => simp [intOf]; omega
        · have HP1 := Lib.hid (decide_eq_false hp)
          rw [HP1.out]
          have HE := Lib.hid (decide_eq_false (show ¬ pl s (k + 1) from fun h => hp (HS.out.1 h).1))
          clear hp SG
          go_wp2_with fail
          go_round
          case rel => exact ⟨k + 1, by omega, by rw [HE.out], by go_num⟩
          case measure => simp [intOf]; omega
      · obtain rfl : k = s.size := by omega
        rw [show decide (pl s s.size) = decide (okd s) from rfl]
        have f0 : blen x ≤ 64 * n := blen_le_of_lt (by rw [← W_pow]; exact k1.lt)
        have f1 : ((blen x : Nat) : Int) + 7 ≤ 9223372036854775807 := by omega
        have f2 : (((blen x : Nat) : Int) + 7) / 8 = ((bsize x : Nat) : Int) := by unfold bsize; omega
        have f3 : (((blen x : Nat) : Int) + 7).tdiv 8 = ((bsize x : Nat) : Int) := by rw [Int.tdiv_eq_ediv_of_nonneg (by omega)]; exact f2
        go_wp2_with fail
        refine (digits_Read s _ (by omega)).mono ?_
        rintro e w4 ⟨A4, n4, c4, rfl, h4, hb4⟩
        have q4 := h4.le_of _ (rdv_words s)
        have d1 := (show Blk1 (w4.alloc (.cells #[.slice A4 n4 c4] 25)) _ _ _ from X1.to (by with_reducible repeat (first | exact Below.refl _ _ | refine nxa ?_ _ | refine nxd ?_ _ | refine nxw ?_ | refine nx ?_ (by assumption)))).cell
        go_wp2_with fail
        clear d1
        have X2 := Blk1.newAt w4 (w4.heap.size) 25 (.slice A4 n4 c4) (by first | rfl | simp)
        have hbwe2 : Below w4.heap.size w4 (w4.alloc (.cells #[.slice A4 n4 c4] 25)) := (by with_reducible repeat (first | exact Below.refl _ _ | refine nxa ?_ _ | refine nxd ?_ _ | refine nxw ?_ | refine nx ?_ (by assumption)))
        generalize (w4.alloc (.cells #[.slice A4 n4 c4] 25)) = we2 at X2 hbwe2  ⊢
        refine (digits_Size _ _ _ _ _ (h2.to (by with_reducible repeat (first | exact Below.refl _ _ | refine nxa ?_ _ | refine nxd ?_ _ | refine nxw ?_ | refine nx ?_ (by assumption)))) (by omega)).mono ?_
        rintro e w5 ⟨rfl, hb5⟩
        go_wp2_with fail
        go_ret
        exact ⟨rfl, (by with_reducible repeat (first | exact Below.refl _ _ | refine nxa ?_ _ | refine nxd ?_ _ | refine nxw ?_ | refine nx ?_ (by assumption)))⟩
  have hz2 := hz
  by_cases hz : sd s 0 = 48
  · skip
    have e1 := toList_some (s := s) (by omega)
    have e2 := isEmpty_some (s := s) (by omega)
    have e3 := toList_ne_one (s := s) (by omega)
    have e4 : (s.toList == [48]) = false := by simp [e3]
    have SG := sd_get s
    have hp0 : 0 < s.size := by omega
    have z1 : (((sd s 0 : Nat) : Int) != 48) = false := by simp; omega
    have HP0 := Lib.hid (show ¬ pl s 0 from fun h => h.2.1 (by omega) hz)
    clear hz
    go_enter Try.func4, Try.ntmps4
    go_wp2_with fail
    refine (awake6 _).mono ?_
    rintro e w1 ⟨rfl, hb1⟩
    go_wp2_with fail
    refine (nat_Of _ _ _ _ _ (k1.to (by with_reducible repeat (first | exact Below.refl _ _ | refine nxa ?_ _ | refine nxd ?_ _ | refine nxw ?_ | refine nx ?_ (by assumption)))) (by omega)).mono ?_
    rintro e w2 ⟨A2, n2, c2, rfl, h2, hb2, m2⟩
    go_wp2_with fail
    have X1 := Blk1.newAt w2 (w2.heap.size) 25 (.slice A2 n2 c2) (by first | rfl | simp)
    have hbwe1 : Below w2.heap.size w2 (w2.alloc (.cells #[.slice A2 n2 c2] 25)) := (by with_reducible repeat (first | exact Below.refl _ _ | refine nxa ?_ _ | refine nxd ?_ _ | refine nxw ?_ | refine nx ?_ (by assumption)))
    generalize (w2.alloc (.cells #[.slice A2 n2 c2] 25)) = we1 at X1 hbwe1  ⊢
    refine (nat_Bits _ _ _ _ _ (h2.to (by with_reducible repeat (first | exact Below.refl _ _ | refine nxa ?_ _ | refine nxd ?_ _ | refine nxw ?_ | refine nx ?_ (by assumption)))) (by omega)).mono ?_
    rintro e w3 ⟨rfl, hb3⟩
    go_wp2_with fail
    clear e1 e2 e3 e4 SG z1
    go_loop [7, 8] (fun t7 t8 => ∃ k : Nat, k ≤ s.size ∧ t7 = .bool (decide (pl s k)) ∧ t8 = .int .i64 (k : Nat)) (fun _ t => s.size - (intOf t).toNat)
    case atStart => exact ⟨0, Nat.zero_le _, by first | rw [decide_eq_true HP0.out] | rw [decide_eq_false HP0.out], rfl⟩
    case round =>
      obtain ⟨k, hk, rfl, rfl⟩ := hrel
      by_cases hlt : k < s.size
      · have kI : (k : Int) < (s.size : Int) := by omega
        have SG := sd_get s
        have HS := Lib.hid (pl_succ (s := s) (k := k))
        by_cases hp : pl s k
        · have HP1 := Lib.hid (decide_eq_true hp)
          rw [HP1.out]
          have hc := sd_lt s k
          obtain ⟨c, hc0⟩ : ∃ c, c = sd s k := ⟨_, rfl⟩
          have SGa : ∀ h : k < s.size, (s[k]'h).toNat = c := fun h => (SG k h).trans hc0.symm
          have HC := Lib.hid hc0
          rw [← hc0] at hc
          have HP2 := Lib.hid hp
          clear hc0 SG hp
          by_cases c1 : c < 48
          · have c1I : ¬ 48 ≤ (c : Int) := by omega
            have HE := Lib.hid (decide_eq_false (show ¬ pl s (k + 1) from fun h => by have := HS.out.1 h; have := HC.out; omega))
            go_wp2_with fail
            go_round
            case rel => exact ⟨k + 1, by omega, by rw [HE.out], by go_num⟩
            case measure => simp [intOf]; omega
          · have c1I : 48 ≤ (c : Int) := by omega
            by_cases c2 : 57 < c
            · have c2I : ¬ (c : Int) ≤ 57 := by omega
              have HE := Lib.hid (decide_eq_false (show ¬ pl s (k + 1) from fun h => by have := HS.out.1 h; have := HC.out; omega))
              go_wp2_with fail
              go_round
              case rel => exact ⟨k + 1, by omega, by rw [HE.out], by go_num⟩
              case measure => simp [intOf]; omega
            · have c2I : (c : Int) ≤ 57 := by omega
              have HE := Lib.hid (decide_eq_true (show pl s (k + 1) from HS.out.2 ⟨HP2.out, by have := HC.out; omega⟩))
              go_wp2_with fail
              go_round
              case rel => exact ⟨k + 1, by omega, by rw [HE.out], by go_num⟩
              case measure => simp [intOf]; omega
        · have HP1 := Lib.hid (decide_eq_false hp)
          rw [HP1.out]
          have HE := Lib.hid (decide_eq_false (show ¬ pl s (k + 1) from fun h => hp (HS.out.1 h).1))
          clear hp SG
          go_wp2_with fail
          go_round
          case rel => exact ⟨k + 1, by omega, by rw [HE.out], by go_num⟩
          case measure => simp [intOf]; omega
      · obtain rfl : k = s.size := by omega
        rw [show decide (pl s s.size) = decide (okd s) from rfl]
        have f0 : blen x ≤ 64 * n := blen_le_of_lt (by rw [← W_pow]; exact k1.lt)
        have f1 : ((blen x : Nat) : Int) + 7 ≤ 9223372036854775807 := by omega
        have f2 : (((blen x : Nat) : Int) + 7) / 8 = ((bsize x : Nat) : Int) := by unfold bsize; omega
        have f3 : (((blen x : Nat) : Int) + 7).tdiv 8 = ((bsize x : Nat) : Int) := by rw [Int.tdiv_eq_ediv_of_nonneg (by omega)]; exact f2
        go_wp2_with fail
        refine (digits_Read s _ (by omega)).mono ?_
        rintro e w4 ⟨A4, n4, c4, rfl, h4, hb4⟩
        have q4 := h4.le_of _ (rdv_words s)
        have d1 := (show Blk1 (w4.alloc (.cells #[.slice A4 n4 c4] 25)) _ _ _ from X1.to (by with_reducible repeat (first | exact Below.refl _ _ | refine nxa ?_ _ | refine nxd ?_ _ | refine nxw ?_ | refine nx ?_ (by assumption)))).cell
        go_wp2_with fail
        clear d1
        have X2 := Blk1.newAt w4 (w4.heap.size) 25 (.slice A4 n4 c4) (by first | rfl | simp)
        have hbwe2 : Below w4.heap.size w4 (w4.alloc (.cells #[.slice A4 n4 c4] 25)) := (by with_reducible repeat (first | exact Below.refl _ _ | refine nxa ?_ _ | refine nxd ?_ _ | refine nxw ?_ | refine nx ?_ (by assumption)))
        generalize (w4.alloc (.cells #[.slice A4 n4 c4] 25)) = we2 at X2 hbwe2  ⊢
        refine (digits_Size _ _ _ _ _ (h2.to (by with_reducible repeat (first | exact Below.refl _ _ | refine nxa ?_ _ | refine nxd ?_ _ | refine nxw ?_ | refine nx ?_ (by assumption)))) (by omega)).mono ?_
        rintro e w5 ⟨rfl, hb5⟩
        go_wp2_with fail
        go_ret
        exact ⟨rfl, (by with_reducible repeat (first | exact Below.refl _ _ | refine nxa ?_ _ | refine nxd ?_ _ | refine nxw ?_ | refine nx ?_ (by assumption)))⟩
  have hz3 := hz
  have e1 := toList_some (s := s) (by omega)
  have e2 := isEmpty_some (s := s) (by omega)
  have e4 : (s.toList == [48]) = false := by simp only [beq_eq_false_iff_ne, ne_eq]; exact fun e => hz3 (by unfold sd; rw [← ByteArray.toList_eq, e]; rfl)
  have SG := sd_get s
  have hp0 : 0 < s.size := by omega
  have z1 : (((sd s 0 : Nat) : Int) != 48) = true := by simp; omega
  have HP0 := Lib.hid (show pl s 0 from ⟨by omega, fun _ => hz3, fun i hi => absurd hi (by omega)⟩)
  clear hz3
  go_enter Try.func4, Try.ntmps4
  go_wp2_with fail
  refine (awake6 _).mono ?_
  rintro e w1 ⟨rfl, hb1⟩
  go_wp2_with fail
  refine (nat_Of _ _ _ _ _ (k1.to (by with_reducible repeat (first | exact Below.refl _ _ | refine nxa ?_ _ | refine nxd ?_ _ | refine nxw ?_ | refine nx ?_ (by assumption)))) (by omega)).mono ?_
  rintro e w2 ⟨A2, n2, c2, rfl, h2, hb2, m2⟩
  go_wp2_with fail
  have X1 := Blk1.newAt w2 (w2.heap.size) 25 (.slice A2 n2 c2) (by first | rfl | simp)
  have hbwe1 : Below w2.heap.size w2 (w2.alloc (.cells #[.slice A2 n2 c2] 25)) := (by with_reducible repeat (first | exact Below.refl _ _ | refine nxa ?_ _ | refine nxd ?_ _ | refine nxw ?_ | refine nx ?_ (by assumption)))
  generalize (w2.alloc (.cells #[.slice A2 n2 c2] 25)) = we1 at X1 hbwe1  ⊢
  refine (nat_Bits _ _ _ _ _ (h2.to (by with_reducible repeat (first | exact Below.refl _ _ | refine nxa ?_ _ | refine nxd ?_ _ | refine nxw ?_ | refine nx ?_ (by assumption)))) (by omega)).mono ?_
  rintro e w3 ⟨rfl, hb3⟩
  go_wp2_with fail
  clear e1 e2 e4 SG z1
  go_loop [7, 8] (fun t7 t8 => ∃ k : Nat, k ≤ s.size ∧ t7 = .bool (decide (pl s k)) ∧ t8 = .int .i64 (k : Nat)) (fun _ t => s.size - (intOf t).toNat)
  case atStart => exact ⟨0, Nat.zero_le _, by first | rw [decide_eq_true HP0.out] | rw [decide_eq_false HP0.out], rfl⟩
  case round =>
    obtain ⟨k, hk, rfl, rfl⟩ := hrel
    by_cases hlt : k < s.size
    · have kI : (k : Int) < (s.size : Int) := by omega
      have SG := sd_get s
      have HS := Lib.hid (pl_succ (s := s) (k := k))
      by_cases hp : pl s k
      · have HP1 := Lib.hid (decide_eq_true hp)
        rw [HP1.out]
        have hc := sd_lt s k
        obtain ⟨c, hc0⟩ : ∃ c, c = sd s k := ⟨_, rfl⟩
        have SGa : ∀ h : k < s.size, (s[k]'h).toNat = c := fun h => (SG k h).trans hc0.symm
        have HC := Lib.hid hc0
        rw [← hc0] at hc
        have HP2 := Lib.hid hp
        clear hc0 SG hp
        by_cases c1 : c < 48
        · have c1I : ¬ 48 ≤ (c : Int) := by omega
          have HE := Lib.hid (decide_eq_false (show ¬ pl s (k + 1) from fun h => by have := HS.out.1 h; have := HC.out; omega))
          go_wp2_with fail
          go_round
          case rel => exact ⟨k + 1, by omega, by rw [HE.out], by go_num⟩
          case measure => simp [intOf]; omega
        · have c1I : 48 ≤ (c : Int) := by omega
          by_cases c2 : 57 < c
          · have c2I : ¬ (c : Int) ≤ 57 := by omega
            have HE := Lib.hid (decide_eq_false (show ¬ pl s (k + 1) from fun h => by have := HS.out.1 h; have := HC.out; omega))
            go_wp2_with fail
            go_round
            case rel => exact ⟨k + 1, by omega, by rw [HE.out], by go_num⟩
            case measure => simp [intOf]; omega
          · have c2I : (c : Int) ≤ 57 := by omega
            have HE := Lib.hid (decide_eq_true (show pl s (k + 1) from HS.out.2 ⟨HP2.out, by have := HC.out; omega⟩))
            go_wp2_with fail
            go_round
            case rel => exact ⟨k + 1, by omega, by rw [HE.out], by go_num⟩
            case measure => simp [intOf]; omega
      · have HP1 := Lib.hid (decide_eq_false hp)
        rw [HP1.out]
        have HE := Lib.hid (decide_eq_false (show ¬ pl s (k + 1) from fun h => hp (HS.out.1 h).1))
        clear hp SG
        go_wp2_with fail
        go_round
        case rel => exact ⟨k + 1, by omega, by rw [HE.out], by go_num⟩
        case measure => simp [intOf]; omega
    · obtain rfl : k = s.size := by omega
      rw [show decide (pl s s.size) = decide (okd s) from rfl]
      have f0 : blen x ≤ 64 * n := blen_le_of_lt (by rw [← W_pow]; exact k1.lt)
      have f1 : ((blen x : Nat) : Int) + 7 ≤ 9223372036854775807 := by omega
      have f2 : (((blen x : Nat) : Int) + 7) / 8 = ((bsize x : Nat) : Int) := by unfold bsize; omega
      have f3 : (((blen x : Nat) : Int) + 7).tdiv 8 = ((bsize x : Nat) : Int) := by rw [Int.tdiv_eq_ediv_of_nonneg (by omega)]; exact f2
      go_wp2_with fail
      refine (digits_Read s _ (by omega)).mono ?_
      rintro e w4 ⟨A4, n4, c4, rfl, h4, hb4⟩
      have q4 := h4.le_of _ (rdv_words s)
      have d1 := (show Blk1 (w4.alloc (.cells #[.slice A4 n4 c4] 25)) _ _ _ from X1.to (by with_reducible repeat (first | exact Below.refl _ _ | refine nxa ?_ _ | refine nxd ?_ _ | refine nxw ?_ | refine nx ?_ (by assumption)))).cell
      go_wp2_with fail
      clear d1
      have X2 := Blk1.newAt w4 (w4.heap.size) 25 (.slice A4 n4 c4) (by first | rfl | simp)
      have hbwe2 : Below w4.heap.size w4 (w4.alloc (.cells #[.slice A4 n4 c4] 25)) := (by with_reducible repeat (first | exact Below.refl _ _ | refine nxa ?_ _ | refine nxd ?_ _ | refine nxw ?_ | refine nx ?_ (by assumption)))
      generalize (w4.alloc (.cells #[.slice A4 n4 c4] 25)) = we2 at X2 hbwe2  ⊢
      refine (digits_Size _ _ _ _ _ (h2.to (by with_reducible repeat (first | exact Below.refl _ _ | refine nxa ?_ _ | refine nxd ?_ _ | refine nxw ?_ | refine nx ?_ (by assumption)))) (by omega)).mono ?_
      rintro e w5 ⟨rfl, hb5⟩
      go_wp2_with fail
      go_ret
      exact ⟨rfl, (by with_reducible repeat (first | exact Below.refl _ _ | refine nxa ?_ _ | refine nxd ?_ _ | refine nxw ?_ | refine nx ?_ (by assumption)))⟩
end Go.Proofs.Ytfgcjpokgolddaa
