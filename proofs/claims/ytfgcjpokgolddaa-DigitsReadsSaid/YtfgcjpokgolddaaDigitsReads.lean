/- The walk of 'DigitsReads'. -/
import Derived.Test.YtfgcjpokgolddaaAwake6
set_option linter.unusedVariables false
set_option linter.unusedSimpArgs false
namespace Go.Proofs.Ytfgcjpokgolddaa
open Go.RowKit
set_option maxRecDepth 100000
set_option maxHeartbeats 4000000 in
theorem law_DigitsReads (A n c v) (s : ByteArray) (w : World)  (k1 : Dig .u8 256 w A n c v) (r1 : n ≤ 140737488351232) (r2 : s.size ≤ 140737488351232) :
    Calls Try.prog 5 #[.slice A n c, .string s] w (Ret w (.bool true)) := by
  rcases Nat.lt_or_ge 600 n with ha | ha
  · have hI : (600 : Int) < (n : Int) := by omega
    go_enter Try.func5, Try.ntmps5
    go_wp2_with fail
    refine (awake6 _).mono ?_
    rintro e w1 ⟨rfl, hb1⟩
    go_wp2_with fail
    go_ret
    exact ⟨rfl, (by with_reducible repeat (first | exact Below.refl _ _ | refine nxa ?_ _ | refine nxd ?_ _ | refine nxw ?_ | refine nx ?_ (by assumption)))⟩
  have hI : ¬ (600 : Int) < (n : Int) := by omega
  rcases Nat.lt_or_ge 600 s.size with hb | hb
  · have hJ : (600 : Int) < (s.size : Int) := by omega
    go_enter Try.func5, Try.ntmps5
    go_wp2_with fail
    refine (awake6 _).mono ?_
    rintro e w1 ⟨rfl, hb1⟩
    go_wp2_with fail
    go_ret
    exact ⟨rfl, (by with_reducible repeat (first | exact Below.refl _ _ | refine nxa ?_ _ | refine nxd ?_ _ | refine nxw ?_ | refine nx ?_ (by assumption)))⟩
  have hJ : ¬ (600 : Int) < (s.size : Int) := by omega
  go_enter Try.func5, Try.ntmps5
  go_wp2_with fail
  refine (awake6 _).mono ?_
  rintro e w1 ⟨rfl, hb1⟩
  go_wp2_with fail
  refine (digits_Parse _ _ _ _ _ (k1.to (by with_reducible repeat (first | exact Below.refl _ _ | refine nxa ?_ _ | refine nxd ?_ _ | refine nxw ?_ | refine nx ?_ (by assumption)))) (by omega)).mono ?_
  rintro e w2 ⟨A2, n2, c2, rfl, h2, hb2⟩
  have q2 := h2.le_of _ (pv_words n v)
  go_wp2_with fail
  have X1 := Blk1.newAt w2 (w2.heap.size) 25 (.slice A2 n2 c2) (by first | rfl | simp)
  have hbwe1 : Below w2.heap.size w2 (w2.alloc (.cells #[.slice A2 n2 c2] 25)) := (by with_reducible repeat (first | exact Below.refl _ _ | refine nxa ?_ _ | refine nxd ?_ _ | refine nxw ?_ | refine nx ?_ (by assumption)))
  generalize (w2.alloc (.cells #[.slice A2 n2 c2] 25)) = we1 at X1 hbwe1  ⊢
  refine (ref6_Parse _ _ _ _ _ (k1.to (by with_reducible repeat (first | exact Below.refl _ _ | refine nxa ?_ _ | refine nxd ?_ _ | refine nxw ?_ | refine nx ?_ (by assumption)))) (by omega)).mono ?_
  rintro e w3 ⟨A3, n3, c3, rfl, h3, hb3⟩
  have l3 := h3.le_of (by decide) _ (pv_ref n v)
  go_wp2_with fail
  refine (digits_Read s _ (by omega)).mono ?_
  rintro e w4 ⟨A4, n4, c4, rfl, h4, hb4⟩
  have q4 := h4.le_of _ (rdv_words s)
  go_wp2_with fail
  have X2 := Blk1.newAt w4 (w4.heap.size) 25 (.slice A4 n4 c4) (by first | rfl | simp)
  have hbwe2 : Below w4.heap.size w4 (w4.alloc (.cells #[.slice A4 n4 c4] 25)) := (by with_reducible repeat (first | exact Below.refl _ _ | refine nxa ?_ _ | refine nxd ?_ _ | refine nxw ?_ | refine nx ?_ (by assumption)))
  generalize (w4.alloc (.cells #[.slice A4 n4 c4] 25)) = we2 at X2 hbwe2  ⊢
  refine (ref6_Read s _ (by omega)).mono ?_
  rintro e w5 ⟨A5, n5, c5, rfl, h5, hb5⟩
  have l5 := h5.le_of (by decide) _ (rdv_ref s)
  have d1 := (show Blk1 w5 _ _ _ from X1.to (by with_reducible repeat (first | exact Below.refl _ _ | refine nxa ?_ _ | refine nxd ?_ _ | refine nxw ?_ | refine nx ?_ (by assumption)))).cell
  go_wp2_with fail
  clear d1
  refine (law_Like _ _ _ _ _ _ _ _ (h2.to (by with_reducible repeat (first | exact Below.refl _ _ | refine nxa ?_ _ | refine nxd ?_ _ | refine nxw ?_ | refine nx ?_ (by assumption)))) (h3.to (by with_reducible repeat (first | exact Below.refl _ _ | refine nxa ?_ _ | refine nxd ?_ _ | refine nxw ?_ | refine nx ?_ (by assumption)))) (by omega) (by omega)).mono ?_
  rintro e w6 ⟨rfl, hb6⟩
  have d2 := (show Blk1 w6 _ _ _ from X2.to (by with_reducible repeat (first | exact Below.refl _ _ | refine nxa ?_ _ | refine nxd ?_ _ | refine nxw ?_ | refine nx ?_ (by assumption)))).cell
  go_wp2_with fail
  clear d2
  refine (law_Like _ _ _ _ _ _ _ _ (h4.to (by with_reducible repeat (first | exact Below.refl _ _ | refine nxa ?_ _ | refine nxd ?_ _ | refine nxw ?_ | refine nx ?_ (by assumption)))) (h5.to (by with_reducible repeat (first | exact Below.refl _ _ | refine nxa ?_ _ | refine nxd ?_ _ | refine nxw ?_ | refine nx ?_ (by assumption)))) (by omega) (by omega)).mono ?_
  rintro e w7 ⟨rfl, hb7⟩
  go_wp2_with fail
  refine (digits_Plain _ _ _ _ _ (k1.to (by with_reducible repeat (first | exact Below.refl _ _ | refine nxa ?_ _ | refine nxd ?_ _ | refine nxw ?_ | refine nx ?_ (by assumption))))).mono ?_
  rintro e w8 ⟨rfl, rfl⟩
  go_wp2_with fail
  go_ret
  exact ⟨rfl, (by with_reducible repeat (first | exact Below.refl _ _ | refine nxa ?_ _ | refine nxd ?_ _ | refine nxw ?_ | refine nx ?_ (by assumption)))⟩
end Go.Proofs.Ytfgcjpokgolddaa
