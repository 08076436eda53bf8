/- The walk of 'QuotDivides'. -/
import Derived.Test.YtflleaifmeiikaaAwake4
import Derived.Test.YtflleaifmeiikaaRef4
set_option linter.unusedVariables false
set_option linter.unusedSimpArgs false
namespace Go.Proofs.Ytflleaifmeiikaa
open Go.RowKit
set_option maxRecDepth 100000
set_option maxHeartbeats 4000000 in
theorem law_QuotDivides (A n c x) (A' n' c' y) (m : Nat) (w : World) (k1 : Dig .u64 W w A n c x) (k2 : Dig .u64 W w A' n' c' y) (r1 : n ≤ 17592186043904) (r2 : n' ≤ 17592186043904) (hmw : m < W) :
    Calls Try.prog 5 #[.slice A n c, .slice A' n' c', .int .u64 (m : Nat)] w (Ret w (.bool true)) := by
  rcases Nat.lt_or_ge 40 n with ha | ha
  · have hI : (40 : Int) < (n : Int) := by omega
    go_enter Try.func5, Try.ntmps5
    go_wp2_with fail
    refine (awake4 _).mono ?_
    rintro e w1 ⟨rfl, hb1⟩
    go_wp2_with fail
    go_ret
    exact ⟨rfl, (by with_reducible repeat (first | exact Below.refl _ _ | refine nxa ?_ _ | refine nxd ?_ _ | refine nxw ?_ | refine nx ?_ (by assumption)))⟩
  have hI : ¬ (40 : Int) < (n : Int) := by omega
  rcases Nat.lt_or_ge 40 n' with hb | hb
  · have hJ : (40 : Int) < (n' : Int) := by omega
    go_enter Try.func5, Try.ntmps5
    go_wp2_with fail
    refine (awake4 _).mono ?_
    rintro e w1 ⟨rfl, hb1⟩
    go_wp2_with fail
    go_ret
    exact ⟨rfl, (by with_reducible repeat (first | exact Below.refl _ _ | refine nxa ?_ _ | refine nxd ?_ _ | refine nxw ?_ | refine nx ?_ (by assumption)))⟩
  have hJ : ¬ (40 : Int) < (n' : Int) := by omega
  by_cases hy0 : y = 0
  · by_cases hx0 : x = 0
    · have HD := Lib.hid (decide_eq_true (show y ∣ x by rw [hx0]; exact Nat.dvd_zero _))
      have HX0 := Lib.hid hx0
      have HY0 := Lib.hid hy0
      clear hx0 hy0
      by_cases hm0 : m = 0
      · subst hm0
        go_enter Try.func5, Try.ntmps5
        go_wp2_with fail
        refine (awake4 _).mono ?_
        rintro e w1 ⟨rfl, hb1⟩
        go_wp2_with fail
        refine (nat_Of _ _ _ _ _ (k1.to (by with_reducible repeat (first | exact Below.refl _ _ | refine nxa ?_ _ | refine nxd ?_ _ | refine nxw ?_ | refine nx ?_ (by assumption)))) (by omega)).mono ?_
        rintro e w2 ⟨A2, n2, c2, rfl, h2, hb2, m2⟩
        go_wp2_with fail
        refine (nat_Of _ _ _ _ _ (k2.to (by with_reducible repeat (first | exact Below.refl _ _ | refine nxa ?_ _ | refine nxd ?_ _ | refine nxw ?_ | refine nx ?_ (by assumption)))) (by omega)).mono ?_
        rintro e w3 ⟨A3, n3, c3, rfl, h3, hb3, m3⟩
        go_wp2_with fail
        have X1 := Blk1.newAt w3 (w3.heap.size) 25 (.slice A2 n2 c2) (by first | rfl | simp)
        have X2 := Blk1.newAt (w3.alloc (.cells #[.slice A2 n2 c2] 25)) (w3.heap.size + 1) 25 (.slice A3 n3 c3) (by first | rfl | simp)
        replace X1 := (show Blk1 ((w3.alloc (.cells #[.slice A2 n2 c2] 25)).alloc (.cells #[.slice A3 n3 c3] 25)) _ _ _ from X1.to (by with_reducible repeat (first | exact Below.refl _ _ | refine nxa ?_ _ | refine nxd ?_ _ | refine nxw ?_ | refine nx ?_ (by assumption))))
        have hbwe1 : Below w3.heap.size w3 ((w3.alloc (.cells #[.slice A2 n2 c2] 25)).alloc (.cells #[.slice A3 n3 c3] 25)) := (by with_reducible repeat (first | exact Below.refl _ _ | refine nxa ?_ _ | refine nxd ?_ _ | refine nxw ?_ | refine nx ?_ (by assumption)))
        generalize ((w3.alloc (.cells #[.slice A2 n2 c2] 25)).alloc (.cells #[.slice A3 n3 c3] 25)) = we1 at X1 X2 hbwe1  ⊢
        refine (ref2_Of _ _ _ _ _ (k1.to (by with_reducible repeat (first | exact Below.refl _ _ | refine nxa ?_ _ | refine nxd ?_ _ | refine nxw ?_ | refine nx ?_ (by assumption)))) (by omega)).mono ?_
        rintro e w4 ⟨A4, n4, c4, rfl, h4, hb4, hf4⟩
        have l4 := ref_len h4 k1.lt
        obtain rfl : n4 = 0 := (h4.zero_iff (by decide)).1 HX0.out
        go_wp2_with fail
        refine (ref2_Of _ _ _ _ _ (k2.to (by with_reducible repeat (first | exact Below.refl _ _ | refine nxa ?_ _ | refine nxd ?_ _ | refine nxw ?_ | refine nx ?_ (by assumption)))) (by omega)).mono ?_
        rintro e w5 ⟨A5, n5, c5, rfl, h5, hb5, hf5⟩
        have l5 := ref_len h5 k2.lt
        obtain rfl : n5 = 0 := (h5.zero_iff (by decide)).1 HY0.out
        have d1 := (show Blk1 w5 _ _ _ from X1.to (by with_reducible repeat (first | exact Below.refl _ _ | refine nxa ?_ _ | refine nxd ?_ _ | refine nxw ?_ | refine nx ?_ (by assumption)))).cell
        have d2 := (show Blk1 w5 _ _ _ from X2.to (by with_reducible repeat (first | exact Below.refl _ _ | refine nxa ?_ _ | refine nxd ?_ _ | refine nxw ?_ | refine nx ?_ (by assumption)))).cell
        go_wp2_with fail
        clear d1 d2
        refine (quot_DivMod_zero _ _ _ _ _ _ _ _ _ (h2.to (by with_reducible repeat (first | exact Below.refl _ _ | refine nxa ?_ _ | refine nxd ?_ _ | refine nxw ?_ | refine nx ?_ (by assumption)))) (h3.to (by with_reducible repeat (first | exact Below.refl _ _ | refine nxa ?_ _ | refine nxd ?_ _ | refine nxw ?_ | refine nx ?_ (by assumption)))) (by omega) HY0.out).mono ?_
        rintro e w6 ⟨A6, n6, c6, A6', n6', c6', rfl, h6, h6', hb6⟩
        have q6 := h6.le_of 0 (by decide)
        have q6' := h6'.le_of 0 (by decide)
        go_wp2_with fail
        have X3 := Blk1.newAt w6 (w6.heap.size) 25 (.slice A6 n6 c6) (by first | rfl | simp)
        have X4 := Blk1.newAt (w6.alloc (.cells #[.slice A6 n6 c6] 25)) (w6.heap.size + 1) 25 (.slice A6' n6' c6') (by first | rfl | simp)
        replace X3 := (show Blk1 ((w6.alloc (.cells #[.slice A6 n6 c6] 25)).alloc (.cells #[.slice A6' n6' c6'] 25)) _ _ _ from X3.to (by with_reducible repeat (first | exact Below.refl _ _ | refine nxa ?_ _ | refine nxd ?_ _ | refine nxw ?_ | refine nx ?_ (by assumption))))
        have hbwe2 : Below w6.heap.size w6 ((w6.alloc (.cells #[.slice A6 n6 c6] 25)).alloc (.cells #[.slice A6' n6' c6'] 25)) := (by with_reducible repeat (first | exact Below.refl _ _ | refine nxa ?_ _ | refine nxd ?_ _ | refine nxw ?_ | refine nx ?_ (by assumption)))
        generalize ((w6.alloc (.cells #[.slice A6 n6 c6] 25)).alloc (.cells #[.slice A6' n6' c6'] 25)) = we2 at X3 X4 hbwe2  ⊢
        refine (nat_Zero _ _ _ _ _ (h6.to (by with_reducible repeat (first | exact Below.refl _ _ | refine nxa ?_ _ | refine nxd ?_ _ | refine nxw ?_ | refine nx ?_ (by assumption))))).mono ?_
        rw [decide_eq_true (show (0 : Nat) = 0 from rfl)]
        rintro e w7 ⟨rfl, hb7⟩
        have d3 := (show Blk1 w7 _ _ _ from X4.to (by with_reducible repeat (first | exact Below.refl _ _ | refine nxa ?_ _ | refine nxd ?_ _ | refine nxw ?_ | refine nx ?_ (by assumption)))).cell
        go_wp2_with fail
        clear d3
        refine (nat_Zero _ _ _ _ _ (h6'.to (by with_reducible repeat (first | exact Below.refl _ _ | refine nxa ?_ _ | refine nxd ?_ _ | refine nxw ?_ | refine nx ?_ (by assumption))))).mono ?_
        rw [decide_eq_true (show (0 : Nat) = 0 from rfl)]
        rintro e w8 ⟨rfl, hb8⟩
        have d4 := (show Blk1 w8 _ _ _ from X2.to (by with_reducible repeat (first | exact Below.refl _ _ | refine nxa ?_ _ | refine nxd ?_ _ | refine nxw ?_ | refine nx ?_ (by assumption)))).cell
        have d5 := (show Blk1 w8 _ _ _ from X1.to (by with_reducible repeat (first | exact Below.refl _ _ | refine nxa ?_ _ | refine nxd ?_ _ | refine nxw ?_ | refine nx ?_ (by assumption)))).cell
        go_wp2_with fail
        clear d4 d5
        refine (quot_Divides _ _ _ _ _ _ _ _ _ (h3.to (by with_reducible repeat (first | exact Below.refl _ _ | refine nxa ?_ _ | refine nxd ?_ _ | refine nxw ?_ | refine nx ?_ (by assumption)))) (h2.to (by with_reducible repeat (first | exact Below.refl _ _ | refine nxa ?_ _ | refine nxd ?_ _ | refine nxw ?_ | refine nx ?_ (by assumption)))) (by omega)).mono ?_
        rw [HD.out]
        rintro e w9 ⟨rfl, hb9⟩
        have d6 := (show Blk1 w9 _ _ _ from X1.to (by with_reducible repeat (first | exact Below.refl _ _ | refine nxa ?_ _ | refine nxd ?_ _ | refine nxw ?_ | refine nx ?_ (by assumption)))).cell
        go_wp2_with fail
        clear d6
        refine (quot_ByWord_no _ _ _ _).mono ?_
        rintro e w10 ⟨A10, n10, c10, rfl, h10, hb10⟩
        have q10 := h10.le_of 0 (by decide)
        go_wp2_with fail
        have X5 := Blk1.newAt w10 (w10.heap.size) 25 (.slice A10 n10 c10) (by first | rfl | simp)
        have hbwe3 : Below w10.heap.size w10 (w10.alloc (.cells #[.slice A10 n10 c10] 25)) := (by with_reducible repeat (first | exact Below.refl _ _ | refine nxa ?_ _ | refine nxd ?_ _ | refine nxw ?_ | refine nx ?_ (by assumption)))
        generalize (w10.alloc (.cells #[.slice A10 n10 c10] 25)) = we3 at X5 hbwe3  ⊢
        refine (nat_Zero _ _ _ _ _ (h10.to (by with_reducible repeat (first | exact Below.refl _ _ | refine nxa ?_ _ | refine nxd ?_ _ | refine nxw ?_ | refine nx ?_ (by assumption))))).mono ?_
        rw [decide_eq_true (show (0 : Nat) = 0 from rfl)]
        rintro e w11 ⟨rfl, hb11⟩
        go_wp2_with fail
        go_ret
        exact ⟨rfl, (by with_reducible repeat (first | exact Below.refl _ _ | refine nxa ?_ _ | refine nxd ?_ _ | refine nxw ?_ | refine nx ?_ (by assumption)))⟩
      · have hm : 0 < m := by omega
        have hmz : ((m : Int) == 0) = false := by simp; omega
        have HLM := Lib.hid (Nat.lt_trans (Nat.mod_lt x hm) hmw)
        clear hm0
        go_enter Try.func5, Try.ntmps5
        go_wp2_with fail
        refine (awake4 _).mono ?_
        rintro e w1 ⟨rfl, hb1⟩
        go_wp2_with fail
        refine (nat_Of _ _ _ _ _ (k1.to (by with_reducible repeat (first | exact Below.refl _ _ | refine nxa ?_ _ | refine nxd ?_ _ | refine nxw ?_ | refine nx ?_ (by assumption)))) (by omega)).mono ?_
        rintro e w2 ⟨A2, n2, c2, rfl, h2, hb2, m2⟩
        go_wp2_with fail
        refine (nat_Of _ _ _ _ _ (k2.to (by with_reducible repeat (first | exact Below.refl _ _ | refine nxa ?_ _ | refine nxd ?_ _ | refine nxw ?_ | refine nx ?_ (by assumption)))) (by omega)).mono ?_
        rintro e w3 ⟨A3, n3, c3, rfl, h3, hb3, m3⟩
        go_wp2_with fail
        have X1 := Blk1.newAt w3 (w3.heap.size) 25 (.slice A2 n2 c2) (by first | rfl | simp)
        have X2 := Blk1.newAt (w3.alloc (.cells #[.slice A2 n2 c2] 25)) (w3.heap.size + 1) 25 (.slice A3 n3 c3) (by first | rfl | simp)
        replace X1 := (show Blk1 ((w3.alloc (.cells #[.slice A2 n2 c2] 25)).alloc (.cells #[.slice A3 n3 c3] 25)) _ _ _ from X1.to (by with_reducible repeat (first | exact Below.refl _ _ | refine nxa ?_ _ | refine nxd ?_ _ | refine nxw ?_ | refine nx ?_ (by assumption))))
        have hbwe1 : Below w3.heap.size w3 ((w3.alloc (.cells #[.slice A2 n2 c2] 25)).alloc (.cells #[.slice A3 n3 c3] 25)) := (by with_reducible repeat (first | exact Below.refl _ _ | refine nxa ?_ _ | refine nxd ?_ _ | refine nxw ?_ | refine nx ?_ (by assumption)))
        generalize ((w3.alloc (.cells #[.slice A2 n2 c2] 25)).alloc (.cells #[.slice A3 n3 c3] 25)) = we1 at X1 X2 hbwe1  ⊢
        refine (ref2_Of _ _ _ _ _ (k1.to (by with_reducible repeat (first | exact Below.refl _ _ | refine nxa ?_ _ | refine nxd ?_ _ | refine nxw ?_ | refine nx ?_ (by assumption)))) (by omega)).mono ?_
        rintro e w4 ⟨A4, n4, c4, rfl, h4, hb4, hf4⟩
        have l4 := ref_len h4 k1.lt
        obtain rfl : n4 = 0 := (h4.zero_iff (by decide)).1 HX0.out
        go_wp2_with fail
        refine (ref2_Of _ _ _ _ _ (k2.to (by with_reducible repeat (first | exact Below.refl _ _ | refine nxa ?_ _ | refine nxd ?_ _ | refine nxw ?_ | refine nx ?_ (by assumption)))) (by omega)).mono ?_
        rintro e w5 ⟨A5, n5, c5, rfl, h5, hb5, hf5⟩
        have l5 := ref_len h5 k2.lt
        obtain rfl : n5 = 0 := (h5.zero_iff (by decide)).1 HY0.out
        have d1 := (show Blk1 w5 _ _ _ from X1.to (by with_reducible repeat (first | exact Below.refl _ _ | refine nxa ?_ _ | refine nxd ?_ _ | refine nxw ?_ | refine nx ?_ (by assumption)))).cell
        have d2 := (show Blk1 w5 _ _ _ from X2.to (by with_reducible repeat (first | exact Below.refl _ _ | refine nxa ?_ _ | refine nxd ?_ _ | refine nxw ?_ | refine nx ?_ (by assumption)))).cell
        go_wp2_with fail
        clear d1 d2
        refine (quot_DivMod_zero _ _ _ _ _ _ _ _ _ (h2.to (by with_reducible repeat (first | exact Below.refl _ _ | refine nxa ?_ _ | refine nxd ?_ _ | refine nxw ?_ | refine nx ?_ (by assumption)))) (h3.to (by with_reducible repeat (first | exact Below.refl _ _ | refine nxa ?_ _ | refine nxd ?_ _ | refine nxw ?_ | refine nx ?_ (by assumption)))) (by omega) HY0.out).mono ?_
        rintro e w6 ⟨A6, n6, c6, A6', n6', c6', rfl, h6, h6', hb6⟩
        have q6 := h6.le_of 0 (by decide)
        have q6' := h6'.le_of 0 (by decide)
        go_wp2_with fail
        have X3 := Blk1.newAt w6 (w6.heap.size) 25 (.slice A6 n6 c6) (by first | rfl | simp)
        have X4 := Blk1.newAt (w6.alloc (.cells #[.slice A6 n6 c6] 25)) (w6.heap.size + 1) 25 (.slice A6' n6' c6') (by first | rfl | simp)
        replace X3 := (show Blk1 ((w6.alloc (.cells #[.slice A6 n6 c6] 25)).alloc (.cells #[.slice A6' n6' c6'] 25)) _ _ _ from X3.to (by with_reducible repeat (first | exact Below.refl _ _ | refine nxa ?_ _ | refine nxd ?_ _ | refine nxw ?_ | refine nx ?_ (by assumption))))
        have hbwe2 : Below w6.heap.size w6 ((w6.alloc (.cells #[.slice A6 n6 c6] 25)).alloc (.cells #[.slice A6' n6' c6'] 25)) := (by with_reducible repeat (first | exact Below.refl _ _ | refine nxa ?_ _ | refine nxd ?_ _ | refine nxw ?_ | refine nx ?_ (by assumption)))
        generalize ((w6.alloc (.cells #[.slice A6 n6 c6] 25)).alloc (.cells #[.slice A6' n6' c6'] 25)) = we2 at X3 X4 hbwe2  ⊢
        refine (nat_Zero _ _ _ _ _ (h6.to (by with_reducible repeat (first | exact Below.refl _ _ | refine nxa ?_ _ | refine nxd ?_ _ | refine nxw ?_ | refine nx ?_ (by assumption))))).mono ?_
        rw [decide_eq_true (show (0 : Nat) = 0 from rfl)]
        rintro e w7 ⟨rfl, hb7⟩
        have d3 := (show Blk1 w7 _ _ _ from X4.to (by with_reducible repeat (first | exact Below.refl _ _ | refine nxa ?_ _ | refine nxd ?_ _ | refine nxw ?_ | refine nx ?_ (by assumption)))).cell
        go_wp2_with fail
        clear d3
        refine (nat_Zero _ _ _ _ _ (h6'.to (by with_reducible repeat (first | exact Below.refl _ _ | refine nxa ?_ _ | refine nxd ?_ _ | refine nxw ?_ | refine nx ?_ (by assumption))))).mono ?_
        rw [decide_eq_true (show (0 : Nat) = 0 from rfl)]
        rintro e w8 ⟨rfl, hb8⟩
        have d4 := (show Blk1 w8 _ _ _ from X2.to (by with_reducible repeat (first | exact Below.refl _ _ | refine nxa ?_ _ | refine nxd ?_ _ | refine nxw ?_ | refine nx ?_ (by assumption)))).cell
        have d5 := (show Blk1 w8 _ _ _ from X1.to (by with_reducible repeat (first | exact Below.refl _ _ | refine nxa ?_ _ | refine nxd ?_ _ | refine nxw ?_ | refine nx ?_ (by assumption)))).cell
        go_wp2_with fail
        clear d4 d5
        refine (quot_Divides _ _ _ _ _ _ _ _ _ (h3.to (by with_reducible repeat (first | exact Below.refl _ _ | refine nxa ?_ _ | refine nxd ?_ _ | refine nxw ?_ | refine nx ?_ (by assumption)))) (h2.to (by with_reducible repeat (first | exact Below.refl _ _ | refine nxa ?_ _ | refine nxd ?_ _ | refine nxw ?_ | refine nx ?_ (by assumption)))) (by omega)).mono ?_
        rw [HD.out]
        rintro e w9 ⟨rfl, hb9⟩
        have d6 := (show Blk1 w9 _ _ _ from X1.to (by with_reducible repeat (first | exact Below.refl _ _ | refine nxa ?_ _ | refine nxd ?_ _ | refine nxw ?_ | refine nx ?_ (by assumption)))).cell
        go_wp2_with fail
        clear d6
        refine (quot_ByWord _ _ _ _ m _ (h2.to (by with_reducible repeat (first | exact Below.refl _ _ | refine nxa ?_ _ | refine nxd ?_ _ | refine nxw ?_ | refine nx ?_ (by assumption)))) hm hmw (by omega)).mono ?_
        rintro e w10 ⟨A10, n10, c10, rfl, h10, hb10⟩
        have q10 := h10.le_of _ (Nat.lt_of_le_of_lt (Nat.div_le_self _ _) h2.lt)
        go_wp2_with fail
        have X5 := Blk1.newAt w10 (w10.heap.size) 25 (.slice A10 n10 c10) (by first | rfl | simp)
        have hbwe3 : Below w10.heap.size w10 (w10.alloc (.cells #[.slice A10 n10 c10] 25)) := (by with_reducible repeat (first | exact Below.refl _ _ | refine nxa ?_ _ | refine nxd ?_ _ | refine nxw ?_ | refine nx ?_ (by assumption)))
        have HSwe3 := Lib.hid (show (w10.alloc (.cells #[.slice A10 n10 c10] 25)).heap.size = w10.heap.size + 1 by first | rfl | simp)
        generalize (w10.alloc (.cells #[.slice A10 n10 c10] 25)) = we3 at X5 hbwe3 HSwe3 ⊢
        refine (ref2_Of_one m _ _ _ (by first | rfl | exact HSwe3.out | simp) hmw).mono ?_
        rintro e w11 ⟨A11, n11, c11, rfl, h11, hb11, hf11⟩
        have l11 : n11 ≤ 4 * 1 := ref_len h11 (by rw [Nat.pow_one]; exact hmw)
        go_wp2_with fail
        refine (ref4_DivMod _ _ _ _ _ _ _ _ _ (h4.to (by with_reducible repeat (first | exact Below.refl _ _ | refine nxa ?_ _ | refine nxd ?_ _ | refine nxw ?_ | refine nx ?_ (by assumption)))) (h11.to (by with_reducible repeat (first | exact Below.refl _ _ | refine nxa ?_ _ | refine nxd ?_ _ | refine nxw ?_ | refine nx ?_ (by assumption)))) (by omega) (by omega) hm).mono ?_
        rintro e w12 ⟨A12, n12, c12, A12', n12', c12', rfl, h12, h12', hb12⟩
        have l12 := h12.le_of (by decide) _ (Nat.lt_of_le_of_lt (Nat.div_le_self _ _) h4.lt)
        have l12' := h12'.le_of (by decide) _ (Nat.lt_of_le_of_lt (Nat.mod_le _ _) h4.lt)
        have d7 := (show Blk1 w12 _ _ _ from X5.to (by with_reducible repeat (first | exact Below.refl _ _ | refine nxa ?_ _ | refine nxd ?_ _ | refine nxw ?_ | refine nx ?_ (by assumption)))).cell
        go_wp2_with fail
        clear d7
        refine (law_Like _ _ _ _ _ _ _ _ (h10.to (by with_reducible repeat (first | exact Below.refl _ _ | refine nxa ?_ _ | refine nxd ?_ _ | refine nxw ?_ | refine nx ?_ (by assumption)))) (h12.to (by with_reducible repeat (first | exact Below.refl _ _ | refine nxa ?_ _ | refine nxd ?_ _ | refine nxw ?_ | refine nx ?_ (by assumption)))) (by omega) (by omega)).mono ?_
        rintro e w13 ⟨rfl, hb13⟩
        go_wp2_with fail
        refine (nat_Of_one (x % m) _ _ _ (by first | rfl | simp) HLM.out).mono ?_
        rintro e w14 ⟨A14, n14, c14, rfl, h14, hb14, m14⟩
        go_wp2_with fail
        refine (law_Like _ _ _ _ _ _ _ _ (h14.to (by with_reducible repeat (first | exact Below.refl _ _ | refine nxa ?_ _ | refine nxd ?_ _ | refine nxw ?_ | refine nx ?_ (by assumption)))) (h12'.to (by with_reducible repeat (first | exact Below.refl _ _ | refine nxa ?_ _ | refine nxd ?_ _ | refine nxw ?_ | refine nx ?_ (by assumption)))) (by omega) (by omega)).mono ?_
        rintro e w15 ⟨rfl, hb15⟩
        go_wp2_with fail
        go_ret
        exact ⟨rfl, (by with_reducible repeat (first | exact Below.refl _ _ | refine nxa ?_ _ | refine nxd ?_ _ | refine nxw ?_ | refine nx ?_ (by assumption)))⟩
    · have HD := Lib.hid (decide_eq_false (show ¬ y ∣ x by rw [hy0]; exact fun h => hx0 (Nat.eq_zero_of_zero_dvd h)))
      have HY0 := Lib.hid hy0
      have hxp : 0 < x := by omega
      clear hx0 hy0
      by_cases hm0 : m = 0
      · subst hm0
        go_enter Try.func5, Try.ntmps5
        go_wp2_with fail
        refine (awake4 _).mono ?_
        rintro e w1 ⟨rfl, hb1⟩
        go_wp2_with fail
        refine (nat_Of _ _ _ _ _ (k1.to (by with_reducible repeat (first | exact Below.refl _ _ | refine nxa ?_ _ | refine nxd ?_ _ | refine nxw ?_ | refine nx ?_ (by assumption)))) (by omega)).mono ?_
        rintro e w2 ⟨A2, n2, c2, rfl, h2, hb2, m2⟩
        go_wp2_with fail
        refine (nat_Of _ _ _ _ _ (k2.to (by with_reducible repeat (first | exact Below.refl _ _ | refine nxa ?_ _ | refine nxd ?_ _ | refine nxw ?_ | refine nx ?_ (by assumption)))) (by omega)).mono ?_
        rintro e w3 ⟨A3, n3, c3, rfl, h3, hb3, m3⟩
        go_wp2_with fail
        have X1 := Blk1.newAt w3 (w3.heap.size) 25 (.slice A2 n2 c2) (by first | rfl | simp)
        have X2 := Blk1.newAt (w3.alloc (.cells #[.slice A2 n2 c2] 25)) (w3.heap.size + 1) 25 (.slice A3 n3 c3) (by first | rfl | simp)
        replace X1 := (show Blk1 ((w3.alloc (.cells #[.slice A2 n2 c2] 25)).alloc (.cells #[.slice A3 n3 c3] 25)) _ _ _ from X1.to (by with_reducible repeat (first | exact Below.refl _ _ | refine nxa ?_ _ | refine nxd ?_ _ | refine nxw ?_ | refine nx ?_ (by assumption))))
        have hbwe1 : Below w3.heap.size w3 ((w3.alloc (.cells #[.slice A2 n2 c2] 25)).alloc (.cells #[.slice A3 n3 c3] 25)) := (by with_reducible repeat (first | exact Below.refl _ _ | refine nxa ?_ _ | refine nxd ?_ _ | refine nxw ?_ | refine nx ?_ (by assumption)))
        generalize ((w3.alloc (.cells #[.slice A2 n2 c2] 25)).alloc (.cells #[.slice A3 n3 c3] 25)) = we1 at X1 X2 hbwe1  ⊢
        refine (ref2_Of _ _ _ _ _ (k1.to (by with_reducible repeat (first | exact Below.refl _ _ | refine nxa ?_ _ | refine nxd ?_ _ | refine nxw ?_ | refine nx ?_ (by assumption)))) (by omega)).mono ?_
        rintro e w4 ⟨A4, n4, c4, rfl, h4, hb4, hf4⟩
        have l4 := ref_len h4 k1.lt
        have zz4 : (((n4 : Nat) : Int) == 0) = false := by have := (h4.zero_iff (by decide)); simp; omega
        have zg4 : 0 < n4 := by have := (h4.zero_iff (by decide)); omega
        have zi4 : (0 : Int) < ((n4 : Nat) : Int) := by omega
        go_wp2_with fail
        refine (ref2_Of _ _ _ _ _ (k2.to (by with_reducible repeat (first | exact Below.refl _ _ | refine nxa ?_ _ | refine nxd ?_ _ | refine nxw ?_ | refine nx ?_ (by assumption)))) (by omega)).mono ?_
        rintro e w5 ⟨A5, n5, c5, rfl, h5, hb5, hf5⟩
        have l5 := ref_len h5 k2.lt
        obtain rfl : n5 = 0 := (h5.zero_iff (by decide)).1 HY0.out
        have d1 := (show Blk1 w5 _ _ _ from X1.to (by with_reducible repeat (first | exact Below.refl _ _ | refine nxa ?_ _ | refine nxd ?_ _ | refine nxw ?_ | refine nx ?_ (by assumption)))).cell
        have d2 := (show Blk1 w5 _ _ _ from X2.to (by with_reducible repeat (first | exact Below.refl _ _ | refine nxa ?_ _ | refine nxd ?_ _ | refine nxw ?_ | refine nx ?_ (by assumption)))).cell
        go_wp2_with fail
        clear d1 d2
        refine (quot_DivMod_zero _ _ _ _ _ _ _ _ _ (h2.to (by with_reducible repeat (first | exact Below.refl _ _ | refine nxa ?_ _ | refine nxd ?_ _ | refine nxw ?_ | refine nx ?_ (by assumption)))) (h3.to (by with_reducible repeat (first | exact Below.refl _ _ | refine nxa ?_ _ | refine nxd ?_ _ | refine nxw ?_ | refine nx ?_ (by assumption)))) (by omega) HY0.out).mono ?_
        rintro e w6 ⟨A6, n6, c6, A6', n6', c6', rfl, h6, h6', hb6⟩
        have q6 := h6.le_of 0 (by decide)
        have q6' := h6'.le_of 0 (by decide)
        go_wp2_with fail
        have X3 := Blk1.newAt w6 (w6.heap.size) 25 (.slice A6 n6 c6) (by first | rfl | simp)
        have X4 := Blk1.newAt (w6.alloc (.cells #[.slice A6 n6 c6] 25)) (w6.heap.size + 1) 25 (.slice A6' n6' c6') (by first | rfl | simp)
        replace X3 := (show Blk1 ((w6.alloc (.cells #[.slice A6 n6 c6] 25)).alloc (.cells #[.slice A6' n6' c6'] 25)) _ _ _ from X3.to (by with_reducible repeat (first | exact Below.refl _ _ | refine nxa ?_ _ | refine nxd ?_ _ | refine nxw ?_ | refine nx ?_ (by assumption))))
        have hbwe2 : Below w6.heap.size w6 ((w6.alloc (.cells #[.slice A6 n6 c6] 25)).alloc (.cells #[.slice A6' n6' c6'] 25)) := (by with_reducible repeat (first | exact Below.refl _ _ | refine nxa ?_ _ | refine nxd ?_ _ | refine nxw ?_ | refine nx ?_ (by assumption)))
        generalize ((w6.alloc (.cells #[.slice A6 n6 c6] 25)).alloc (.cells #[.slice A6' n6' c6'] 25)) = we2 at X3 X4 hbwe2  ⊢
        refine (nat_Zero _ _ _ _ _ (h6.to (by with_reducible repeat (first | exact Below.refl _ _ | refine nxa ?_ _ | refine nxd ?_ _ | refine nxw ?_ | refine nx ?_ (by assumption))))).mono ?_
        rw [decide_eq_true (show (0 : Nat) = 0 from rfl)]
        rintro e w7 ⟨rfl, hb7⟩
        have d3 := (show Blk1 w7 _ _ _ from X4.to (by with_reducible repeat (first | exact Below.refl _ _ | refine nxa ?_ _ | refine nxd ?_ _ | refine nxw ?_ | refine nx ?_ (by assumption)))).cell
        go_wp2_with fail
        clear d3
        refine (nat_Zero _ _ _ _ _ (h6'.to (by with_reducible repeat (first | exact Below.refl _ _ | refine nxa ?_ _ | refine nxd ?_ _ | refine nxw ?_ | refine nx ?_ (by assumption))))).mono ?_
        rw [decide_eq_true (show (0 : Nat) = 0 from rfl)]
        rintro e w8 ⟨rfl, hb8⟩
        have d4 := (show Blk1 w8 _ _ _ from X2.to (by with_reducible repeat (first | exact Below.refl _ _ | refine nxa ?_ _ | refine nxd ?_ _ | refine nxw ?_ | refine nx ?_ (by assumption)))).cell
        have d5 := (show Blk1 w8 _ _ _ from X1.to (by with_reducible repeat (first | exact Below.refl _ _ | refine nxa ?_ _ | refine nxd ?_ _ | refine nxw ?_ | refine nx ?_ (by assumption)))).cell
        go_wp2_with fail
        clear d4 d5
        refine (quot_Divides _ _ _ _ _ _ _ _ _ (h3.to (by with_reducible repeat (first | exact Below.refl _ _ | refine nxa ?_ _ | refine nxd ?_ _ | refine nxw ?_ | refine nx ?_ (by assumption)))) (h2.to (by with_reducible repeat (first | exact Below.refl _ _ | refine nxa ?_ _ | refine nxd ?_ _ | refine nxw ?_ | refine nx ?_ (by assumption)))) (by omega)).mono ?_
        rw [HD.out]
        rintro e w9 ⟨rfl, hb9⟩
        have d6 := (show Blk1 w9 _ _ _ from X1.to (by with_reducible repeat (first | exact Below.refl _ _ | refine nxa ?_ _ | refine nxd ?_ _ | refine nxw ?_ | refine nx ?_ (by assumption)))).cell
        go_wp2_with fail
        clear d6
        refine (quot_ByWord_no _ _ _ _).mono ?_
        rintro e w10 ⟨A10, n10, c10, rfl, h10, hb10⟩
        have q10 := h10.le_of 0 (by decide)
        go_wp2_with fail
        have X5 := Blk1.newAt w10 (w10.heap.size) 25 (.slice A10 n10 c10) (by first | rfl | simp)
        have hbwe3 : Below w10.heap.size w10 (w10.alloc (.cells #[.slice A10 n10 c10] 25)) := (by with_reducible repeat (first | exact Below.refl _ _ | refine nxa ?_ _ | refine nxd ?_ _ | refine nxw ?_ | refine nx ?_ (by assumption)))
        generalize (w10.alloc (.cells #[.slice A10 n10 c10] 25)) = we3 at X5 hbwe3  ⊢
        refine (nat_Zero _ _ _ _ _ (h10.to (by with_reducible repeat (first | exact Below.refl _ _ | refine nxa ?_ _ | refine nxd ?_ _ | refine nxw ?_ | refine nx ?_ (by assumption))))).mono ?_
        rw [decide_eq_true (show (0 : Nat) = 0 from rfl)]
        rintro e w11 ⟨rfl, hb11⟩
        go_wp2_with fail
        go_ret
        exact ⟨rfl, (by with_reducible repeat (first | exact Below.refl _ _ | refine nxa ?_ _ | refine nxd ?_ _ | refine nxw ?_ | refine nx ?_ (by assumption)))⟩
      · have hm : 0 < m := by omega
        have hmz : ((m : Int) == 0) = false := by simp; omega
        have HLM := Lib.hid (Nat.lt_trans (Nat.mod_lt x hm) hmw)
        clear hm0
        go_enter Try.func5, Try.ntmps5
        go_wp2_with fail
        refine (awake4 _).mono ?_
        rintro e w1 ⟨rfl, hb1⟩
        go_wp2_with fail
        refine (nat_Of _ _ _ _ _ (k1.to (by with_reducible repeat (first | exact Below.refl _ _ | refine nxa ?_ _ | refine nxd ?_ _ | refine nxw ?_ | refine nx ?_ (by assumption)))) (by omega)).mono ?_
        rintro e w2 ⟨A2, n2, c2, rfl, h2, hb2, m2⟩
        go_wp2_with fail
        refine (nat_Of _ _ _ _ _ (k2.to (by with_reducible repeat (first | exact Below.refl _ _ | refine nxa ?_ _ | refine nxd ?_ _ | refine nxw ?_ | refine nx ?_ (by assumption)))) (by omega)).mono ?_
        rintro e w3 ⟨A3, n3, c3, rfl, h3, hb3, m3⟩
        go_wp2_with fail
        have X1 := Blk1.newAt w3 (w3.heap.size) 25 (.slice A2 n2 c2) (by first | rfl | simp)
        have X2 := Blk1.newAt (w3.alloc (.cells #[.slice A2 n2 c2] 25)) (w3.heap.size + 1) 25 (.slice A3 n3 c3) (by first | rfl | simp)
        replace X1 := (show Blk1 ((w3.alloc (.cells #[.slice A2 n2 c2] 25)).alloc (.cells #[.slice A3 n3 c3] 25)) _ _ _ from X1.to (by with_reducible repeat (first | exact Below.refl _ _ | refine nxa ?_ _ | refine nxd ?_ _ | refine nxw ?_ | refine nx ?_ (by assumption))))
        have hbwe1 : Below w3.heap.size w3 ((w3.alloc (.cells #[.slice A2 n2 c2] 25)).alloc (.cells #[.slice A3 n3 c3] 25)) := (by with_reducible repeat (first | exact Below.refl _ _ | refine nxa ?_ _ | refine nxd ?_ _ | refine nxw ?_ | refine nx ?_ (by assumption)))
        generalize ((w3.alloc (.cells #[.slice A2 n2 c2] 25)).alloc (.cells #[.slice A3 n3 c3] 25)) = we1 at X1 X2 hbwe1  ⊢
        refine (ref2_Of _ _ _ _ _ (k1.to (by with_reducible repeat (first | exact Below.refl _ _ | refine nxa ?_ _ | refine nxd ?_ _ | refine nxw ?_ | refine nx ?_ (by assumption)))) (by omega)).mono ?_
        rintro e w4 ⟨A4, n4, c4, rfl, h4, hb4, hf4⟩
        have l4 := ref_len h4 k1.lt
        have zz4 : (((n4 : Nat) : Int) == 0) = false := by have := (h4.zero_iff (by decide)); simp; omega
        have zg4 : 0 < n4 := by have := (h4.zero_iff (by decide)); omega
        have zi4 : (0 : Int) < ((n4 : Nat) : Int) := by omega
        go_wp2_with fail
        refine (ref2_Of _ _ _ _ _ (k2.to (by with_reducible repeat (first | exact Below.refl _ _ | refine nxa ?_ _ | refine nxd ?_ _ | refine nxw ?_ | refine nx ?_ (by assumption)))) (by omega)).mono ?_
        rintro e w5 ⟨A5, n5, c5, rfl, h5, hb5, hf5⟩
        have l5 := ref_len h5 k2.lt
        obtain rfl : n5 = 0 := (h5.zero_iff (by decide)).1 HY0.out
        have d1 := (show Blk1 w5 _ _ _ from X1.to (by with_reducible repeat (first | exact Below.refl _ _ | refine nxa ?_ _ | refine nxd ?_ _ | refine nxw ?_ | refine nx ?_ (by assumption)))).cell
        have d2 := (show Blk1 w5 _ _ _ from X2.to (by with_reducible repeat (first | exact Below.refl _ _ | refine nxa ?_ _ | refine nxd ?_ _ | refine nxw ?_ | refine nx ?_ (by assumption)))).cell
        go_wp2_with fail
        clear d1 d2
        refine (quot_DivMod_zero _ _ _ _ _ _ _ _ _ (h2.to (by with_reducible repeat (first | exact Below.refl _ _ | refine nxa ?_ _ | refine nxd ?_ _ | refine nxw ?_ | refine nx ?_ (by assumption)))) (h3.to (by with_reducible repeat (first | exact Below.refl _ _ | refine nxa ?_ _ | refine nxd ?_ _ | refine nxw ?_ | refine nx ?_ (by assumption)))) (by omega) HY0.out).mono ?_
        rintro e w6 ⟨A6, n6, c6, A6', n6', c6', rfl, h6, h6', hb6⟩
        have q6 := h6.le_of 0 (by decide)
        have q6' := h6'.le_of 0 (by decide)
        go_wp2_with fail
        have X3 := Blk1.newAt w6 (w6.heap.size) 25 (.slice A6 n6 c6) (by first | rfl | simp)
        have X4 := Blk1.newAt (w6.alloc (.cells #[.slice A6 n6 c6] 25)) (w6.heap.size + 1) 25 (.slice A6' n6' c6') (by first | rfl | simp)
        replace X3 := (show Blk1 ((w6.alloc (.cells #[.slice A6 n6 c6] 25)).alloc (.cells #[.slice A6' n6' c6'] 25)) _ _ _ from X3.to (by with_reducible repeat (first | exact Below.refl _ _ | refine nxa ?_ _ | refine nxd ?_ _ | refine nxw ?_ | refine nx ?_ (by assumption))))
        have hbwe2 : Below w6.heap.size w6 ((w6.alloc (.cells #[.slice A6 n6 c6] 25)).alloc (.cells #[.slice A6' n6' c6'] 25)) := (by with_reducible repeat (first | exact Below.refl _ _ | refine nxa ?_ _ | refine nxd ?_ _ | refine nxw ?_ | refine nx ?_ (by assumption)))
        generalize ((w6.alloc (.cells #[.slice A6 n6 c6] 25)).alloc (.cells #[.slice A6' n6' c6'] 25)) = we2 at X3 X4 hbwe2  ⊢
        refine (nat_Zero _ _ _ _ _ (h6.to (by with_reducible repeat (first | exact Below.refl _ _ | refine nxa ?_ _ | refine nxd ?_ _ | refine nxw ?_ | refine nx ?_ (by assumption))))).mono ?_
        rw [decide_eq_true (show (0 : Nat) = 0 from rfl)]
        rintro e w7 ⟨rfl, hb7⟩
        have d3 := (show Blk1 w7 _ _ _ from X4.to (by with_reducible repeat (first | exact Below.refl _ _ | refine nxa ?_ _ | refine nxd ?_ _ | refine nxw ?_ | refine nx ?_ (by assumption)))).cell
        go_wp2_with fail
        clear d3
        refine (nat_Zero _ _ _ _ _ (h6'.to (by with_reducible repeat (first | exact Below.refl _ _ | refine nxa ?_ _ | refine nxd ?_ _ | refine nxw ?_ | refine nx ?_ (by assumption))))).mono ?_
        rw [decide_eq_true (show (0 : Nat) = 0 from rfl)]
        rintro e w8 ⟨rfl, hb8⟩
        have d4 := (show Blk1 w8 _ _ _ from X2.to (by with_reducible repeat (first | exact Below.refl _ _ | refine nxa ?_ _ | refine nxd ?_ _ | refine nxw ?_ | refine nx ?_ (by assumption)))).cell
        have d5 := (show Blk1 w8 _ _ _ from X1.to (by with_reducible repeat (first | exact Below.refl _ _ | refine nxa ?_ _ | refine nxd ?_ _ | refine nxw ?_ | refine nx ?_ (by assumption)))).cell
        go_wp2_with fail
        clear d4 d5
        refine (quot_Divides _ _ _ _ _ _ _ _ _ (h3.to (by with_reducible repeat (first | exact Below.refl _ _ | refine nxa ?_ _ | refine nxd ?_ _ | refine nxw ?_ | refine nx ?_ (by assumption)))) (h2.to (by with_reducible repeat (first | exact Below.refl _ _ | refine nxa ?_ _ | refine nxd ?_ _ | refine nxw ?_ | refine nx ?_ (by assumption)))) (by omega)).mono ?_
        rw [HD.out]
        rintro e w9 ⟨rfl, hb9⟩
        have d6 := (show Blk1 w9 _ _ _ from X1.to (by with_reducible repeat (first | exact Below.refl _ _ | refine nxa ?_ _ | refine nxd ?_ _ | refine nxw ?_ | refine nx ?_ (by assumption)))).cell
        go_wp2_with fail
        clear d6
        refine (quot_ByWord _ _ _ _ m _ (h2.to (by with_reducible repeat (first | exact Below.refl _ _ | refine nxa ?_ _ | refine nxd ?_ _ | refine nxw ?_ | refine nx ?_ (by assumption)))) hm hmw (by omega)).mono ?_
        rintro e w10 ⟨A10, n10, c10, rfl, h10, hb10⟩
        have q10 := h10.le_of _ (Nat.lt_of_le_of_lt (Nat.div_le_self _ _) h2.lt)
        go_wp2_with fail
        have X5 := Blk1.newAt w10 (w10.heap.size) 25 (.slice A10 n10 c10) (by first | rfl | simp)
        have hbwe3 : Below w10.heap.size w10 (w10.alloc (.cells #[.slice A10 n10 c10] 25)) := (by with_reducible repeat (first | exact Below.refl _ _ | refine nxa ?_ _ | refine nxd ?_ _ | refine nxw ?_ | refine nx ?_ (by assumption)))
        have HSwe3 := Lib.hid (show (w10.alloc (.cells #[.slice A10 n10 c10] 25)).heap.size = w10.heap.size + 1 by first | rfl | simp)
        generalize (w10.alloc (.cells #[.slice A10 n10 c10] 25)) = we3 at X5 hbwe3 HSwe3 ⊢
        refine (ref2_Of_one m _ _ _ (by first | rfl | exact HSwe3.out | simp) hmw).mono ?_
        rintro e w11 ⟨A11, n11, c11, rfl, h11, hb11, hf11⟩
        have l11 : n11 ≤ 4 * 1 := ref_len h11 (by rw [Nat.pow_one]; exact hmw)
        go_wp2_with fail
        refine (ref4_DivMod _ _ _ _ _ _ _ _ _ (h4.to (by with_reducible repeat (first | exact Below.refl _ _ | refine nxa ?_ _ | refine nxd ?_ _ | refine nxw ?_ | refine nx ?_ (by assumption)))) (h11.to (by with_reducible repeat (first | exact Below.refl _ _ | refine nxa ?_ _ | refine nxd ?_ _ | refine nxw ?_ | refine nx ?_ (by assumption)))) (by omega) (by omega) hm).mono ?_
        rintro e w12 ⟨A12, n12, c12, A12', n12', c12', rfl, h12, h12', hb12⟩
        have l12 := h12.le_of (by decide) _ (Nat.lt_of_le_of_lt (Nat.div_le_self _ _) h4.lt)
        have l12' := h12'.le_of (by decide) _ (Nat.lt_of_le_of_lt (Nat.mod_le _ _) h4.lt)
        have d7 := (show Blk1 w12 _ _ _ from X5.to (by with_reducible repeat (first | exact Below.refl _ _ | refine nxa ?_ _ | refine nxd ?_ _ | refine nxw ?_ | refine nx ?_ (by assumption)))).cell
        go_wp2_with fail
        clear d7
        refine (law_Like _ _ _ _ _ _ _ _ (h10.to (by with_reducible repeat (first | exact Below.refl _ _ | refine nxa ?_ _ | refine nxd ?_ _ | refine nxw ?_ | refine nx ?_ (by assumption)))) (h12.to (by with_reducible repeat (first | exact Below.refl _ _ | refine nxa ?_ _ | refine nxd ?_ _ | refine nxw ?_ | refine nx ?_ (by assumption)))) (by omega) (by omega)).mono ?_
        rintro e w13 ⟨rfl, hb13⟩
        go_wp2_with fail
        refine (nat_Of_one (x % m) _ _ _ (by first | rfl | simp) HLM.out).mono ?_
        rintro e w14 ⟨A14, n14, c14, rfl, h14, hb14, m14⟩
        go_wp2_with fail
        refine (law_Like _ _ _ _ _ _ _ _ (h14.to (by with_reducible repeat (first | exact Below.refl _ _ | refine nxa ?_ _ | refine nxd ?_ _ | refine nxw ?_ | refine nx ?_ (by assumption)))) (h12'.to (by with_reducible repeat (first | exact Below.refl _ _ | refine nxa ?_ _ | refine nxd ?_ _ | refine nxw ?_ | refine nx ?_ (by assumption)))) (by omega) (by omega)).mono ?_
        rintro e w15 ⟨rfl, hb15⟩
        go_wp2_with fail
        go_ret
        exact ⟨rfl, (by with_reducible repeat (first | exact Below.refl _ _ | refine nxa ?_ _ | refine nxd ?_ _ | refine nxw ?_ | refine nx ?_ (by assumption)))⟩
  · have hy : 0 < y := by omega
    by_cases hd : y ∣ x
    · have HD := Lib.hid (decide_eq_true hd)
      have HE := Lib.hid (decide_eq_true (Nat.mod_eq_zero_of_dvd hd))
      clear hd
      by_cases hm0 : m = 0
      · subst hm0
        go_enter Try.func5, Try.ntmps5
        go_wp2_with fail
        refine (awake4 _).mono ?_
        rintro e w1 ⟨rfl, hb1⟩
        go_wp2_with fail
        refine (nat_Of _ _ _ _ _ (k1.to (by with_reducible repeat (first | exact Below.refl _ _ | refine nxa ?_ _ | refine nxd ?_ _ | refine nxw ?_ | refine nx ?_ (by assumption)))) (by omega)).mono ?_
        rintro e w2 ⟨A2, n2, c2, rfl, h2, hb2, m2⟩
        go_wp2_with fail
        refine (nat_Of _ _ _ _ _ (k2.to (by with_reducible repeat (first | exact Below.refl _ _ | refine nxa ?_ _ | refine nxd ?_ _ | refine nxw ?_ | refine nx ?_ (by assumption)))) (by omega)).mono ?_
        rintro e w3 ⟨A3, n3, c3, rfl, h3, hb3, m3⟩
        go_wp2_with fail
        have X1 := Blk1.newAt w3 (w3.heap.size) 25 (.slice A2 n2 c2) (by first | rfl | simp)
        have X2 := Blk1.newAt (w3.alloc (.cells #[.slice A2 n2 c2] 25)) (w3.heap.size + 1) 25 (.slice A3 n3 c3) (by first | rfl | simp)
        replace X1 := (show Blk1 ((w3.alloc (.cells #[.slice A2 n2 c2] 25)).alloc (.cells #[.slice A3 n3 c3] 25)) _ _ _ from X1.to (by with_reducible repeat (first | exact Below.refl _ _ | refine nxa ?_ _ | refine nxd ?_ _ | refine nxw ?_ | refine nx ?_ (by assumption))))
        have hbwe1 : Below w3.heap.size w3 ((w3.alloc (.cells #[.slice A2 n2 c2] 25)).alloc (.cells #[.slice A3 n3 c3] 25)) := (by with_reducible repeat (first | exact Below.refl _ _ | refine nxa ?_ _ | refine nxd ?_ _ | refine nxw ?_ | refine nx ?_ (by assumption)))
        generalize ((w3.alloc (.cells #[.slice A2 n2 c2] 25)).alloc (.cells #[.slice A3 n3 c3] 25)) = we1 at X1 X2 hbwe1  ⊢
        refine (ref2_Of _ _ _ _ _ (k1.to (by with_reducible repeat (first | exact Below.refl _ _ | refine nxa ?_ _ | refine nxd ?_ _ | refine nxw ?_ | refine nx ?_ (by assumption)))) (by omega)).mono ?_
        rintro e w4 ⟨A4, n4, c4, rfl, h4, hb4, hf4⟩
        have l4 := ref_len h4 k1.lt
        go_wp2_with fail
        refine (ref2_Of _ _ _ _ _ (k2.to (by with_reducible repeat (first | exact Below.refl _ _ | refine nxa ?_ _ | refine nxd ?_ _ | refine nxw ?_ | refine nx ?_ (by assumption)))) (by omega)).mono ?_
        rintro e w5 ⟨A5, n5, c5, rfl, h5, hb5, hf5⟩
        have l5 := ref_len h5 k2.lt
        have zz5 : (((n5 : Nat) : Int) == 0) = false := by have := (h5.zero_iff (by decide)); simp; omega
        have zg5 : 0 < n5 := by have := (h5.zero_iff (by decide)); omega
        have zi5 : (0 : Int) < ((n5 : Nat) : Int) := by omega
        have d1 := (show Blk1 w5 _ _ _ from X1.to (by with_reducible repeat (first | exact Below.refl _ _ | refine nxa ?_ _ | refine nxd ?_ _ | refine nxw ?_ | refine nx ?_ (by assumption)))).cell
        have d2 := (show Blk1 w5 _ _ _ from X2.to (by with_reducible repeat (first | exact Below.refl _ _ | refine nxa ?_ _ | refine nxd ?_ _ | refine nxw ?_ | refine nx ?_ (by assumption)))).cell
        go_wp2_with fail
        clear d1 d2
        refine (quot_DivMod _ _ _ _ _ _ _ _ _ (h2.to (by with_reducible repeat (first | exact Below.refl _ _ | refine nxa ?_ _ | refine nxd ?_ _ | refine nxw ?_ | refine nx ?_ (by assumption)))) (h3.to (by with_reducible repeat (first | exact Below.refl _ _ | refine nxa ?_ _ | refine nxd ?_ _ | refine nxw ?_ | refine nx ?_ (by assumption)))) (by omega) hy).mono ?_
        rintro e w6 ⟨A6, n6, c6, A6', n6', c6', rfl, h6, h6', hb6⟩
        have q6 := h6.le_of _ (Nat.lt_of_le_of_lt (Nat.div_le_self _ _) h2.lt)
        have q6' := h6'.le_of _ (Nat.lt_of_le_of_lt (Nat.mod_le _ _) h2.lt)
        have d3 := (show Blk1 ((w6.alloc (.cells #[.slice A6 n6 c6] 25)).alloc (.cells #[.slice A6' n6' c6'] 25)) _ _ _ from X2.to (by with_reducible repeat (first | exact Below.refl _ _ | refine nxa ?_ _ | refine nxd ?_ _ | refine nxw ?_ | refine nx ?_ (by assumption)))).cell
        have d4 := (show Blk1 ((w6.alloc (.cells #[.slice A6 n6 c6] 25)).alloc (.cells #[.slice A6' n6' c6'] 25)) _ _ _ from X1.to (by with_reducible repeat (first | exact Below.refl _ _ | refine nxa ?_ _ | refine nxd ?_ _ | refine nxw ?_ | refine nx ?_ (by assumption)))).cell
        go_wp2_with fail
        clear d3 d4
        have X3 := Blk1.newAt w6 (w6.heap.size) 25 (.slice A6 n6 c6) (by first | rfl | simp)
        have X4 := Blk1.newAt (w6.alloc (.cells #[.slice A6 n6 c6] 25)) (w6.heap.size + 1) 25 (.slice A6' n6' c6') (by first | rfl | simp)
        replace X3 := (show Blk1 ((w6.alloc (.cells #[.slice A6 n6 c6] 25)).alloc (.cells #[.slice A6' n6' c6'] 25)) _ _ _ from X3.to (by with_reducible repeat (first | exact Below.refl _ _ | refine nxa ?_ _ | refine nxd ?_ _ | refine nxw ?_ | refine nx ?_ (by assumption))))
        have hbwe2 : Below w6.heap.size w6 ((w6.alloc (.cells #[.slice A6 n6 c6] 25)).alloc (.cells #[.slice A6' n6' c6'] 25)) := (by with_reducible repeat (first | exact Below.refl _ _ | refine nxa ?_ _ | refine nxd ?_ _ | refine nxw ?_ | refine nx ?_ (by assumption)))
        generalize ((w6.alloc (.cells #[.slice A6 n6 c6] 25)).alloc (.cells #[.slice A6' n6' c6'] 25)) = we2 at X3 X4 hbwe2  ⊢
        refine (quot_Divides _ _ _ _ _ _ _ _ _ (h3.to (by with_reducible repeat (first | exact Below.refl _ _ | refine nxa ?_ _ | refine nxd ?_ _ | refine nxw ?_ | refine nx ?_ (by assumption)))) (h2.to (by with_reducible repeat (first | exact Below.refl _ _ | refine nxa ?_ _ | refine nxd ?_ _ | refine nxw ?_ | refine nx ?_ (by assumption)))) (by omega)).mono ?_
        rw [HD.out]
        rintro e w7 ⟨rfl, hb7⟩
        have d5 := (show Blk1 w7 _ _ _ from X4.to (by with_reducible repeat (first | exact Below.refl _ _ | refine nxa ?_ _ | refine nxd ?_ _ | refine nxw ?_ | refine nx ?_ (by assumption)))).cell
        go_wp2_with fail
        clear d5
        refine (nat_Zero _ _ _ _ _ (h6'.to (by with_reducible repeat (first | exact Below.refl _ _ | refine nxa ?_ _ | refine nxd ?_ _ | refine nxw ?_ | refine nx ?_ (by assumption))))).mono ?_
        rw [HE.out]
        rintro e w8 ⟨rfl, hb8⟩
        go_wp2_with fail
        refine (ref4_DivMod _ _ _ _ _ _ _ _ _ (h4.to (by with_reducible repeat (first | exact Below.refl _ _ | refine nxa ?_ _ | refine nxd ?_ _ | refine nxw ?_ | refine nx ?_ (by assumption)))) (h5.to (by with_reducible repeat (first | exact Below.refl _ _ | refine nxa ?_ _ | refine nxd ?_ _ | refine nxw ?_ | refine nx ?_ (by assumption)))) (by omega) (by omega) hy).mono ?_
        rintro e w9 ⟨A9, n9, c9, A9', n9', c9', rfl, h9, h9', hb9⟩
        have l9 := h9.le_of (by decide) _ (Nat.lt_of_le_of_lt (Nat.div_le_self _ _) h4.lt)
        have l9' := h9'.le_of (by decide) _ (Nat.lt_of_le_of_lt (Nat.mod_le _ _) h4.lt)
        have d6 := (show Blk1 w9 _ _ _ from X3.to (by with_reducible repeat (first | exact Below.refl _ _ | refine nxa ?_ _ | refine nxd ?_ _ | refine nxw ?_ | refine nx ?_ (by assumption)))).cell
        go_wp2_with fail
        clear d6
        refine (law_Like _ _ _ _ _ _ _ _ (h6.to (by with_reducible repeat (first | exact Below.refl _ _ | refine nxa ?_ _ | refine nxd ?_ _ | refine nxw ?_ | refine nx ?_ (by assumption)))) (h9.to (by with_reducible repeat (first | exact Below.refl _ _ | refine nxa ?_ _ | refine nxd ?_ _ | refine nxw ?_ | refine nx ?_ (by assumption)))) (by omega) (by omega)).mono ?_
        rintro e w10 ⟨rfl, hb10⟩
        have d7 := (show Blk1 w10 _ _ _ from X4.to (by with_reducible repeat (first | exact Below.refl _ _ | refine nxa ?_ _ | refine nxd ?_ _ | refine nxw ?_ | refine nx ?_ (by assumption)))).cell
        go_wp2_with fail
        clear d7
        refine (law_Like _ _ _ _ _ _ _ _ (h6'.to (by with_reducible repeat (first | exact Below.refl _ _ | refine nxa ?_ _ | refine nxd ?_ _ | refine nxw ?_ | refine nx ?_ (by assumption)))) (h9'.to (by with_reducible repeat (first | exact Below.refl _ _ | refine nxa ?_ _ | refine nxd ?_ _ | refine nxw ?_ | refine nx ?_ (by assumption)))) (by omega) (by omega)).mono ?_
        rintro e w11 ⟨rfl, hb11⟩
        have d8 := (show Blk1 w11 _ _ _ from X1.to (by with_reducible repeat (first | exact Below.refl _ _ | refine nxa ?_ _ | refine nxd ?_ _ | refine nxw ?_ | refine nx ?_ (by assumption)))).cell
        go_wp2_with fail
        clear d8
        refine (quot_ByWord_no _ _ _ _).mono ?_
        rintro e w12 ⟨A12, n12, c12, rfl, h12, hb12⟩
        have q12 := h12.le_of 0 (by decide)
        go_wp2_with fail
        have X5 := Blk1.newAt w12 (w12.heap.size) 25 (.slice A12 n12 c12) (by first | rfl | simp)
        have hbwe3 : Below w12.heap.size w12 (w12.alloc (.cells #[.slice A12 n12 c12] 25)) := (by with_reducible repeat (first | exact Below.refl _ _ | refine nxa ?_ _ | refine nxd ?_ _ | refine nxw ?_ | refine nx ?_ (by assumption)))
        generalize (w12.alloc (.cells #[.slice A12 n12 c12] 25)) = we3 at X5 hbwe3  ⊢
        refine (nat_Zero _ _ _ _ _ (h12.to (by with_reducible repeat (first | exact Below.refl _ _ | refine nxa ?_ _ | refine nxd ?_ _ | refine nxw ?_ | refine nx ?_ (by assumption))))).mono ?_
        rw [decide_eq_true (show (0 : Nat) = 0 from rfl)]
        rintro e w13 ⟨rfl, hb13⟩
        go_wp2_with fail
        go_ret
        exact ⟨rfl, (by with_reducible repeat (first | exact Below.refl _ _ | refine nxa ?_ _ | refine nxd ?_ _ | refine nxw ?_ | refine nx ?_ (by assumption)))⟩
      · have hm : 0 < m := by omega
        have hmz : ((m : Int) == 0) = false := by simp; omega
        have HLM := Lib.hid (Nat.lt_trans (Nat.mod_lt x hm) hmw)
        clear hm0
        go_enter Try.func5, Try.ntmps5
        go_wp2_with fail
        refine (awake4 _).mono ?_
        rintro e w1 ⟨rfl, hb1⟩
        go_wp2_with fail
        refine (nat_Of _ _ _ _ _ (k1.to (by with_reducible repeat (first | exact Below.refl _ _ | refine nxa ?_ _ | refine nxd ?_ _ | refine nxw ?_ | refine nx ?_ (by assumption)))) (by omega)).mono ?_
        rintro e w2 ⟨A2, n2, c2, rfl, h2, hb2, m2⟩
        go_wp2_with fail
        refine (nat_Of _ _ _ _ _ (k2.to (by with_reducible repeat (first | exact Below.refl _ _ | refine nxa ?_ _ | refine nxd ?_ _ | refine nxw ?_ | refine nx ?_ (by assumption)))) (by omega)).mono ?_
        rintro e w3 ⟨A3, n3, c3, rfl, h3, hb3, m3⟩
        go_wp2_with fail
        have X1 := Blk1.newAt w3 (w3.heap.size) 25 (.slice A2 n2 c2) (by first | rfl | simp)
        have X2 := Blk1.newAt (w3.alloc (.cells #[.slice A2 n2 c2] 25)) (w3.heap.size + 1) 25 (.slice A3 n3 c3) (by first | rfl | simp)
        replace X1 := (show Blk1 ((w3.alloc (.cells #[.slice A2 n2 c2] 25)).alloc (.cells #[.slice A3 n3 c3] 25)) _ _ _ from X1.to (by with_reducible repeat (first | exact Below.refl _ _ | refine nxa ?_ _ | refine nxd ?_ _ | refine nxw ?_ | refine nx ?_ (by assumption))))
        have hbwe1 : Below w3.heap.size w3 ((w3.alloc (.cells #[.slice A2 n2 c2] 25)).alloc (.cells #[.slice A3 n3 c3] 25)) := (by with_reducible repeat (first | exact Below.refl _ _ | refine nxa ?_ _ | refine nxd ?_ _ | refine nxw ?_ | refine nx ?_ (by assumption)))
        generalize ((w3.alloc (.cells #[.slice A2 n2 c2] 25)).alloc (.cells #[.slice A3 n3 c3] 25)) = we1 at X1 X2 hbwe1  ⊢
        refine (ref2_Of _ _ _ _ _ (k1.to (by with_reducible repeat (first | exact Below.refl _ _ | refine nxa ?_ _ | refine nxd ?_ _ | refine nxw ?_ | refine nx ?_ (by assumption)))) (by omega)).mono ?_
        rintro e w4 ⟨A4, n4, c4, rfl, h4, hb4, hf4⟩
        have l4 := ref_len h4 k1.lt
        go_wp2_with fail
        refine (ref2_Of _ _ _ _ _ (k2.to (by with_reducible repeat (first | exact Below.refl _ _ | refine nxa ?_ _ | refine nxd ?_ _ | refine nxw ?_ | refine nx ?_ (by assumption)))) (by omega)).mono ?_
        rintro e w5 ⟨A5, n5, c5, rfl, h5, hb5, hf5⟩
        have l5 := ref_len h5 k2.lt
        have zz5 : (((n5 : Nat) : Int) == 0) = false := by have := (h5.zero_iff (by decide)); simp; omega
        have zg5 : 0 < n5 := by have := (h5.zero_iff (by decide)); omega
        have zi5 : (0 : Int) < ((n5 : Nat) : Int) := by omega
        have d1 := (show Blk1 w5 _ _ _ from X1.to (by with_reducible repeat (first | exact Below.refl _ _ | refine nxa ?_ _ | refine nxd ?_ _ | refine nxw ?_ | refine nx ?_ (by assumption)))).cell
        have d2 := (show Blk1 w5 _ _ _ from X2.to (by with_reducible repeat (first | exact Below.refl _ _ | refine nxa ?_ _ | refine nxd ?_ _ | refine nxw ?_ | refine nx ?_ (by assumption)))).cell
        go_wp2_with fail
        clear d1 d2
        refine (quot_DivMod _ _ _ _ _ _ _ _ _ (h2.to (by with_reducible repeat (first | exact Below.refl _ _ | refine nxa ?_ _ | refine nxd ?_ _ | refine nxw ?_ | refine nx ?_ (by assumption)))) (h3.to (by with_reducible repeat (first | exact Below.refl _ _ | refine nxa ?_ _ | refine nxd ?_ _ | refine nxw ?_ | refine nx ?_ (by assumption)))) (by omega) hy).mono ?_
        rintro e w6 ⟨A6, n6, c6, A6', n6', c6', rfl, h6, h6', hb6⟩
        have q6 := h6.le_of _ (Nat.lt_of_le_of_lt (Nat.div_le_self _ _) h2.lt)
        have q6' := h6'.le_of _ (Nat.lt_of_le_of_lt (Nat.mod_le _ _) h2.lt)
        have d3 := (show Blk1 ((w6.alloc (.cells #[.slice A6 n6 c6] 25)).alloc (.cells #[.slice A6' n6' c6'] 25)) _ _ _ from X2.to (by with_reducible repeat (first | exact Below.refl _ _ | refine nxa ?_ _ | refine nxd ?_ _ | refine nxw ?_ | refine nx ?_ (by assumption)))).cell
        have d4 := (show Blk1 ((w6.alloc (.cells #[.slice A6 n6 c6] 25)).alloc (.cells #[.slice A6' n6' c6'] 25)) _ _ _ from X1.to (by with_reducible repeat (first | exact Below.refl _ _ | refine nxa ?_ _ | refine nxd ?_ _ | refine nxw ?_ | refine nx ?_ (by assumption)))).cell
        go_wp2_with fail
        clear d3 d4
        have X3 := Blk1.newAt w6 (w6.heap.size) 25 (.slice A6 n6 c6) (by first | rfl | simp)
        have X4 := Blk1.newAt (w6.alloc (.cells #[.slice A6 n6 c6] 25)) (w6.heap.size + 1) 25 (.slice A6' n6' c6') (by first | rfl | simp)
        replace X3 := (show Blk1 ((w6.alloc (.cells #[.slice A6 n6 c6] 25)).alloc (.cells #[.slice A6' n6' c6'] 25)) _ _ _ from X3.to (by with_reducible repeat (first | exact Below.refl _ _ | refine nxa ?_ _ | refine nxd ?_ _ | refine nxw ?_ | refine nx ?_ (by assumption))))
        have hbwe2 : Below w6.heap.size w6 ((w6.alloc (.cells #[.slice A6 n6 c6] 25)).alloc (.cells #[.slice A6' n6' c6'] 25)) := (by with_reducible repeat (first | exact Below.refl _ _ | refine nxa ?_ _ | refine nxd ?_ _ | refine nxw ?_ | refine nx ?_ (by assumption)))
        generalize ((w6.alloc (.cells #[.slice A6 n6 c6] 25)).alloc (.cells #[.slice A6' n6' c6'] 25)) = we2 at X3 X4 hbwe2  ⊢
        refine (quot_Divides _ _ _ _ _ _ _ _ _ (h3.to (by with_reducible repeat (first | exact Below.refl _ _ | refine nxa ?_ _ | refine nxd ?_ _ | refine nxw ?_ | refine nx ?_ (by assumption)))) (h2.to (by with_reducible repeat (first | exact Below.refl _ _ | refine nxa ?_ _ | refine nxd ?_ _ | refine nxw ?_ | refine nx ?_ (by assumption)))) (by omega)).mono ?_
        rw [HD.out]
        rintro e w7 ⟨rfl, hb7⟩
        have d5 := (show Blk1 w7 _ _ _ from X4.to (by with_reducible repeat (first | exact Below.refl _ _ | refine nxa ?_ _ | refine nxd ?_ _ | refine nxw ?_ | refine nx ?_ (by assumption)))).cell
        go_wp2_with fail
        clear d5
        refine (nat_Zero _ _ _ _ _ (h6'.to (by with_reducible repeat (first | exact Below.refl _ _ | refine nxa ?_ _ | refine nxd ?_ _ | refine nxw ?_ | refine nx ?_ (by assumption))))).mono ?_
        rw [HE.out]
        rintro e w8 ⟨rfl, hb8⟩
        go_wp2_with fail
        refine (ref4_DivMod _ _ _ _ _ _ _ _ _ (h4.to (by with_reducible repeat (first | exact Below.refl _ _ | refine nxa ?_ _ | refine nxd ?_ _ | refine nxw ?_ | refine nx ?_ (by assumption)))) (h5.to (by with_reducible repeat (first | exact Below.refl _ _ | refine nxa ?_ _ | refine nxd ?_ _ | refine nxw ?_ | refine nx ?_ (by assumption)))) (by omega) (by omega) hy).mono ?_
        rintro e w9 ⟨A9, n9, c9, A9', n9', c9', rfl, h9, h9', hb9⟩
        have l9 := h9.le_of (by decide) _ (Nat.lt_of_le_of_lt (Nat.div_le_self _ _) h4.lt)
        have l9' := h9'.le_of (by decide) _ (Nat.lt_of_le_of_lt (Nat.mod_le _ _) h4.lt)
        have d6 := (show Blk1 w9 _ _ _ from X3.to (by with_reducible repeat (first | exact Below.refl _ _ | refine nxa ?_ _ | refine nxd ?_ _ | refine nxw ?_ | refine nx ?_ (by assumption)))).cell
        go_wp2_with fail
        clear d6
        refine (law_Like _ _ _ _ _ _ _ _ (h6.to (by with_reducible repeat (first | exact Below.refl _ _ | refine nxa ?_ _ | refine nxd ?_ _ | refine nxw ?_ | refine nx ?_ (by assumption)))) (h9.to (by with_reducible repeat (first | exact Below.refl _ _ | refine nxa ?_ _ | refine nxd ?_ _ | refine nxw ?_ | refine nx ?_ (by assumption)))) (by omega) (by omega)).mono ?_
        rintro e w10 ⟨rfl, hb10⟩
        have d7 := (show Blk1 w10 _ _ _ from X4.to (by with_reducible repeat (first | exact Below.refl _ _ | refine nxa ?_ _ | refine nxd ?_ _ | refine nxw ?_ | refine nx ?_ (by assumption)))).cell
        go_wp2_with fail
        clear d7
        refine (law_Like _ _ _ _ _ _ _ _ (h6'.to (by with_reducible repeat (first | exact Below.refl _ _ | refine nxa ?_ _ | refine nxd ?_ _ | refine nxw ?_ | refine nx ?_ (by assumption)))) (h9'.to (by with_reducible repeat (first | exact Below.refl _ _ | refine nxa ?_ _ | refine nxd ?_ _ | refine nxw ?_ | refine nx ?_ (by assumption)))) (by omega) (by omega)).mono ?_
        rintro e w11 ⟨rfl, hb11⟩
        have d8 := (show Blk1 w11 _ _ _ from X1.to (by with_reducible repeat (first | exact Below.refl _ _ | refine nxa ?_ _ | refine nxd ?_ _ | refine nxw ?_ | refine nx ?_ (by assumption)))).cell
        go_wp2_with fail
        clear d8
        refine (quot_ByWord _ _ _ _ m _ (h2.to (by with_reducible repeat (first | exact Below.refl _ _ | refine nxa ?_ _ | refine nxd ?_ _ | refine nxw ?_ | refine nx ?_ (by assumption)))) hm hmw (by omega)).mono ?_
        rintro e w12 ⟨A12, n12, c12, rfl, h12, hb12⟩
        have q12 := h12.le_of _ (Nat.lt_of_le_of_lt (Nat.div_le_self _ _) h2.lt)
        go_wp2_with fail
        have X5 := Blk1.newAt w12 (w12.heap.size) 25 (.slice A12 n12 c12) (by first | rfl | simp)
        have hbwe3 : Below w12.heap.size w12 (w12.alloc (.cells #[.slice A12 n12 c12] 25)) := (by with_reducible repeat (first | exact Below.refl _ _ | refine nxa ?_ _ | refine nxd ?_ _ | refine nxw ?_ | refine nx ?_ (by assumption)))
        have HSwe3 := Lib.hid (show (w12.alloc (.cells #[.slice A12 n12 c12] 25)).heap.size = w12.heap.size + 1 by first | rfl | simp)
        generalize (w12.alloc (.cells #[.slice A12 n12 c12] 25)) = we3 at X5 hbwe3 HSwe3 ⊢
        refine (ref2_Of_one m _ _ _ (by first | rfl | exact HSwe3.out | simp) hmw).mono ?_
        rintro e w13 ⟨A13, n13, c13, rfl, h13, hb13, hf13⟩
        have l13 : n13 ≤ 4 * 1 := ref_len h13 (by rw [Nat.pow_one]; exact hmw)
        go_wp2_with fail
        refine (ref4_DivMod _ _ _ _ _ _ _ _ _ (h4.to (by with_reducible repeat (first | exact Below.refl _ _ | refine nxa ?_ _ | refine nxd ?_ _ | refine nxw ?_ | refine nx ?_ (by assumption)))) (h13.to (by with_reducible repeat (first | exact Below.refl _ _ | refine nxa ?_ _ | refine nxd ?_ _ | refine nxw ?_ | refine nx ?_ (by assumption)))) (by omega) (by omega) hm).mono ?_
        rintro e w14 ⟨A14, n14, c14, A14', n14', c14', rfl, h14, h14', hb14⟩
        have l14 := h14.le_of (by decide) _ (Nat.lt_of_le_of_lt (Nat.div_le_self _ _) h4.lt)
        have l14' := h14'.le_of (by decide) _ (Nat.lt_of_le_of_lt (Nat.mod_le _ _) h4.lt)
        have d9 := (show Blk1 w14 _ _ _ from X5.to (by with_reducible repeat (first | exact Below.refl _ _ | refine nxa ?_ _ | refine nxd ?_ _ | refine nxw ?_ | refine nx ?_ (by assumption)))).cell
        go_wp2_with fail
        clear d9
        refine (law_Like _ _ _ _ _ _ _ _ (h12.to (by with_reducible repeat (first | exact Below.refl _ _ | refine nxa ?_ _ | refine nxd ?_ _ | refine nxw ?_ | refine nx ?_ (by assumption)))) (h14.to (by with_reducible repeat (first | exact Below.refl _ _ | refine nxa ?_ _ | refine nxd ?_ _ | refine nxw ?_ | refine nx ?_ (by assumption)))) (by omega) (by omega)).mono ?_
        rintro e w15 ⟨rfl, hb15⟩
        go_wp2_with fail
        refine (nat_Of_one (x % m) _ _ _ (by first | rfl | simp) HLM.out).mono ?_
        rintro e w16 ⟨A16, n16, c16, rfl, h16, hb16, m16⟩
        go_wp2_with fail
        refine (law_Like _ _ _ _ _ _ _ _ (h16.to (by with_reducible repeat (first | exact Below.refl _ _ | refine nxa ?_ _ | refine nxd ?_ _ | refine nxw ?_ | refine nx ?_ (by assumption)))) (h14'.to (by with_reducible repeat (first | exact Below.refl _ _ | refine nxa ?_ _ | refine nxd ?_ _ | refine nxw ?_ | refine nx ?_ (by assumption)))) (by omega) (by omega)).mono ?_
        rintro e w17 ⟨rfl, hb17⟩
        go_wp2_with fail
        go_ret
        exact ⟨rfl, (by with_reducible repeat (first | exact Below.refl _ _ | refine nxa ?_ _ | refine nxd ?_ _ | refine nxw ?_ | refine nx ?_ (by assumption)))⟩
    · have HD := Lib.hid (decide_eq_false hd)
      have HE := Lib.hid (decide_eq_false (fun h => hd (Nat.dvd_of_mod_eq_zero h)))
      clear hd
      by_cases hm0 : m = 0
      · subst hm0
        go_enter Try.func5, Try.ntmps5
        go_wp2_with fail
        refine (awake4 _).mono ?_
        rintro e w1 ⟨rfl, hb1⟩
        go_wp2_with fail
        refine (nat_Of _ _ _ _ _ (k1.to (by with_reducible repeat (first | exact Below.refl _ _ | refine nxa ?_ _ | refine nxd ?_ _ | refine nxw ?_ | refine nx ?_ (by assumption)))) (by omega)).mono ?_
        rintro e w2 ⟨A2, n2, c2, rfl, h2, hb2, m2⟩
        go_wp2_with fail
        refine (nat_Of _ _ _ _ _ (k2.to (by with_reducible repeat (first | exact Below.refl _ _ | refine nxa ?_ _ | refine nxd ?_ _ | refine nxw ?_ | refine nx ?_ (by assumption)))) (by omega)).mono ?_
        rintro e w3 ⟨A3, n3, c3, rfl, h3, hb3, m3⟩
        go_wp2_with fail
        have X1 := Blk1.newAt w3 (w3.heap.size) 25 (.slice A2 n2 c2) (by first | rfl | simp)
        have X2 := Blk1.newAt (w3.alloc (.cells #[.slice A2 n2 c2] 25)) (w3.heap.size + 1) 25 (.slice A3 n3 c3) (by first | rfl | simp)
        replace X1 := (show Blk1 ((w3.alloc (.cells #[.slice A2 n2 c2] 25)).alloc (.cells #[.slice A3 n3 c3] 25)) _ _ _ from X1.to (by with_reducible repeat (first | exact Below.refl _ _ | refine nxa ?_ _ | refine nxd ?_ _ | refine nxw ?_ | refine nx ?_ (by assumption))))
        have hbwe1 : Below w3.heap.size w3 ((w3.alloc (.cells #[.slice A2 n2 c2] 25)).alloc (.cells #[.slice A3 n3 c3] 25)) := (by with_reducible repeat (first | exact Below.refl _ _ | refine nxa ?_ _ | refine nxd ?_ _ | refine nxw ?_ | refine nx ?_ (by assumption)))
        generalize ((w3.alloc (.cells #[.slice A2 n2 c2] 25)).alloc (.cells #[.slice A3 n3 c3] 25)) = we1 at X1 X2 hbwe1  ⊢
        refine (ref2_Of _ _ _ _ _ (k1.to (by with_reducible repeat (first | exact Below.refl _ _ | refine nxa ?_ _ | refine nxd ?_ _ | refine nxw ?_ | refine nx ?_ (by assumption)))) (by omega)).mono ?_
        rintro e w4 ⟨A4, n4, c4, rfl, h4, hb4, hf4⟩
        have l4 := ref_len h4 k1.lt
        go_wp2_with fail
        refine (ref2_Of _ _ _ _ _ (k2.to (by with_reducible repeat (first | exact Below.refl _ _ | refine nxa ?_ _ | refine nxd ?_ _ | refine nxw ?_ | refine nx ?_ (by assumption)))) (by omega)).mono ?_
        rintro e w5 ⟨A5, n5, c5, rfl, h5, hb5, hf5⟩
        have l5 := ref_len h5 k2.lt
        have zz5 : (((n5 : Nat) : Int) == 0) = false := by have := (h5.zero_iff (by decide)); simp; omega
        have zg5 : 0 < n5 := by have := (h5.zero_iff (by decide)); omega
        have zi5 : (0 : Int) < ((n5 : Nat) : Int) := by omega
        have d1 := (show Blk1 w5 _ _ _ from X1.to (by with_reducible repeat (first | exact Below.refl _ _ | refine nxa ?_ _ | refine nxd ?_ _ | refine nxw ?_ | refine nx ?_ (by assumption)))).cell
        have d2 := (show Blk1 w5 _ _ _ from X2.to (by with_reducible repeat (first | exact Below.refl _ _ | refine nxa ?_ _ | refine nxd ?_ _ | refine nxw ?_ | refine nx ?_ (by assumption)))).cell
        go_wp2_with fail
        clear d1 d2
        refine (quot_DivMod _ _ _ _ _ _ _ _ _ (h2.to (by with_reducible repeat (first | exact Below.refl _ _ | refine nxa ?_ _ | refine nxd ?_ _ | refine nxw ?_ | refine nx ?_ (by assumption)))) (h3.to (by with_reducible repeat (first | exact Below.refl _ _ | refine nxa ?_ _ | refine nxd ?_ _ | refine nxw ?_ | refine nx ?_ (by assumption)))) (by omega) hy).mono ?_
        rintro e w6 ⟨A6, n6, c6, A6', n6', c6', rfl, h6, h6', hb6⟩
        have q6 := h6.le_of _ (Nat.lt_of_le_of_lt (Nat.div_le_self _ _) h2.lt)
        have q6' := h6'.le_of _ (Nat.lt_of_le_of_lt (Nat.mod_le _ _) h2.lt)
        have d3 := (show Blk1 ((w6.alloc (.cells #[.slice A6 n6 c6] 25)).alloc (.cells #[.slice A6' n6' c6'] 25)) _ _ _ from X2.to (by with_reducible repeat (first | exact Below.refl _ _ | refine nxa ?_ _ | refine nxd ?_ _ | refine nxw ?_ | refine nx ?_ (by assumption)))).cell
        have d4 := (show Blk1 ((w6.alloc (.cells #[.slice A6 n6 c6] 25)).alloc (.cells #[.slice A6' n6' c6'] 25)) _ _ _ from X1.to (by with_reducible repeat (first | exact Below.refl _ _ | refine nxa ?_ _ | refine nxd ?_ _ | refine nxw ?_ | refine nx ?_ (by assumption)))).cell
        go_wp2_with fail
        clear d3 d4
        have X3 := Blk1.newAt w6 (w6.heap.size) 25 (.slice A6 n6 c6) (by first | rfl | simp)
        have X4 := Blk1.newAt (w6.alloc (.cells #[.slice A6 n6 c6] 25)) (w6.heap.size + 1) 25 (.slice A6' n6' c6') (by first | rfl | simp)
        replace X3 := (show Blk1 ((w6.alloc (.cells #[.slice A6 n6 c6] 25)).alloc (.cells #[.slice A6' n6' c6'] 25)) _ _ _ from X3.to (by with_reducible repeat (first | exact Below.refl _ _ | refine nxa ?_ _ | refine nxd ?_ _ | refine nxw ?_ | refine nx ?_ (by assumption))))
        have hbwe2 : Below w6.heap.size w6 ((w6.alloc (.cells #[.slice A6 n6 c6] 25)).alloc (.cells #[.slice A6' n6' c6'] 25)) := (by with_reducible repeat (first | exact Below.refl _ _ | refine nxa ?_ _ | refine nxd ?_ _ | refine nxw ?_ | refine nx ?_ (by assumption)))
        generalize ((w6.alloc (.cells #[.slice A6 n6 c6] 25)).alloc (.cells #[.slice A6' n6' c6'] 25)) = we2 at X3 X4 hbwe2  ⊢
        refine (quot_Divides _ _ _ _ _ _ _ _ _ (h3.to (by with_reducible repeat (first | exact Below.refl _ _ | refine nxa ?_ _ | refine nxd ?_ _ | refine nxw ?_ | refine nx ?_ (by assumption)))) (h2.to (by with_reducible repeat (first | exact Below.refl _ _ | refine nxa ?_ _ | refine nxd ?_ _ | refine nxw ?_ | refine nx ?_ (by assumption)))) (by omega)).mono ?_
        rw [HD.out]
        rintro e w7 ⟨rfl, hb7⟩
        have d5 := (show Blk1 w7 _ _ _ from X4.to (by with_reducible repeat (first | exact Below.refl _ _ | refine nxa ?_ _ | refine nxd ?_ _ | refine nxw ?_ | refine nx ?_ (by assumption)))).cell
        go_wp2_with fail
        clear d5
        refine (nat_Zero _ _ _ _ _ (h6'.to (by with_reducible repeat (first | exact Below.refl _ _ | refine nxa ?_ _ | refine nxd ?_ _ | refine nxw ?_ | refine nx ?_ (by assumption))))).mono ?_
        rw [HE.out]
        rintro e w8 ⟨rfl, hb8⟩
        go_wp2_with fail
        refine (ref4_DivMod _ _ _ _ _ _ _ _ _ (h4.to (by with_reducible repeat (first | exact Below.refl _ _ | refine nxa ?_ _ | refine nxd ?_ _ | refine nxw ?_ | refine nx ?_ (by assumption)))) (h5.to (by with_reducible repeat (first | exact Below.refl _ _ | refine nxa ?_ _ | refine nxd ?_ _ | refine nxw ?_ | refine nx ?_ (by assumption)))) (by omega) (by omega) hy).mono ?_
        rintro e w9 ⟨A9, n9, c9, A9', n9', c9', rfl, h9, h9', hb9⟩
        have l9 := h9.le_of (by decide) _ (Nat.lt_of_le_of_lt (Nat.div_le_self _ _) h4.lt)
        have l9' := h9'.le_of (by decide) _ (Nat.lt_of_le_of_lt (Nat.mod_le _ _) h4.lt)
        have d6 := (show Blk1 w9 _ _ _ from X3.to (by with_reducible repeat (first | exact Below.refl _ _ | refine nxa ?_ _ | refine nxd ?_ _ | refine nxw ?_ | refine nx ?_ (by assumption)))).cell
        go_wp2_with fail
        clear d6
        refine (law_Like _ _ _ _ _ _ _ _ (h6.to (by with_reducible repeat (first | exact Below.refl _ _ | refine nxa ?_ _ | refine nxd ?_ _ | refine nxw ?_ | refine nx ?_ (by assumption)))) (h9.to (by with_reducible repeat (first | exact Below.refl _ _ | refine nxa ?_ _ | refine nxd ?_ _ | refine nxw ?_ | refine nx ?_ (by assumption)))) (by omega) (by omega)).mono ?_
        rintro e w10 ⟨rfl, hb10⟩
        have d7 := (show Blk1 w10 _ _ _ from X4.to (by with_reducible repeat (first | exact Below.refl _ _ | refine nxa ?_ _ | refine nxd ?_ _ | refine nxw ?_ | refine nx ?_ (by assumption)))).cell
        go_wp2_with fail
        clear d7
        refine (law_Like _ _ _ _ _ _ _ _ (h6'.to (by with_reducible repeat (first | exact Below.refl _ _ | refine nxa ?_ _ | refine nxd ?_ _ | refine nxw ?_ | refine nx ?_ (by assumption)))) (h9'.to (by with_reducible repeat (first | exact Below.refl _ _ | refine nxa ?_ _ | refine nxd ?_ _ | refine nxw ?_ | refine nx ?_ (by assumption)))) (by omega) (by omega)).mono ?_
        rintro e w11 ⟨rfl, hb11⟩
        have d8 := (show Blk1 w11 _ _ _ from X1.to (by with_reducible repeat (first | exact Below.refl _ _ | refine nxa ?_ _ | refine nxd ?_ _ | refine nxw ?_ | refine nx ?_ (by assumption)))).cell
        go_wp2_with fail
        clear d8
        refine (quot_ByWord_no _ _ _ _).mono ?_
        rintro e w12 ⟨A12, n12, c12, rfl, h12, hb12⟩
        have q12 := h12.le_of 0 (by decide)
        go_wp2_with fail
        have X5 := Blk1.newAt w12 (w12.heap.size) 25 (.slice A12 n12 c12) (by first | rfl | simp)
        have hbwe3 : Below w12.heap.size w12 (w12.alloc (.cells #[.slice A12 n12 c12] 25)) := (by with_reducible repeat (first | exact Below.refl _ _ | refine nxa ?_ _ | refine nxd ?_ _ | refine nxw ?_ | refine nx ?_ (by assumption)))
        generalize (w12.alloc (.cells #[.slice A12 n12 c12] 25)) = we3 at X5 hbwe3  ⊢
        refine (nat_Zero _ _ _ _ _ (h12.to (by with_reducible repeat (first | exact Below.refl _ _ | refine nxa ?_ _ | refine nxd ?_ _ | refine nxw ?_ | refine nx ?_ (by assumption))))).mono ?_
        rw [decide_eq_true (show (0 : Nat) = 0 from rfl)]
        rintro e w13 ⟨rfl, hb13⟩
        go_wp2_with fail
        go_ret
        exact ⟨rfl, (by with_reducible repeat (first | exact Below.refl _ _ | refine nxa ?_ _ | refine nxd ?_ _ | refine nxw ?_ | refine nx ?_ (by assumption)))⟩
      · have hm : 0 < m := by omega
        have hmz : ((m : Int) == 0) = false := by simp; omega
        have HLM := Lib.hid (Nat.lt_trans (Nat.mod_lt x hm) hmw)
        clear hm0
        go_enter Try.func5, Try.ntmps5
        go_wp2_with fail
        refine (awake4 _).mono ?_
        rintro e w1 ⟨rfl, hb1⟩
        go_wp2_with fail
        refine (nat_Of _ _ _ _ _ (k1.to (by with_reducible repeat (first | exact Below.refl _ _ | refine nxa ?_ _ | refine nxd ?_ _ | refine nxw ?_ | refine nx ?_ (by assumption)))) (by omega)).mono ?_
        rintro e w2 ⟨A2, n2, c2, rfl, h2, hb2, m2⟩
        go_wp2_with fail
        refine (nat_Of _ _ _ _ _ (k2.to (by with_reducible repeat (first | exact Below.refl _ _ | refine nxa ?_ _ | refine nxd ?_ _ | refine nxw ?_ | refine nx ?_ (by assumption)))) (by omega)).mono ?_
        rintro e w3 ⟨A3, n3, c3, rfl, h3, hb3, m3⟩
        go_wp2_with fail
        have X1 := Blk1.newAt w3 (w3.heap.size) 25 (.slice A2 n2 c2) (by first | rfl | simp)
        have X2 := Blk1.newAt (w3.alloc (.cells #[.slice A2 n2 c2] 25)) (w3.heap.size + 1) 25 (.slice A3 n3 c3) (by first | rfl | simp)
        replace X1 := (show Blk1 ((w3.alloc (.cells #[.slice A2 n2 c2] 25)).alloc (.cells #[.slice A3 n3 c3] 25)) _ _ _ from X1.to (by with_reducible repeat (first | exact Below.refl _ _ | refine nxa ?_ _ | refine nxd ?_ _ | refine nxw ?_ | refine nx ?_ (by assumption))))
        have hbwe1 : Below w3.heap.size w3 ((w3.alloc (.cells #[.slice A2 n2 c2] 25)).alloc (.cells #[.slice A3 n3 c3] 25)) := (by with_reducible repeat (first | exact Below.refl _ _ | refine nxa ?_ _ | refine nxd ?_ _ | refine nxw ?_ | refine nx ?_ (by assumption)))
        generalize ((w3.alloc (.cells #[.slice A2 n2 c2] 25)).alloc (.cells #[.slice A3 n3 c3] 25)) = we1 at X1 X2 hbwe1  ⊢
        refine (ref2_Of _ _ _ _ _ (k1.to (by with_reducible repeat (first | exact Below.refl _ _ | refine nxa ?_ _ | refine nxd ?_ _ | refine nxw ?_ | refine nx ?_ (by assumption)))) (by omega)).mono ?_
        rintro e w4 ⟨A4, n4, c4, rfl, h4, hb4, hf4⟩
        have l4 := ref_len h4 k1.lt
        go_wp2_with fail
        refine (ref2_Of _ _ _ _ _ (k2.to (by with_reducible repeat (first | exact Below.refl _ _ | refine nxa ?_ _ | refine nxd ?_ _ | refine nxw ?_ | refine nx ?_ (by assumption)))) (by omega)).mono ?_
        rintro e w5 ⟨A5, n5, c5, rfl, h5, hb5, hf5⟩
        have l5 := ref_len h5 k2.lt
        have zz5 : (((n5 : Nat) : Int) == 0) = false := by have := (h5.zero_iff (by decide)); simp; omega
        have zg5 : 0 < n5 := by have := (h5.zero_iff (by decide)); omega
        have zi5 : (0 : Int) < ((n5 : Nat) : Int) := by omega
        have d1 := (show Blk1 w5 _ _ _ from X1.to (by with_reducible repeat (first | exact Below.refl _ _ | refine nxa ?_ _ | refine nxd ?_ _ | refine nxw ?_ | refine nx ?_ (by assumption)))).cell
        have d2 := (show Blk1 w5 _ _ _ from X2.to (by with_reducible repeat (first | exact Below.refl _ _ | refine nxa ?_ _ | refine nxd ?_ _ | refine nxw ?_ | refine nx ?_ (by assumption)))).cell
        go_wp2_with fail
        clear d1 d2
        refine (quot_DivMod _ _ _ _ _ _ _ _ _ (h2.to (by with_reducible repeat (first | exact Below.refl _ _ | refine nxa ?_ _ | refine nxd ?_ _ | refine nxw ?_ | refine nx ?_ (by assumption)))) (h3.to (by with_reducible repeat (first | exact Below.refl _ _ | refine nxa ?_ _ | refine nxd ?_ _ | refine nxw ?_ | refine nx ?_ (by assumption)))) (by omega) hy).mono ?_
        rintro e w6 ⟨A6, n6, c6, A6', n6', c6', rfl, h6, h6', hb6⟩
        have q6 := h6.le_of _ (Nat.lt_of_le_of_lt (Nat.div_le_self _ _) h2.lt)
        have q6' := h6'.le_of _ (Nat.lt_of_le_of_lt (Nat.mod_le _ _) h2.lt)
        have d3 := (show Blk1 ((w6.alloc (.cells #[.slice A6 n6 c6] 25)).alloc (.cells #[.slice A6' n6' c6'] 25)) _ _ _ from X2.to (by with_reducible repeat (first | exact Below.refl _ _ | refine nxa ?_ _ | refine nxd ?_ _ | refine nxw ?_ | refine nx ?_ (by assumption)))).cell
        have d4 := (show Blk1 ((w6.alloc (.cells #[.slice A6 n6 c6] 25)).alloc (.cells #[.slice A6' n6' c6'] 25)) _ _ _ from X1.to (by with_reducible repeat (first | exact Below.refl _ _ | refine nxa ?_ _ | refine nxd ?_ _ | refine nxw ?_ | refine nx ?_ (by assumption)))).cell
        go_wp2_with fail
        clear d3 d4
        have X3 := Blk1.newAt w6 (w6.heap.size) 25 (.slice A6 n6 c6) (by first | rfl | simp)
        have X4 := Blk1.newAt (w6.alloc (.cells #[.slice A6 n6 c6] 25)) (w6.heap.size + 1) 25 (.slice A6' n6' c6') (by first | rfl | simp)
        replace X3 := (show Blk1 ((w6.alloc (.cells #[.slice A6 n6 c6] 25)).alloc (.cells #[.slice A6' n6' c6'] 25)) _ _ _ from X3.to (by with_reducible repeat (first | exact Below.refl _ _ | refine nxa ?_ _ | refine nxd ?_ _ | refine nxw ?_ | refine nx ?_ (by assumption))))
        have hbwe2 : Below w6.heap.size w6 ((w6.alloc (.cells #[.slice A6 n6 c6] 25)).alloc (.cells #[.slice A6' n6' c6'] 25)) := (by with_reducible repeat (first | exact Below.refl _ _ | refine nxa ?_ _ | refine nxd ?_ _ | refine nxw ?_ | refine nx ?_ (by assumption)))
        generalize ((w6.alloc (.cells #[.slice A6 n6 c6] 25)).alloc (.cells #[.slice A6' n6' c6'] 25)) = we2 at X3 X4 hbwe2  ⊢
        refine (quot_Divides _ _ _ _ _ _ _ _ _ (h3.to (by with_reducible repeat (first | exact Below.refl _ _ | refine nxa ?_ _ | refine nxd ?_ _ | refine nxw ?_ | refine nx ?_ (by assumption)))) (h2.to (by with_reducible repeat (first | exact Below.refl _ _ | refine nxa ?_ _ | refine nxd ?_ _ | refine nxw ?_ | refine nx ?_ (by assumption)))) (by omega)).mono ?_
        rw [HD.out]
        rintro e w7 ⟨rfl, hb7⟩
        have d5 := (show Blk1 w7 _ _ _ from X4.to (by with_reducible repeat (first | exact Below.refl _ _ | refine nxa ?_ _ | refine nxd ?_ _ | refine nxw ?_ | refine nx ?_ (by assumption)))).cell
        go_wp2_with fail
        clear d5
        refine (nat_Zero _ _ _ _ _ (h6'.to (by with_reducible repeat (first | exact Below.refl _ _ | refine nxa ?_ _ | refine nxd ?_ _ | refine nxw ?_ | refine nx ?_ (by assumption))))).mono ?_
        rw [HE.out]
        rintro e w8 ⟨rfl, hb8⟩
        go_wp2_with fail
        refine (ref4_DivMod _ _ _ _ _ _ _ _ _ (h4.to (by with_reducible repeat (first | exact Below.refl _ _ | refine nxa ?_ _ | refine nxd ?_ _ | refine nxw ?_ | refine nx ?_ (by assumption)))) (h5.to (by with_reducible repeat (first | exact Below.refl _ _ | refine nxa ?_ _ | refine nxd ?_ _ | refine nxw ?_ | refine nx ?_ (by assumption)))) (by omega) (by omega) hy).mono ?_
        rintro e w9 ⟨A9, n9, c9, A9', n9', c9', rfl, h9, h9', hb9⟩
        have l9 := h9.le_of (by decide) _ (Nat.lt_of_le_of_lt (Nat.div_le_self _ _) h4.lt)
        have l9' := h9'.le_of (by decide) _ (Nat.lt_of_le_of_lt (Nat.mod_le _ _) h4.lt)
        have d6 := (show Blk1 w9 _ _ _ from X3.to (by with_reducible repeat (first | exact Below.refl _ _ | refine nxa ?_ _ | refine nxd ?_ _ | refine nxw ?_ | refine nx ?_ (by assumption)))).cell
        go_wp2_with fail
        clear d6
        refine (law_Like _ _ _ _ _ _ _ _ (h6.to (by with_reducible repeat (first | exact Below.refl _ _ | refine nxa ?_ _ | refine nxd ?_ _ | refine nxw ?_ | refine nx ?_ (by assumption)))) (h9.to (by with_reducible repeat (first | exact Below.refl _ _ | refine nxa ?_ _ | refine nxd ?_ _ | refine nxw ?_ | refine nx ?_ (by assumption)))) (by omega) (by omega)).mono ?_
        rintro e w10 ⟨rfl, hb10⟩
        have d7 := (show Blk1 w10 _ _ _ from X4.to (by with_reducible repeat (first | exact Below.refl _ _ | refine nxa ?_ _ | refine nxd ?_ _ | refine nxw ?_ | refine nx ?_ (by assumption)))).cell
        go_wp2_with fail
        clear d7
        refine (law_Like _ _ _ _ _ _ _ _ (h6'.to (by with_reducible repeat (first | exact Below.refl _ _ | refine nxa ?_ _ | refine nxd ?_ _ | refine nxw ?_ | refine nx ?_ (by assumption)))) (h9'.to (by with_reducible repeat (first | exact Below.refl _ _ | refine nxa ?_ _ | refine nxd ?_ _ | refine nxw ?_ | refine nx ?_ (by assumption)))) (by omega) (by omega)).mono ?_
        rintro e w11 ⟨rfl, hb11⟩
        have d8 := (show Blk1 w11 _ _ _ from X1.to (by with_reducible repeat (first | exact Below.refl _ _ | refine nxa ?_ _ | refine nxd ?_ _ | refine nxw ?_ | refine nx ?_ (by assumption)))).cell
        go_wp2_with fail
        clear d8
        refine (quot_ByWord _ _ _ _ m _ (h2.to (by with_reducible repeat (first | exact Below.refl _ _ | refine nxa ?_ _ | refine nxd ?_ _ | refine nxw ?_ | refine nx ?_ (by assumption)))) hm hmw (by omega)).mono ?_
        rintro e w12 ⟨A12, n12, c12, rfl, h12, hb12⟩
        have q12 := h12.le_of _ (Nat.lt_of_le_of_lt (Nat.div_le_self _ _) h2.lt)
        go_wp2_with fail
        have X5 := Blk1.newAt w12 (w12.heap.size) 25 (.slice A12 n12 c12) (by first | rfl | simp)
        have hbwe3 : Below w12.heap.size w12 (w12.alloc (.cells #[.slice A12 n12 c12] 25)) := (by with_reducible repeat (first | exact Below.refl _ _ | refine nxa ?_ _ | refine nxd ?_ _ | refine nxw ?_ | refine nx ?_ (by assumption)))
        have HSwe3 := Lib.hid (show (w12.alloc (.cells #[.slice A12 n12 c12] 25)).heap.size = w12.heap.size + 1 by first | rfl | simp)
        generalize (w12.alloc (.cells #[.slice A12 n12 c12] 25)) = we3 at X5 hbwe3 HSwe3 ⊢
        refine (ref2_Of_one m _ _ _ (by first | rfl | exact HSwe3.out | simp) hmw).mono ?_
        rintro e w13 ⟨A13, n13, c13, rfl, h13, hb13, hf13⟩
        have l13 : n13 ≤ 4 * 1 := ref_len h13 (by rw [Nat.pow_one]; exact hmw)
        go_wp2_with fail
        refine (ref4_DivMod _ _ _ _ _ _ _ _ _ (h4.to (by with_reducible repeat (first | exact Below.refl _ _ | refine nxa ?_ _ | refine nxd ?_ _ | refine nxw ?_ | refine nx ?_ (by assumption)))) (h13.to (by with_reducible repeat (first | exact Below.refl _ _ | refine nxa ?_ _ | refine nxd ?_ _ | refine nxw ?_ | refine nx ?_ (by assumption)))) (by omega) (by omega) hm).mono ?_
        rintro e w14 ⟨A14, n14, c14, A14', n14', c14', rfl, h14, h14', hb14⟩
        have l14 := h14.le_of (by decide) _ (Nat.lt_of_le_of_lt (Nat.div_le_self _ _) h4.lt)
        have l14' := h14'.le_of (by decide) _ (Nat.lt_of_le_of_lt (Nat.mod_le _ _) h4.lt)
        have d9 := (show Blk1 w14 _ _ _ from X5.to (by with_reducible repeat (first | exact Below.refl _ _ | refine nxa ?_ _ | refine nxd ?_ _ | refine nxw ?_ | refine nx ?_ (by assumption)))).cell
        go_wp2_with fail
        clear d9
        refine (law_Like _ _ _ _ _ _ _ _ (h12.to (by with_reducible repeat (first | exact Below.refl _ _ | refine nxa ?_ _ | refine nxd ?_ _ | refine nxw ?_ | refine nx ?_ (by assumption)))) (h14.to (by with_reducible repeat (first | exact Below.refl _ _ | refine nxa ?_ _ | refine nxd ?_ _ | refine nxw ?_ | refine nx ?_ (by assumption)))) (by omega) (by omega)).mono ?_
        rintro e w15 ⟨rfl, hb15⟩
        go_wp2_with fail
        refine (nat_Of_one (x % m) _ _ _ (by first | rfl | simp) HLM.out).mono ?_
        rintro e w16 ⟨A16, n16, c16, rfl, h16, hb16, m16⟩
        go_wp2_with fail
        refine (law_Like _ _ _ _ _ _ _ _ (h16.to (by with_reducible repeat (first | exact Below.refl _ _ | refine nxa ?_ _ | refine nxd ?_ _ | refine nxw ?_ | refine nx ?_ (by assumption)))) (h14'.to (by with_reducible repeat (first | exact Below.refl _ _ | refine nxa ?_ _ | refine nxd ?_ _ | refine nxw ?_ | refine nx ?_ (by assumption)))) (by omega) (by omega)).mono ?_
        rintro e w17 ⟨rfl, hb17⟩
        go_wp2_with fail
        go_ret
        exact ⟨rfl, (by with_reducible repeat (first | exact Below.refl _ _ | refine nxa ?_ _ | refine nxd ?_ _ | refine nxw ?_ | refine nx ?_ (by assumption)))⟩
end Go.Proofs.Ytflleaifmeiikaa
