/- The walk of 'QuotTwice'. -/
import Derived.Test.YtflleaifmeiikaaAwake4
set_option linter.unusedVariables false
set_option linter.unusedSimpArgs false
namespace Go.Proofs.Ytflleaifmeiikaa
open Go.RowKit
set_option maxRecDepth 100000
set_option maxHeartbeats 4000000 in
theorem law_QuotTwice (A n c x) (A' n' c' y) (A'' n'' c'' z) (w : World) (k1 : Dig .u64 W w A n c x) (k2 : Dig .u64 W w A' n' c' y) (k3 : Dig .u64 W w A'' n'' c'' z) (r1 : n ≤ 1048576) (r2 : n' ≤ 1048576) (r3 : n'' ≤ 1048576) :
    Calls Try.prog 11 #[.slice A n c, .slice A' n' c', .slice A'' n'' c''] w (Ret w (.bool true)) := by
  by_cases hy0 : y = 0
  · have HY := Lib.hid (decide_eq_true hy0)
    clear hy0
    go_enter Try.func11, Try.ntmps11
    go_wp2_with fail
    refine (awake4 _).mono ?_
    rintro e w1 ⟨rfl, hb1⟩
    go_wp2_with fail
    refine (nat_Of _ _ _ _ _ (k1.to (by with_reducible repeat (first | exact Below.refl _ _ | refine nxa ?_ _ | refine nxd ?_ _ | refine nxw ?_ | refine nx ?_ (by assumption)))) (by omega)).mono ?_
    rintro e w2 ⟨A2, n2, c2, rfl, h2, hb2, m2⟩
    go_wp2_with fail
    refine (nat_Of _ _ _ _ _ (k2.to (by with_reducible repeat (first | exact Below.refl _ _ | refine nxa ?_ _ | refine nxd ?_ _ | refine nxw ?_ | refine nx ?_ (by assumption)))) (by omega)).mono ?_
    rintro e w3 ⟨A3, n3, c3, rfl, h3, hb3, m3⟩
    go_wp2_with fail
    refine (nat_Of _ _ _ _ _ (k3.to (by with_reducible repeat (first | exact Below.refl _ _ | refine nxa ?_ _ | refine nxd ?_ _ | refine nxw ?_ | refine nx ?_ (by assumption)))) (by omega)).mono ?_
    rintro e w4 ⟨A4, n4, c4, rfl, h4, hb4, m4⟩
    go_wp2_with fail
    have X1 := Blk1.newAt w4 (w4.heap.size) 25 (.slice A2 n2 c2) (by first | rfl | simp)
    have X2 := Blk1.newAt (w4.alloc (.cells #[.slice A2 n2 c2] 25)) (w4.heap.size + 1) 25 (.slice A3 n3 c3) (by first | rfl | simp)
    have X3 := Blk1.newAt ((w4.alloc (.cells #[.slice A2 n2 c2] 25)).alloc (.cells #[.slice A3 n3 c3] 25)) (w4.heap.size + 1 + 1) 25 (.slice A4 n4 c4) (by first | rfl | simp)
    replace X1 := (show Blk1 (((w4.alloc (.cells #[.slice A2 n2 c2] 25)).alloc (.cells #[.slice A3 n3 c3] 25)).alloc (.cells #[.slice A4 n4 c4] 25)) _ _ _ from X1.to (by with_reducible repeat (first | exact Below.refl _ _ | refine nxa ?_ _ | refine nxd ?_ _ | refine nxw ?_ | refine nx ?_ (by assumption))))
    replace X2 := (show Blk1 (((w4.alloc (.cells #[.slice A2 n2 c2] 25)).alloc (.cells #[.slice A3 n3 c3] 25)).alloc (.cells #[.slice A4 n4 c4] 25)) _ _ _ from X2.to (by with_reducible repeat (first | exact Below.refl _ _ | refine nxa ?_ _ | refine nxd ?_ _ | refine nxw ?_ | refine nx ?_ (by assumption))))
    have hbwe1 : Below w4.heap.size w4 (((w4.alloc (.cells #[.slice A2 n2 c2] 25)).alloc (.cells #[.slice A3 n3 c3] 25)).alloc (.cells #[.slice A4 n4 c4] 25)) := (by with_reducible repeat (first | exact Below.refl _ _ | refine nxa ?_ _ | refine nxd ?_ _ | refine nxw ?_ | refine nx ?_ (by assumption)))
    generalize (((w4.alloc (.cells #[.slice A2 n2 c2] 25)).alloc (.cells #[.slice A3 n3 c3] 25)).alloc (.cells #[.slice A4 n4 c4] 25)) = we1 at X1 X2 X3 hbwe1  ⊢
    refine (nat_Zero _ _ _ _ _ (h3.to (by with_reducible repeat (first | exact Below.refl _ _ | refine nxa ?_ _ | refine nxd ?_ _ | refine nxw ?_ | refine nx ?_ (by assumption))))).mono ?_
    rw [HY.out]
    rintro e w5 ⟨rfl, hb5⟩
    go_wp2_with fail
    go_ret
    exact ⟨rfl, (by with_reducible repeat (first | exact Below.refl _ _ | refine nxa ?_ _ | refine nxd ?_ _ | refine nxw ?_ | refine nx ?_ (by assumption)))⟩
  · have HY := Lib.hid (decide_eq_false hy0)
    have hy1 : 0 < y := by omega
    clear hy0
    by_cases hz0 : z = 0
    · have HZ := Lib.hid (decide_eq_true hz0)
      clear hz0
      go_enter Try.func11, Try.ntmps11
      go_wp2_with fail
      refine (awake4 _).mono ?_
      rintro e w1 ⟨rfl, hb1⟩
      go_wp2_with fail
      refine (nat_Of _ _ _ _ _ (k1.to (by with_reducible repeat (first | exact Below.refl _ _ | refine nxa ?_ _ | refine nxd ?_ _ | refine nxw ?_ | refine nx ?_ (by assumption)))) (by omega)).mono ?_
      rintro e w2 ⟨A2, n2, c2, rfl, h2, hb2, m2⟩
      go_wp2_with fail
      refine (nat_Of _ _ _ _ _ (k2.to (by with_reducible repeat (first | exact Below.refl _ _ | refine nxa ?_ _ | refine nxd ?_ _ | refine nxw ?_ | refine nx ?_ (by assumption)))) (by omega)).mono ?_
      rintro e w3 ⟨A3, n3, c3, rfl, h3, hb3, m3⟩
      go_wp2_with fail
      refine (nat_Of _ _ _ _ _ (k3.to (by with_reducible repeat (first | exact Below.refl _ _ | refine nxa ?_ _ | refine nxd ?_ _ | refine nxw ?_ | refine nx ?_ (by assumption)))) (by omega)).mono ?_
      rintro e w4 ⟨A4, n4, c4, rfl, h4, hb4, m4⟩
      go_wp2_with fail
      have X1 := Blk1.newAt w4 (w4.heap.size) 25 (.slice A2 n2 c2) (by first | rfl | simp)
      have X2 := Blk1.newAt (w4.alloc (.cells #[.slice A2 n2 c2] 25)) (w4.heap.size + 1) 25 (.slice A3 n3 c3) (by first | rfl | simp)
      have X3 := Blk1.newAt ((w4.alloc (.cells #[.slice A2 n2 c2] 25)).alloc (.cells #[.slice A3 n3 c3] 25)) (w4.heap.size + 1 + 1) 25 (.slice A4 n4 c4) (by first | rfl | simp)
      replace X1 := (show Blk1 (((w4.alloc (.cells #[.slice A2 n2 c2] 25)).alloc (.cells #[.slice A3 n3 c3] 25)).alloc (.cells #[.slice A4 n4 c4] 25)) _ _ _ from X1.to (by with_reducible repeat (first | exact Below.refl _ _ | refine nxa ?_ _ | refine nxd ?_ _ | refine nxw ?_ | refine nx ?_ (by assumption))))
      replace X2 := (show Blk1 (((w4.alloc (.cells #[.slice A2 n2 c2] 25)).alloc (.cells #[.slice A3 n3 c3] 25)).alloc (.cells #[.slice A4 n4 c4] 25)) _ _ _ from X2.to (by with_reducible repeat (first | exact Below.refl _ _ | refine nxa ?_ _ | refine nxd ?_ _ | refine nxw ?_ | refine nx ?_ (by assumption))))
      have hbwe1 : Below w4.heap.size w4 (((w4.alloc (.cells #[.slice A2 n2 c2] 25)).alloc (.cells #[.slice A3 n3 c3] 25)).alloc (.cells #[.slice A4 n4 c4] 25)) := (by with_reducible repeat (first | exact Below.refl _ _ | refine nxa ?_ _ | refine nxd ?_ _ | refine nxw ?_ | refine nx ?_ (by assumption)))
      generalize (((w4.alloc (.cells #[.slice A2 n2 c2] 25)).alloc (.cells #[.slice A3 n3 c3] 25)).alloc (.cells #[.slice A4 n4 c4] 25)) = we1 at X1 X2 X3 hbwe1  ⊢
      refine (nat_Zero _ _ _ _ _ (h3.to (by with_reducible repeat (first | exact Below.refl _ _ | refine nxa ?_ _ | refine nxd ?_ _ | refine nxw ?_ | refine nx ?_ (by assumption))))).mono ?_
      rw [HY.out]
      rintro e w5 ⟨rfl, hb5⟩
      have d1 := (show Blk1 w5 _ _ _ from X3.to (by with_reducible repeat (first | exact Below.refl _ _ | refine nxa ?_ _ | refine nxd ?_ _ | refine nxw ?_ | refine nx ?_ (by assumption)))).cell
      go_wp2_with fail
      clear d1
      refine (nat_Zero _ _ _ _ _ (h4.to (by with_reducible repeat (first | exact Below.refl _ _ | refine nxa ?_ _ | refine nxd ?_ _ | refine nxw ?_ | refine nx ?_ (by assumption))))).mono ?_
      rw [HZ.out]
      rintro e w6 ⟨rfl, hb6⟩
      go_wp2_with fail
      go_ret
      exact ⟨rfl, (by with_reducible repeat (first | exact Below.refl _ _ | refine nxa ?_ _ | refine nxd ?_ _ | refine nxw ?_ | refine nx ?_ (by assumption)))⟩
    · have HZ := Lib.hid (decide_eq_false hz0)
      have hz1 : 0 < z := by omega
      clear hz0
      have hyz : 0 < y * z := Nat.mul_pos hy1 hz1
      go_enter Try.func11, Try.ntmps11
      go_wp2_with fail
      refine (awake4 _).mono ?_
      rintro e w1 ⟨rfl, hb1⟩
      go_wp2_with fail
      refine (nat_Of _ _ _ _ _ (k1.to (by with_reducible repeat (first | exact Below.refl _ _ | refine nxa ?_ _ | refine nxd ?_ _ | refine nxw ?_ | refine nx ?_ (by assumption)))) (by omega)).mono ?_
      rintro e w2 ⟨A2, n2, c2, rfl, h2, hb2, m2⟩
      go_wp2_with fail
      refine (nat_Of _ _ _ _ _ (k2.to (by with_reducible repeat (first | exact Below.refl _ _ | refine nxa ?_ _ | refine nxd ?_ _ | refine nxw ?_ | refine nx ?_ (by assumption)))) (by omega)).mono ?_
      rintro e w3 ⟨A3, n3, c3, rfl, h3, hb3, m3⟩
      go_wp2_with fail
      refine (nat_Of _ _ _ _ _ (k3.to (by with_reducible repeat (first | exact Below.refl _ _ | refine nxa ?_ _ | refine nxd ?_ _ | refine nxw ?_ | refine nx ?_ (by assumption)))) (by omega)).mono ?_
      rintro e w4 ⟨A4, n4, c4, rfl, h4, hb4, m4⟩
      go_wp2_with fail
      have X1 := Blk1.newAt w4 (w4.heap.size) 25 (.slice A2 n2 c2) (by first | rfl | simp)
      have X2 := Blk1.newAt (w4.alloc (.cells #[.slice A2 n2 c2] 25)) (w4.heap.size + 1) 25 (.slice A3 n3 c3) (by first | rfl | simp)
      have X3 := Blk1.newAt ((w4.alloc (.cells #[.slice A2 n2 c2] 25)).alloc (.cells #[.slice A3 n3 c3] 25)) (w4.heap.size + 1 + 1) 25 (.slice A4 n4 c4) (by first | rfl | simp)
      replace X1 := (show Blk1 (((w4.alloc (.cells #[.slice A2 n2 c2] 25)).alloc (.cells #[.slice A3 n3 c3] 25)).alloc (.cells #[.slice A4 n4 c4] 25)) _ _ _ from X1.to (by with_reducible repeat (first | exact Below.refl _ _ | refine nxa ?_ _ | refine nxd ?_ _ | refine nxw ?_ | refine nx ?_ (by assumption))))
      replace X2 := (show Blk1 (((w4.alloc (.cells #[.slice A2 n2 c2] 25)).alloc (.cells #[.slice A3 n3 c3] 25)).alloc (.cells #[.slice A4 n4 c4] 25)) _ _ _ from X2.to (by with_reducible repeat (first | exact Below.refl _ _ | refine nxa ?_ _ | refine nxd ?_ _ | refine nxw ?_ | refine nx ?_ (by assumption))))
      have hbwe1 : Below w4.heap.size w4 (((w4.alloc (.cells #[.slice A2 n2 c2] 25)).alloc (.cells #[.slice A3 n3 c3] 25)).alloc (.cells #[.slice A4 n4 c4] 25)) := (by with_reducible repeat (first | exact Below.refl _ _ | refine nxa ?_ _ | refine nxd ?_ _ | refine nxw ?_ | refine nx ?_ (by assumption)))
      generalize (((w4.alloc (.cells #[.slice A2 n2 c2] 25)).alloc (.cells #[.slice A3 n3 c3] 25)).alloc (.cells #[.slice A4 n4 c4] 25)) = we1 at X1 X2 X3 hbwe1  ⊢
      refine (nat_Zero _ _ _ _ _ (h3.to (by with_reducible repeat (first | exact Below.refl _ _ | refine nxa ?_ _ | refine nxd ?_ _ | refine nxw ?_ | refine nx ?_ (by assumption))))).mono ?_
      rw [HY.out]
      rintro e w5 ⟨rfl, hb5⟩
      have d1 := (show Blk1 w5 _ _ _ from X3.to (by with_reducible repeat (first | exact Below.refl _ _ | refine nxa ?_ _ | refine nxd ?_ _ | refine nxw ?_ | refine nx ?_ (by assumption)))).cell
      go_wp2_with fail
      clear d1
      refine (nat_Zero _ _ _ _ _ (h4.to (by with_reducible repeat (first | exact Below.refl _ _ | refine nxa ?_ _ | refine nxd ?_ _ | refine nxw ?_ | refine nx ?_ (by assumption))))).mono ?_
      rw [HZ.out]
      rintro e w6 ⟨rfl, hb6⟩
      have d2 := (show Blk1 w6 _ _ _ from X1.to (by with_reducible repeat (first | exact Below.refl _ _ | refine nxa ?_ _ | refine nxd ?_ _ | refine nxw ?_ | refine nx ?_ (by assumption)))).cell
      have d3 := (show Blk1 w6 _ _ _ from X2.to (by with_reducible repeat (first | exact Below.refl _ _ | refine nxa ?_ _ | refine nxd ?_ _ | refine nxw ?_ | refine nx ?_ (by assumption)))).cell
      go_wp2_with fail
      clear d2 d3
      refine (quot_Div _ _ _ _ _ _ _ _ _ (h2.to (by with_reducible repeat (first | exact Below.refl _ _ | refine nxa ?_ _ | refine nxd ?_ _ | refine nxw ?_ | refine nx ?_ (by assumption)))) (h3.to (by with_reducible repeat (first | exact Below.refl _ _ | refine nxa ?_ _ | refine nxd ?_ _ | refine nxw ?_ | refine nx ?_ (by assumption)))) (by omega) hy1).mono ?_
      rintro e w7 ⟨A7, n7, c7, rfl, h7, hb7⟩
      have q7 := h7.le_of _ (Nat.lt_of_le_of_lt (Nat.div_le_self _ _) h2.lt)
      have d4 := (show Blk1 (w7.alloc (.cells #[.slice A7 n7 c7] 25)) _ _ _ from X3.to (by with_reducible repeat (first | exact Below.refl _ _ | refine nxa ?_ _ | refine nxd ?_ _ | refine nxw ?_ | refine nx ?_ (by assumption)))).cell
      go_wp2_with fail
      clear d4
      have X4 := Blk1.newAt w7 (w7.heap.size) 25 (.slice A7 n7 c7) (by first | rfl | simp)
      have hbwe2 : Below w7.heap.size w7 (w7.alloc (.cells #[.slice A7 n7 c7] 25)) := (by with_reducible repeat (first | exact Below.refl _ _ | refine nxa ?_ _ | refine nxd ?_ _ | refine nxw ?_ | refine nx ?_ (by assumption)))
      generalize (w7.alloc (.cells #[.slice A7 n7 c7] 25)) = we2 at X4 hbwe2  ⊢
      refine (quot_Div _ _ _ _ _ _ _ _ _ (h7.to (by with_reducible repeat (first | exact Below.refl _ _ | refine nxa ?_ _ | refine nxd ?_ _ | refine nxw ?_ | refine nx ?_ (by assumption)))) (h4.to (by with_reducible repeat (first | exact Below.refl _ _ | refine nxa ?_ _ | refine nxd ?_ _ | refine nxw ?_ | refine nx ?_ (by assumption)))) (by omega) hz1).mono ?_
      rintro e w8 ⟨A8, n8, c8, rfl, h8, hb8⟩
      have q8 := h8.le_of _ (Nat.lt_of_le_of_lt (Nat.div_le_self _ _) h7.lt)
      go_wp2_with fail
      have X5 := Blk1.newAt w8 (w8.heap.size) 25 (.slice A8 n8 c8) (by first | rfl | simp)
      have hbwe3 : Below w8.heap.size w8 (w8.alloc (.cells #[.slice A8 n8 c8] 25)) := (by with_reducible repeat (first | exact Below.refl _ _ | refine nxa ?_ _ | refine nxd ?_ _ | refine nxw ?_ | refine nx ?_ (by assumption)))
      generalize (w8.alloc (.cells #[.slice A8 n8 c8] 25)) = we3 at X5 hbwe3  ⊢
      have CX1 := (show Blk1 we3 _ _ _ from X1.to (by with_reducible repeat (first | exact Below.refl _ _ | refine nxa ?_ _ | refine nxd ?_ _ | refine nxw ?_ | refine nx ?_ (by assumption)))).cell
      have CX2 := (show Blk1 we3 _ _ _ from X2.to (by with_reducible repeat (first | exact Below.refl _ _ | refine nxa ?_ _ | refine nxd ?_ _ | refine nxw ?_ | refine nx ?_ (by assumption)))).cell
      have CX3 := (show Blk1 we3 _ _ _ from X3.to (by with_reducible repeat (first | exact Below.refl _ _ | refine nxa ?_ _ | refine nxd ?_ _ | refine nxw ?_ | refine nx ?_ (by assumption)))).cell
      refine wp_regionE [(8, 14, 25, .slice none 0 0)] (by kernel_rfl) (by kernel_rfl) (mk_cons (mk_nat (by simp only [List.getElem?_toArray, List.getElem?_cons_succ, List.getElem?_cons_zero]; rfl) rfl rfl rfl) (mk_nil)) (by exact fun _ _ _ _ _ h => h) (by exact fun _ _ _ _ _ h => h) (f := 10) (by rfl) ?_
      have hbdE1 : Below we3.heap.size we3 we3.drew := nxw (Below.refl _ _)
      generalize we3.drew = wdE1 at hbdE1 ⊢
      replace CX1 := cellB hbdE1 CX1
      replace CX2 := cellB hbdE1 CX2
      replace CX3 := cellB hbdE1 CX3
      have hH := Lib.hid (Below.refl wdE1.heap.size wdE1)
      refine anyE_take (i := 0) (v := ?_) (by simp only [List.getElem?_toArray, List.getElem?_cons_succ, List.getElem?_cons_zero]; rfl) (by kernel_rfl) (by exact fun _ _ _ h => h) (Or.inl ⟨by rfl, ?_⟩) hH.out ?_
      rotate_left
      · intro w hSw; have c := cellB hSw CX1; go_simp; try with_reducible rfl
      try simp only [Act.put, List.setIfInBounds_toArray, List.set_cons_zero, List.set_cons_succ]
      refine anyE_take (i := 1) (v := ?_) (by simp only [List.getElem?_toArray, List.getElem?_cons_succ, List.getElem?_cons_zero]; rfl) (by kernel_rfl) (by exact fun _ _ _ h => h) (Or.inl ⟨by rfl, ?_⟩) hH.out ?_
      rotate_left
      · intro w hSw; have c := cellB hSw CX2; go_simp; try with_reducible rfl
      try simp only [Act.put, List.setIfInBounds_toArray, List.set_cons_zero, List.set_cons_succ]
      refine anyE_take (i := 2) (v := ?_) (by simp only [List.getElem?_toArray, List.getElem?_cons_succ, List.getElem?_cons_zero]; rfl) (by kernel_rfl) (by exact fun _ _ _ h => h) (Or.inl ⟨by rfl, ?_⟩) hH.out ?_
      rotate_left
      · intro w hSw; have c := cellB hSw CX3; go_simp; try with_reducible rfl
      try simp only [Act.put, List.setIfInBounds_toArray, List.set_cons_zero, List.set_cons_succ]
      refine anyE_one (i := 3) (by simp only [List.getElem?_toArray, List.getElem?_cons_succ, List.getElem?_cons_zero]; rfl) (by kernel_rfl) (fun wi1_3 hbwi1_3 K hK => ?_)
      go_simp
      go_at_call 27
      (with_reducible refine (prod_Mul _ _ _ _ _ _ _ _ _ (h3.to (by with_reducible repeat (first | exact Below.refl _ _ | refine nxa ?_ _ | refine nxd ?_ _ | refine nxw ?_ | refine nx ?_ (by assumption)))) (h4.to (by with_reducible repeat (first | exact Below.refl _ _ | refine nxa ?_ _ | refine nxd ?_ _ | refine nxw ?_ | refine nx ?_ (by assumption)))) (by omega)).mono ?_)
      rintro e w9 ⟨A9, n9, c9, rfl, h9, hb9⟩
      have q9 := h9.le_of _ (mul_lt_pow h3.lt h4.lt)
      go_simp
      refine hK.out _ _ (show Below wi1_3.heap.size wi1_3 w9 from (by with_reducible repeat (first | exact Below.refl _ _ | refine nxa ?_ _ | refine nxd ?_ _ | refine nxw ?_ | refine nx ?_ (by assumption)))) ?_
      clear hK K
      replace hH := Lib.hid (nx hH.out (show Below wdE1.heap.size wdE1 w9 from (by with_reducible repeat (first | exact Below.refl _ _ | refine nxa ?_ _ | refine nxd ?_ _ | refine nxw ?_ | refine nx ?_ (by assumption)))))
      try simp only [Act.put, List.setIfInBounds_toArray, List.set_cons_zero, List.set_cons_succ]
      refine anyE_one (i := 4) (by simp only [List.getElem?_toArray, List.getElem?_cons_succ, List.getElem?_cons_zero]; rfl) (by kernel_rfl) (fun wi1_4 hbwi1_4 K hK => ?_)
      go_simp
      go_at_call 41
      (with_reducible refine (quot_Div _ _ _ _ _ _ _ _ _ (h2.to (by with_reducible repeat (first | exact Below.refl _ _ | refine nxa ?_ _ | refine nxd ?_ _ | refine nxw ?_ | refine nx ?_ (by assumption)))) (h9.to (by with_reducible repeat (first | exact Below.refl _ _ | refine nxa ?_ _ | refine nxd ?_ _ | refine nxw ?_ | refine nx ?_ (by assumption)))) (by omega) hyz).mono ?_)
      rintro e w10 ⟨A10, n10, c10, rfl, h10, hb10⟩
      have q10 := h10.le_of _ (Nat.lt_of_le_of_lt (Nat.div_le_self _ _) h2.lt)
      go_simp
      refine hK.out _ _ (show Below wi1_4.heap.size wi1_4 w10 from (by with_reducible repeat (first | exact Below.refl _ _ | refine nxa ?_ _ | refine nxd ?_ _ | refine nxw ?_ | refine nx ?_ (by assumption)))) ?_
      clear hK K
      replace hH := Lib.hid (nx hH.out (show Below w9.heap.size w9 w10 from (by with_reducible repeat (first | exact Below.refl _ _ | refine nxa ?_ _ | refine nxd ?_ _ | refine nxw ?_ | refine nx ?_ (by assumption)))))
      try simp only [Act.put, List.setIfInBounds_toArray, List.set_cons_zero, List.set_cons_succ]
      refine anyE_take (i := 5) (v := ?_) (by simp only [List.getElem?_toArray, List.getElem?_cons_succ, List.getElem?_cons_zero]; rfl) (by kernel_rfl) (by exact fun _ _ _ h => h) (Or.inl ⟨by rfl, ?_⟩) hH.out ?_
      rotate_left
      · intro w hSw; go_simp; try with_reducible rfl
      try simp only [Act.put, List.setIfInBounds_toArray, List.set_cons_zero, List.set_cons_succ]
      refine anyE_take (i := 6) (v := ?_) (by simp only [List.getElem?_toArray, List.getElem?_cons_succ, List.getElem?_cons_zero]; rfl) (by kernel_rfl) (by exact fun _ _ _ h => h) (Or.inl ⟨by rfl, ?_⟩) hH.out ?_
      rotate_left
      · intro w hSw; go_simp; try with_reducible rfl
      try simp only [Act.put, List.setIfInBounds_toArray, List.set_cons_zero, List.set_cons_succ]
      refine anyE_take (i := 7) (v := ?_) (by simp only [List.getElem?_toArray, List.getElem?_cons_succ, List.getElem?_cons_zero]; rfl) (by kernel_rfl) (by exact fun _ _ _ h => h) (Or.inl ⟨by rfl, ?_⟩) hH.out ?_
      rotate_left
      · intro w hSw; go_simp; try with_reducible rfl
      try simp only [Act.put, List.setIfInBounds_toArray, List.set_cons_zero, List.set_cons_succ]
      refine anyE_done (by kernel_rfl) (fun wzE1 hbzE1 => ?_)
      refine FinD_cons (fun gEX6 X6 hgEX6 hnEX6 => ?_)
      clear hnEX6
      refine FinD_nil ?_
      try simp only [Act.put, List.setIfInBounds_toArray, List.set_cons_zero, List.set_cons_succ]
      replace h10 := (show NatAt wzE1 _ _ _ _ from h10.to (by with_reducible repeat (first | exact Below.refl _ _ | refine nxa ?_ _ | refine nxd ?_ _ | refine nxw ?_ | refine nx ?_ (by assumption))))
      have hbtE1 := Lib.hid (show Below we3.heap.size we3 wzE1 from nx hbdE1 (nx hH.out hbzE1))
      clear hH
      refine anyT_ready (rs := [9]) (by kernel_rfl) (by simp) (ReadyT.cons (by simp only [List.getElem?_toArray, List.getElem?_cons_succ, List.getElem?_cons_zero]; rfl) (fun K hK => ?_) ReadyT.nil)
      rw [if_pos (by rfl)]
      refine wp_store_nat _ _ rfl rfl rfl X6 ?_
      replace h10 := h10.put_ X6.cell (.slice A10 n10 c10)
      replace hbtE1 := nxs hbtE1.out (p := ⟨gEX6, 0, none⟩) (Nat.le_trans hbdE1.size hgEX6) (.slice A10 n10 c10)
      replace X6 := X6.set (.slice A10 n10 c10)
      generalize wzE1.setCell ⟨gEX6, 0, none⟩ (.slice A10 n10 c10) = wsE4 at X6 h10 hbtE1 ⊢
      refine hK.out _ _ trivial (fun _ => ?_)
      clear hK K
      try simp only [Act.put, List.setIfInBounds_toArray, List.set_cons_zero, List.set_cons_succ]
      refine anyT_take (i := 10) (v := ?_) (by simp only [List.getElem?_toArray, List.getElem?_cons_succ, List.getElem?_cons_zero]; rfl) (by kernel_rfl) (by kernel_rfl) (by kernel_rfl) (by kernel_rfl) (by exact fun _ _ _ h => h) (Or.inl ⟨by rfl, ?_⟩) trivial ?_
      rotate_left
      · intro w hSw; go_simp; try with_reducible rfl
      try simp only [Act.put, List.setIfInBounds_toArray, List.set_cons_zero, List.set_cons_succ]
      refine anyT_done (by kernel_rfl) ?_ _
      clear CX1 CX2 CX3
      have d5 := (show Blk1 wsE4 _ _ _ from X5.to (by with_reducible repeat (first | exact Below.refl _ _ | refine nxa ?_ _ | refine nxd ?_ _ | refine nxw ?_ | refine nx ?_ (by assumption)))).cell
      have d6 := (show Blk1 wsE4 _ _ _ from X6.to (by with_reducible repeat (first | exact Below.refl _ _ | refine nxa ?_ _ | refine nxd ?_ _ | refine nxw ?_ | refine nx ?_ (by assumption)))).cell
      go_wp2_with fail
      clear d5 d6
      refine (nat_Cmp _ _ _ _ _ _ _ _ _ (h8.to (by with_reducible repeat (first | exact Below.refl _ _ | refine nxa ?_ _ | refine nxd ?_ _ | refine nxw ?_ | refine nx ?_ (by assumption)))) (h10.to (by with_reducible repeat (first | exact Below.refl _ _ | refine nxa ?_ _ | refine nxd ?_ _ | refine nxw ?_ | refine nx ?_ (by assumption))))).mono ?_
      rw [Nat.div_div_eq_div_mul, cmp_eq]
      rintro e w11 ⟨rfl, hb11⟩
      go_wp2_with fail
      go_ret
      exact ⟨rfl, (by with_reducible repeat (first | exact Below.refl _ _ | refine nxa ?_ _ | refine nxd ?_ _ | refine nxw ?_ | refine nx ?_ (by assumption)))⟩
end Go.Proofs.Ytflleaifmeiikaa
