/- The walk of 'QuotNear'. -/
import Derived.Test.YtflleaifmeiikaaAwake4
set_option linter.unusedVariables false
set_option linter.unusedSimpArgs false
namespace Go.Proofs.Ytflleaifmeiikaa
open Go.RowKit
set_option maxRecDepth 100000
theorem near_div {x y : Nat} (hx : 0 < x) (hy : 0 < y) : (x * y - 1) / y = x - 1 ∧ (x * y - 1) % y = y - 1 := by
  have h1 : 1 * y ≤ x * y := Nat.mul_le_mul_right _ hx
  rw [Nat.one_mul] at h1
  have e : x * y - 1 = (y - 1) + (x - 1) * y := by rw [Nat.sub_mul, Nat.one_mul]; omega
  rw [e, Nat.add_mul_div_right _ _ hy, Nat.add_mul_mod_self_right, Nat.div_eq_of_lt (by omega), Nat.mod_eq_of_lt (by omega), Nat.zero_add]
  exact ⟨rfl, rfl⟩
set_option maxHeartbeats 4000000 in
theorem law_QuotNear (A n c x) (A' n' c' y) (w : World) (k1 : Dig .u64 W w A n c x) (k2 : Dig .u64 W w A' n' c' y) (r1 : n ≤ 1048576) (r2 : n' ≤ 1048576) :
    Calls Try.prog 8 #[.slice A n c, .slice A' n' c'] w (Ret w (.bool true)) := by
  by_cases hx0 : x = 0
  · have HX := Lib.hid (decide_eq_true hx0)
    clear hx0
    go_enter Try.func8, Try.ntmps8
    go_wp2_with fail
    refine (awake4 _).mono ?_
    rintro e w1 ⟨rfl, hb1⟩
    go_wp2_with fail
    refine (nat_Of _ _ _ _ _ (k1.to (by with_reducible repeat (first | exact Below.refl _ _ | refine nxa ?_ _ | refine nxd ?_ _ | refine nxw ?_ | refine nx ?_ (by assumption)))) (by omega)).mono ?_
    rintro e w2 ⟨A2, n2, c2, rfl, h2, hb2, m2⟩
    go_wp2_with fail
    refine (nat_Of _ _ _ _ _ (k2.to (by with_reducible repeat (first | exact Below.refl _ _ | refine nxa ?_ _ | refine nxd ?_ _ | refine nxw ?_ | refine nx ?_ (by assumption)))) (by omega)).mono ?_
    rintro e w3 ⟨A3, n3, c3, rfl, h3, hb3, m3⟩
    go_wp2_with fail
    have X1 := Blk1.newAt w3 (w3.heap.size) 25 (.slice A2 n2 c2) (by first | rfl | simp)
    have X2 := Blk1.newAt (w3.alloc (.cells #[.slice A2 n2 c2] 25)) (w3.heap.size + 1) 25 (.slice A3 n3 c3) (by first | rfl | simp)
    replace X1 := (show Blk1 ((w3.alloc (.cells #[.slice A2 n2 c2] 25)).alloc (.cells #[.slice A3 n3 c3] 25)) _ _ _ from X1.to (by with_reducible repeat (first | exact Below.refl _ _ | refine nxa ?_ _ | refine nxd ?_ _ | refine nxw ?_ | refine nx ?_ (by assumption))))
    have hbwe1 : Below w3.heap.size w3 ((w3.alloc (.cells #[.slice A2 n2 c2] 25)).alloc (.cells #[.slice A3 n3 c3] 25)) := (by with_reducible repeat (first | exact Below.refl _ _ | refine nxa ?_ _ | refine nxd ?_ _ | refine nxw ?_ | refine nx ?_ (by assumption)))
    generalize ((w3.alloc (.cells #[.slice A2 n2 c2] 25)).alloc (.cells #[.slice A3 n3 c3] 25)) = we1 at X1 X2 hbwe1  ⊢
    refine (nat_Zero _ _ _ _ _ (h2.to (by with_reducible repeat (first | exact Below.refl _ _ | refine nxa ?_ _ | refine nxd ?_ _ | refine nxw ?_ | refine nx ?_ (by assumption))))).mono ?_
    rw [HX.out]
    rintro e w4 ⟨rfl, hb4⟩
    go_wp2_with fail
    go_ret
    exact ⟨rfl, (by with_reducible repeat (first | exact Below.refl _ _ | refine nxa ?_ _ | refine nxd ?_ _ | refine nxw ?_ | refine nx ?_ (by assumption)))⟩
  · have HX := Lib.hid (decide_eq_false hx0)
    have hx1 : 0 < x := by omega
    clear hx0
    by_cases hy0 : y = 0
    · have HY := Lib.hid (decide_eq_true hy0)
      clear hy0
      go_enter Try.func8, Try.ntmps8
      go_wp2_with fail
      refine (awake4 _).mono ?_
      rintro e w1 ⟨rfl, hb1⟩
      go_wp2_with fail
      refine (nat_Of _ _ _ _ _ (k1.to (by with_reducible repeat (first | exact Below.refl _ _ | refine nxa ?_ _ | refine nxd ?_ _ | refine nxw ?_ | refine nx ?_ (by assumption)))) (by omega)).mono ?_
      rintro e w2 ⟨A2, n2, c2, rfl, h2, hb2, m2⟩
      go_wp2_with fail
      refine (nat_Of _ _ _ _ _ (k2.to (by with_reducible repeat (first | exact Below.refl _ _ | refine nxa ?_ _ | refine nxd ?_ _ | refine nxw ?_ | refine nx ?_ (by assumption)))) (by omega)).mono ?_
      rintro e w3 ⟨A3, n3, c3, rfl, h3, hb3, m3⟩
      go_wp2_with fail
      have X1 := Blk1.newAt w3 (w3.heap.size) 25 (.slice A2 n2 c2) (by first | rfl | simp)
      have X2 := Blk1.newAt (w3.alloc (.cells #[.slice A2 n2 c2] 25)) (w3.heap.size + 1) 25 (.slice A3 n3 c3) (by first | rfl | simp)
      replace X1 := (show Blk1 ((w3.alloc (.cells #[.slice A2 n2 c2] 25)).alloc (.cells #[.slice A3 n3 c3] 25)) _ _ _ from X1.to (by with_reducible repeat (first | exact Below.refl _ _ | refine nxa ?_ _ | refine nxd ?_ _ | refine nxw ?_ | refine nx ?_ (by assumption))))
      have hbwe1 : Below w3.heap.size w3 ((w3.alloc (.cells #[.slice A2 n2 c2] 25)).alloc (.cells #[.slice A3 n3 c3] 25)) := (by with_reducible repeat (first | exact Below.refl _ _ | refine nxa ?_ _ | refine nxd ?_ _ | refine nxw ?_ | refine nx ?_ (by assumption)))
      generalize ((w3.alloc (.cells #[.slice A2 n2 c2] 25)).alloc (.cells #[.slice A3 n3 c3] 25)) = we1 at X1 X2 hbwe1  ⊢
      refine (nat_Zero _ _ _ _ _ (h2.to (by with_reducible repeat (first | exact Below.refl _ _ | refine nxa ?_ _ | refine nxd ?_ _ | refine nxw ?_ | refine nx ?_ (by assumption))))).mono ?_
      rw [HX.out]
      rintro e w4 ⟨rfl, hb4⟩
      have d1 := (show Blk1 w4 _ _ _ from X2.to (by with_reducible repeat (first | exact Below.refl _ _ | refine nxa ?_ _ | refine nxd ?_ _ | refine nxw ?_ | refine nx ?_ (by assumption)))).cell
      go_wp2_with fail
      clear d1
      refine (nat_Zero _ _ _ _ _ (h3.to (by with_reducible repeat (first | exact Below.refl _ _ | refine nxa ?_ _ | refine nxd ?_ _ | refine nxw ?_ | refine nx ?_ (by assumption))))).mono ?_
      rw [HY.out]
      rintro e w5 ⟨rfl, hb5⟩
      go_wp2_with fail
      go_ret
      exact ⟨rfl, (by with_reducible repeat (first | exact Below.refl _ _ | refine nxa ?_ _ | refine nxd ?_ _ | refine nxw ?_ | refine nx ?_ (by assumption)))⟩
    · have HY := Lib.hid (decide_eq_false hy0)
      have hpos : 0 < y := by omega
      clear hy0
      obtain ⟨e1, e2⟩ := near_div hx1 hpos
      have E1 := Lib.hid e1
      have E2 := Lib.hid e2
      clear e1 e2
      have E3 := Lib.hid (Nat.mul_div_cancel x hpos)
      have E4 : Hid (x * y % y = 0) := Lib.hid (Nat.mul_mod_left x y)
      have L1 := Lib.hid (decide_eq_true (show 1 ≤ x * y from Nat.mul_pos hx1 hpos))
      have L2 := Lib.hid (decide_eq_true (show 1 ≤ x from hx1))
      have L3 := Lib.hid (decide_eq_true (show 1 ≤ y from hpos))
      go_enter Try.func8, Try.ntmps8
      go_wp2_with fail
      refine (awake4 _).mono ?_
      rintro e w1 ⟨rfl, hb1⟩
      go_wp2_with fail
      refine (nat_Of _ _ _ _ _ (k1.to (by with_reducible repeat (first | exact Below.refl _ _ | refine nxa ?_ _ | refine nxd ?_ _ | refine nxw ?_ | refine nx ?_ (by assumption)))) (by omega)).mono ?_
      rintro e w2 ⟨A2, n2, c2, rfl, h2, hb2, m2⟩
      go_wp2_with fail
      refine (nat_Of _ _ _ _ _ (k2.to (by with_reducible repeat (first | exact Below.refl _ _ | refine nxa ?_ _ | refine nxd ?_ _ | refine nxw ?_ | refine nx ?_ (by assumption)))) (by omega)).mono ?_
      rintro e w3 ⟨A3, n3, c3, rfl, h3, hb3, m3⟩
      go_wp2_with fail
      have X1 := Blk1.newAt w3 (w3.heap.size) 25 (.slice A2 n2 c2) (by first | rfl | simp)
      have X2 := Blk1.newAt (w3.alloc (.cells #[.slice A2 n2 c2] 25)) (w3.heap.size + 1) 25 (.slice A3 n3 c3) (by first | rfl | simp)
      replace X1 := (show Blk1 ((w3.alloc (.cells #[.slice A2 n2 c2] 25)).alloc (.cells #[.slice A3 n3 c3] 25)) _ _ _ from X1.to (by with_reducible repeat (first | exact Below.refl _ _ | refine nxa ?_ _ | refine nxd ?_ _ | refine nxw ?_ | refine nx ?_ (by assumption))))
      have hbwe1 : Below w3.heap.size w3 ((w3.alloc (.cells #[.slice A2 n2 c2] 25)).alloc (.cells #[.slice A3 n3 c3] 25)) := (by with_reducible repeat (first | exact Below.refl _ _ | refine nxa ?_ _ | refine nxd ?_ _ | refine nxw ?_ | refine nx ?_ (by assumption)))
      generalize ((w3.alloc (.cells #[.slice A2 n2 c2] 25)).alloc (.cells #[.slice A3 n3 c3] 25)) = we1 at X1 X2 hbwe1  ⊢
      refine (nat_Zero _ _ _ _ _ (h2.to (by with_reducible repeat (first | exact Below.refl _ _ | refine nxa ?_ _ | refine nxd ?_ _ | refine nxw ?_ | refine nx ?_ (by assumption))))).mono ?_
      rw [HX.out]
      rintro e w4 ⟨rfl, hb4⟩
      have d1 := (show Blk1 w4 _ _ _ from X2.to (by with_reducible repeat (first | exact Below.refl _ _ | refine nxa ?_ _ | refine nxd ?_ _ | refine nxw ?_ | refine nx ?_ (by assumption)))).cell
      go_wp2_with fail
      clear d1
      refine (nat_Zero _ _ _ _ _ (h3.to (by with_reducible repeat (first | exact Below.refl _ _ | refine nxa ?_ _ | refine nxd ?_ _ | refine nxw ?_ | refine nx ?_ (by assumption))))).mono ?_
      rw [HY.out]
      rintro e w5 ⟨rfl, hb5⟩
      have d2 := (show Blk1 w5 _ _ _ from X1.to (by with_reducible repeat (first | exact Below.refl _ _ | refine nxa ?_ _ | refine nxd ?_ _ | refine nxw ?_ | refine nx ?_ (by assumption)))).cell
      have d3 := (show Blk1 w5 _ _ _ from X2.to (by with_reducible repeat (first | exact Below.refl _ _ | refine nxa ?_ _ | refine nxd ?_ _ | refine nxw ?_ | refine nx ?_ (by assumption)))).cell
      go_wp2_with fail
      clear d2 d3
      refine (prod_Mul _ _ _ _ _ _ _ _ _ (h2.to (by with_reducible repeat (first | exact Below.refl _ _ | refine nxa ?_ _ | refine nxd ?_ _ | refine nxw ?_ | refine nx ?_ (by assumption)))) (h3.to (by with_reducible repeat (first | exact Below.refl _ _ | refine nxa ?_ _ | refine nxd ?_ _ | refine nxw ?_ | refine nx ?_ (by assumption)))) (by omega)).mono ?_
      rintro e w6 ⟨A6, n6, c6, rfl, h6, hb6⟩
      have q6 := h6.le_of _ (mul_lt_pow h2.lt h3.lt)
      go_wp2_with fail
      have X3 := Blk1.newAt w6 (w6.heap.size) 25 (.slice A6 n6 c6) (by first | rfl | simp)
      have hbwe2 : Below w6.heap.size w6 (w6.alloc (.cells #[.slice A6 n6 c6] 25)) := (by with_reducible repeat (first | exact Below.refl _ _ | refine nxa ?_ _ | refine nxd ?_ _ | refine nxw ?_ | refine nx ?_ (by assumption)))
      generalize (w6.alloc (.cells #[.slice A6 n6 c6] 25)) = we2 at X3 hbwe2  ⊢
      have CX3 := (show Blk1 we2 _ _ _ from X3.to (by with_reducible repeat (first | exact Below.refl _ _ | refine nxa ?_ _ | refine nxd ?_ _ | refine nxw ?_ | refine nx ?_ (by assumption)))).cell
      refine wp_regionE [(7, 8, 25, .slice none 0 0)] (by kernel_rfl) (by kernel_rfl) (mk_cons (mk_nat (by simp only [List.getElem?_toArray, List.getElem?_cons_succ, List.getElem?_cons_zero]; rfl) rfl rfl rfl) (mk_nil)) (by exact fun _ _ _ _ _ h => h) (by exact fun _ _ _ _ _ h => h) (f := 9) (by rfl) ?_
      have hbdE1 : Below we2.heap.size we2 we2.drew := nxw (Below.refl _ _)
      generalize we2.drew = wdE1 at hbdE1 ⊢
      replace CX3 := cellB hbdE1 CX3
      have hH := Lib.hid (Below.refl wdE1.heap.size wdE1)
      refine anyE_take (i := 0) (v := ?_) (by simp only [List.getElem?_toArray, List.getElem?_cons_succ, List.getElem?_cons_zero]; rfl) (by kernel_rfl) (by exact fun _ _ _ h => h) (Or.inl ⟨by rfl, ?_⟩) hH.out ?_
      rotate_left
      · intro w hSw; have c := cellB hSw CX3; go_simp; try with_reducible rfl
      try simp only [Act.put, List.setIfInBounds_toArray, List.set_cons_zero, List.set_cons_succ]
      refine anyE_one (i := 1) (by simp only [List.getElem?_toArray, List.getElem?_cons_succ, List.getElem?_cons_zero]; rfl) (by kernel_rfl) (fun wi1_1 hbwi1_1 K hK => ?_)
      go_simp
      go_simp
      have Z3 : Dig .u64 W (wi1_1.alloc (.cells #[.int .u64 1] 30)) (some ⟨wi1_1.heap.size, 0, none⟩) 1 1 1 := dig_oneAt wi1_1 _ _ 1 rfl (by decide)
      have hbz3 := nxa (Below.refl wi1_1.heap.size wi1_1) (.cells #[.int .u64 1] 30)
      generalize wi1_1.alloc (.cells #[.int .u64 1] 30) = wz3 at Z3 hbz3 ⊢
      refine hK.out _ _ (show Below wi1_1.heap.size wi1_1 wz3 from (by with_reducible repeat (first | exact Below.refl _ _ | refine nxa ?_ _ | refine nxd ?_ _ | refine nxw ?_ | refine nx ?_ (by assumption)))) ?_
      clear hK K
      replace hH := Lib.hid (nx hH.out (show Below wdE1.heap.size wdE1 wz3 from (by with_reducible repeat (first | exact Below.refl _ _ | refine nxa ?_ _ | refine nxd ?_ _ | refine nxw ?_ | refine nx ?_ (by assumption)))))
      try simp only [Act.put, List.setIfInBounds_toArray, List.set_cons_zero, List.set_cons_succ]
      refine anyE_one (i := 2) (by simp only [List.getElem?_toArray, List.getElem?_cons_succ, List.getElem?_cons_zero]; rfl) (by kernel_rfl) (fun wi1_2 hbwi1_2 K hK => ?_)
      go_simp
      go_at_call 13
      (with_reducible refine (nat_Of _ _ _ _ _ (Z3.to (by with_reducible repeat (first | exact Below.refl _ _ | refine nxa ?_ _ | refine nxd ?_ _ | refine nxw ?_ | refine nx ?_ (by assumption)))) (by omega)).mono ?_)
      rintro e w7 ⟨A7, n7, c7, rfl, h7, hb7, m7⟩
      go_simp
      refine hK.out _ _ (show Below wi1_2.heap.size wi1_2 w7 from (by with_reducible repeat (first | exact Below.refl _ _ | refine nxa ?_ _ | refine nxd ?_ _ | refine nxw ?_ | refine nx ?_ (by assumption)))) ?_
      clear hK K
      replace hH := Lib.hid (nx hH.out (show Below wz3.heap.size wz3 w7 from (by with_reducible repeat (first | exact Below.refl _ _ | refine nxa ?_ _ | refine nxd ?_ _ | refine nxw ?_ | refine nx ?_ (by assumption)))))
      try simp only [Act.put, List.setIfInBounds_toArray, List.set_cons_zero, List.set_cons_succ]
      refine anyE_one (i := 3) (by simp only [List.getElem?_toArray, List.getElem?_cons_succ, List.getElem?_cons_zero]; rfl) (by kernel_rfl) (fun wi1_3 hbwi1_3 K hK => ?_)
      go_simp
      go_at_call 40
      (with_reducible refine (nat_Sub _ _ _ _ _ _ _ _ _ (h6.to (by with_reducible repeat (first | exact Below.refl _ _ | refine nxa ?_ _ | refine nxd ?_ _ | refine nxw ?_ | refine nx ?_ (by assumption)))) (h7.to (by with_reducible repeat (first | exact Below.refl _ _ | refine nxa ?_ _ | refine nxd ?_ _ | refine nxw ?_ | refine nx ?_ (by assumption)))) (by omega)).mono ?_)
      rw [L1.out]
      rintro e w8 ⟨A8, n8, c8, rfl, h8, hb8⟩
      have q8 := h8.le_of _ (Nat.lt_of_le_of_lt (Nat.sub_le (x * y) 1) h6.lt)
      go_simp
      refine hK.out _ _ (show Below wi1_3.heap.size wi1_3 w8 from (by with_reducible repeat (first | exact Below.refl _ _ | refine nxa ?_ _ | refine nxd ?_ _ | refine nxw ?_ | refine nx ?_ (by assumption)))) ?_
      clear hK K
      replace hH := Lib.hid (nx hH.out (show Below w7.heap.size w7 w8 from (by with_reducible repeat (first | exact Below.refl _ _ | refine nxa ?_ _ | refine nxd ?_ _ | refine nxw ?_ | refine nx ?_ (by assumption)))))
      try simp only [Act.put, List.setIfInBounds_toArray, List.set_cons_zero, List.set_cons_succ]
      refine anyE_take (i := 4) (v := ?_) (by simp only [List.getElem?_toArray, List.getElem?_cons_succ, List.getElem?_cons_zero]; rfl) (by kernel_rfl) (by exact fun _ _ _ h => h) (Or.inl ⟨by rfl, ?_⟩) hH.out ?_
      rotate_left
      · intro w hSw; go_simp; try with_reducible rfl
      try simp only [Act.put, List.setIfInBounds_toArray, List.set_cons_zero, List.set_cons_succ]
      refine anyE_take (i := 5) (v := ?_) (by simp only [List.getElem?_toArray, List.getElem?_cons_succ, List.getElem?_cons_zero]; rfl) (by kernel_rfl) (by exact fun _ _ _ h => h) (Or.inl ⟨by rfl, ?_⟩) hH.out ?_
      rotate_left
      · intro w hSw; go_simp; try with_reducible rfl
      try simp only [Act.put, List.setIfInBounds_toArray, List.set_cons_zero, List.set_cons_succ]
      refine anyE_take (i := 6) (v := ?_) (by simp only [List.getElem?_toArray, List.getElem?_cons_succ, List.getElem?_cons_zero]; rfl) (by kernel_rfl) (by exact fun _ _ _ h => h) (Or.inl ⟨by rfl, ?_⟩) hH.out ?_
      rotate_left
      · intro w hSw; go_simp; try with_reducible rfl
      try simp only [Act.put, List.setIfInBounds_toArray, List.set_cons_zero, List.set_cons_succ]
      refine anyE_done (by kernel_rfl) (fun wzE1 hbzE1 => ?_)
      refine FinD_cons (fun gEX4 X4 hgEX4 hnEX4 => ?_)
      clear hnEX4
      refine FinD_nil ?_
      try simp only [Act.put, List.setIfInBounds_toArray, List.set_cons_zero, List.set_cons_succ]
      replace h8 := (show NatAt wzE1 _ _ _ _ from h8.to (by with_reducible repeat (first | exact Below.refl _ _ | refine nxa ?_ _ | refine nxd ?_ _ | refine nxw ?_ | refine nx ?_ (by assumption))))
      have hbtE1 := Lib.hid (show Below we2.heap.size we2 wzE1 from nx hbdE1 (nx hH.out hbzE1))
      clear hH
      refine anyT_ready (rs := [8]) (by kernel_rfl) (by simp) (ReadyT.cons (by simp only [List.getElem?_toArray, List.getElem?_cons_succ, List.getElem?_cons_zero]; rfl) (fun K hK => ?_) ReadyT.nil)
      rw [if_pos (by rfl)]
      refine wp_store_nat _ _ rfl rfl rfl X4 ?_
      replace h8 := h8.put_ X4.cell (.slice A8 n8 c8)
      replace hbtE1 := nxs hbtE1.out (p := ⟨gEX4, 0, none⟩) (Nat.le_trans hbdE1.size hgEX4) (.slice A8 n8 c8)
      replace X4 := X4.set (.slice A8 n8 c8)
      generalize wzE1.setCell ⟨gEX4, 0, none⟩ (.slice A8 n8 c8) = wsE4 at X4 h8 hbtE1 ⊢
      refine hK.out _ _ trivial (fun _ => ?_)
      clear hK K
      try simp only [Act.put, List.setIfInBounds_toArray, List.set_cons_zero, List.set_cons_succ]
      refine anyT_take (i := 9) (v := ?_) (by simp only [List.getElem?_toArray, List.getElem?_cons_succ, List.getElem?_cons_zero]; rfl) (by kernel_rfl) (by kernel_rfl) (by kernel_rfl) (by kernel_rfl) (by exact fun _ _ _ h => h) (Or.inl ⟨by rfl, ?_⟩) trivial ?_
      rotate_left
      · intro w hSw; go_simp; try with_reducible rfl
      try simp only [Act.put, List.setIfInBounds_toArray, List.set_cons_zero, List.set_cons_succ]
      refine anyT_done (by kernel_rfl) ?_ _
      clear CX3
      have d4 := (show Blk1 wsE4 _ _ _ from X4.to (by with_reducible repeat (first | exact Below.refl _ _ | refine nxa ?_ _ | refine nxd ?_ _ | refine nxw ?_ | refine nx ?_ (by assumption)))).cell
      have d5 := (show Blk1 wsE4 _ _ _ from X2.to (by with_reducible repeat (first | exact Below.refl _ _ | refine nxa ?_ _ | refine nxd ?_ _ | refine nxw ?_ | refine nx ?_ (by assumption)))).cell
      go_wp2_with fail
      clear d4 d5
      refine (quot_DivMod _ _ _ _ _ _ _ _ _ (h8.to (by with_reducible repeat (first | exact Below.refl _ _ | refine nxa ?_ _ | refine nxd ?_ _ | refine nxw ?_ | refine nx ?_ (by assumption)))) (h3.to (by with_reducible repeat (first | exact Below.refl _ _ | refine nxa ?_ _ | refine nxd ?_ _ | refine nxw ?_ | refine nx ?_ (by assumption)))) (by omega) hpos).mono ?_
      rintro e w9 ⟨A9, n9, c9, A9', n9', c9', rfl, h9, h9', hb9⟩
      have q9 := h9.le_of _ (Nat.lt_of_le_of_lt (Nat.div_le_self _ _) h8.lt)
      have q9' := h9'.le_of _ (Nat.lt_of_le_of_lt (Nat.mod_le _ _) h8.lt)
      replace h9 := (show (((x * y) - 1) / y) = (x - 1) from E1.out) ▸ h9
      replace h9' := (show (((x * y) - 1) % y) = (y - 1) from E2.out) ▸ h9'
      go_wp2_with fail
      have X5 := Blk1.newAt w9 (w9.heap.size) 25 (.slice A9 n9 c9) (by first | rfl | simp)
      have X6 := Blk1.newAt (w9.alloc (.cells #[.slice A9 n9 c9] 25)) (w9.heap.size + 1) 25 (.slice A9' n9' c9') (by first | rfl | simp)
      replace X5 := (show Blk1 ((w9.alloc (.cells #[.slice A9 n9 c9] 25)).alloc (.cells #[.slice A9' n9' c9'] 25)) _ _ _ from X5.to (by with_reducible repeat (first | exact Below.refl _ _ | refine nxa ?_ _ | refine nxd ?_ _ | refine nxw ?_ | refine nx ?_ (by assumption))))
      have hbwe5 : Below w9.heap.size w9 ((w9.alloc (.cells #[.slice A9 n9 c9] 25)).alloc (.cells #[.slice A9' n9' c9'] 25)) := (by with_reducible repeat (first | exact Below.refl _ _ | refine nxa ?_ _ | refine nxd ?_ _ | refine nxw ?_ | refine nx ?_ (by assumption)))
      generalize ((w9.alloc (.cells #[.slice A9 n9 c9] 25)).alloc (.cells #[.slice A9' n9' c9'] 25)) = we5 at X5 X6 hbwe5  ⊢
      have CX1 := (show Blk1 we5 _ _ _ from X1.to (by with_reducible repeat (first | exact Below.refl _ _ | refine nxa ?_ _ | refine nxd ?_ _ | refine nxw ?_ | refine nx ?_ (by assumption)))).cell
      refine wp_regionE [(7, 13, 25, .slice none 0 0)] (by kernel_rfl) (by kernel_rfl) (mk_cons (mk_nat (by simp only [List.getElem?_toArray, List.getElem?_cons_succ, List.getElem?_cons_zero]; rfl) rfl rfl rfl) (mk_nil)) (by exact fun _ _ _ _ _ h => h) (by exact fun _ _ _ _ _ h => h) (f := 9) (by rfl) ?_
      have hbdE2 : Below we5.heap.size we5 we5.drew := nxw (Below.refl _ _)
      generalize we5.drew = wdE2 at hbdE2 ⊢
      replace CX1 := cellB hbdE2 CX1
      have hH := Lib.hid (Below.refl wdE2.heap.size wdE2)
      refine anyE_take (i := 0) (v := ?_) (by simp only [List.getElem?_toArray, List.getElem?_cons_succ, List.getElem?_cons_zero]; rfl) (by kernel_rfl) (by exact fun _ _ _ h => h) (Or.inl ⟨by rfl, ?_⟩) hH.out ?_
      rotate_left
      · intro w hSw; have c := cellB hSw CX1; go_simp; try with_reducible rfl
      try simp only [Act.put, List.setIfInBounds_toArray, List.set_cons_zero, List.set_cons_succ]
      refine anyE_one (i := 1) (by simp only [List.getElem?_toArray, List.getElem?_cons_succ, List.getElem?_cons_zero]; rfl) (by kernel_rfl) (fun wi2_1 hbwi2_1 K hK => ?_)
      go_simp
      go_simp
      have Z6 : Dig .u64 W (wi2_1.alloc (.cells #[.int .u64 1] 30)) (some ⟨wi2_1.heap.size, 0, none⟩) 1 1 1 := dig_oneAt wi2_1 _ _ 1 rfl (by decide)
      have hbz6 := nxa (Below.refl wi2_1.heap.size wi2_1) (.cells #[.int .u64 1] 30)
      generalize wi2_1.alloc (.cells #[.int .u64 1] 30) = wz6 at Z6 hbz6 ⊢
      refine hK.out _ _ (show Below wi2_1.heap.size wi2_1 wz6 from (by with_reducible repeat (first | exact Below.refl _ _ | refine nxa ?_ _ | refine nxd ?_ _ | refine nxw ?_ | refine nx ?_ (by assumption)))) ?_
      clear hK K
      replace hH := Lib.hid (nx hH.out (show Below wdE2.heap.size wdE2 wz6 from (by with_reducible repeat (first | exact Below.refl _ _ | refine nxa ?_ _ | refine nxd ?_ _ | refine nxw ?_ | refine nx ?_ (by assumption)))))
      try simp only [Act.put, List.setIfInBounds_toArray, List.set_cons_zero, List.set_cons_succ]
      refine anyE_one (i := 2) (by simp only [List.getElem?_toArray, List.getElem?_cons_succ, List.getElem?_cons_zero]; rfl) (by kernel_rfl) (fun wi2_2 hbwi2_2 K hK => ?_)
      go_simp
      go_at_call 13
      (with_reducible refine (nat_Of _ _ _ _ _ (Z6.to (by with_reducible repeat (first | exact Below.refl _ _ | refine nxa ?_ _ | refine nxd ?_ _ | refine nxw ?_ | refine nx ?_ (by assumption)))) (by omega)).mono ?_)
      rintro e w10 ⟨A10, n10, c10, rfl, h10, hb10, m10⟩
      go_simp
      refine hK.out _ _ (show Below wi2_2.heap.size wi2_2 w10 from (by with_reducible repeat (first | exact Below.refl _ _ | refine nxa ?_ _ | refine nxd ?_ _ | refine nxw ?_ | refine nx ?_ (by assumption)))) ?_
      clear hK K
      replace hH := Lib.hid (nx hH.out (show Below wz6.heap.size wz6 w10 from (by with_reducible repeat (first | exact Below.refl _ _ | refine nxa ?_ _ | refine nxd ?_ _ | refine nxw ?_ | refine nx ?_ (by assumption)))))
      try simp only [Act.put, List.setIfInBounds_toArray, List.set_cons_zero, List.set_cons_succ]
      refine anyE_one (i := 3) (by simp only [List.getElem?_toArray, List.getElem?_cons_succ, List.getElem?_cons_zero]; rfl) (by kernel_rfl) (fun wi2_3 hbwi2_3 K hK => ?_)
      go_simp
      go_at_call 40
      (with_reducible refine (nat_Sub _ _ _ _ _ _ _ _ _ (h2.to (by with_reducible repeat (first | exact Below.refl _ _ | refine nxa ?_ _ | refine nxd ?_ _ | refine nxw ?_ | refine nx ?_ (by assumption)))) (h10.to (by with_reducible repeat (first | exact Below.refl _ _ | refine nxa ?_ _ | refine nxd ?_ _ | refine nxw ?_ | refine nx ?_ (by assumption)))) (by omega)).mono ?_)
      rw [L2.out]
      rintro e w11 ⟨A11, n11, c11, rfl, h11, hb11⟩
      have q11 := h11.le_of _ (Nat.lt_of_le_of_lt (Nat.sub_le x 1) h2.lt)
      go_simp
      refine hK.out _ _ (show Below wi2_3.heap.size wi2_3 w11 from (by with_reducible repeat (first | exact Below.refl _ _ | refine nxa ?_ _ | refine nxd ?_ _ | refine nxw ?_ | refine nx ?_ (by assumption)))) ?_
      clear hK K
      replace hH := Lib.hid (nx hH.out (show Below w10.heap.size w10 w11 from (by with_reducible repeat (first | exact Below.refl _ _ | refine nxa ?_ _ | refine nxd ?_ _ | refine nxw ?_ | refine nx ?_ (by assumption)))))
      try simp only [Act.put, List.setIfInBounds_toArray, List.set_cons_zero, List.set_cons_succ]
      refine anyE_take (i := 4) (v := ?_) (by simp only [List.getElem?_toArray, List.getElem?_cons_succ, List.getElem?_cons_zero]; rfl) (by kernel_rfl) (by exact fun _ _ _ h => h) (Or.inl ⟨by rfl, ?_⟩) hH.out ?_
      rotate_left
      · intro w hSw; go_simp; try with_reducible rfl
      try simp only [Act.put, List.setIfInBounds_toArray, List.set_cons_zero, List.set_cons_succ]
      refine anyE_take (i := 5) (v := ?_) (by simp only [List.getElem?_toArray, List.getElem?_cons_succ, List.getElem?_cons_zero]; rfl) (by kernel_rfl) (by exact fun _ _ _ h => h) (Or.inl ⟨by rfl, ?_⟩) hH.out ?_
      rotate_left
      · intro w hSw; go_simp; try with_reducible rfl
      try simp only [Act.put, List.setIfInBounds_toArray, List.set_cons_zero, List.set_cons_succ]
      refine anyE_take (i := 6) (v := ?_) (by simp only [List.getElem?_toArray, List.getElem?_cons_succ, List.getElem?_cons_zero]; rfl) (by kernel_rfl) (by exact fun _ _ _ h => h) (Or.inl ⟨by rfl, ?_⟩) hH.out ?_
      rotate_left
      · intro w hSw; go_simp; try with_reducible rfl
      try simp only [Act.put, List.setIfInBounds_toArray, List.set_cons_zero, List.set_cons_succ]
      refine anyE_done (by kernel_rfl) (fun wzE2 hbzE2 => ?_)
      refine FinD_cons (fun gEX7 X7 hgEX7 hnEX7 => ?_)
      clear hnEX7
      refine FinD_nil ?_
      try simp only [Act.put, List.setIfInBounds_toArray, List.set_cons_zero, List.set_cons_succ]
      replace h11 := (show NatAt wzE2 _ _ _ _ from h11.to (by with_reducible repeat (first | exact Below.refl _ _ | refine nxa ?_ _ | refine nxd ?_ _ | refine nxw ?_ | refine nx ?_ (by assumption))))
      have hbtE2 := Lib.hid (show Below we5.heap.size we5 wzE2 from nx hbdE2 (nx hH.out hbzE2))
      clear hH
      refine anyT_ready (rs := [8]) (by kernel_rfl) (by simp) (ReadyT.cons (by simp only [List.getElem?_toArray, List.getElem?_cons_succ, List.getElem?_cons_zero]; rfl) (fun K hK => ?_) ReadyT.nil)
      rw [if_pos (by rfl)]
      refine wp_store_nat _ _ rfl rfl rfl X7 ?_
      replace h11 := h11.put_ X7.cell (.slice A11 n11 c11)
      replace hbtE2 := nxs hbtE2.out (p := ⟨gEX7, 0, none⟩) (Nat.le_trans hbdE2.size hgEX7) (.slice A11 n11 c11)
      replace X7 := X7.set (.slice A11 n11 c11)
      generalize wzE2.setCell ⟨gEX7, 0, none⟩ (.slice A11 n11 c11) = wsE7 at X7 h11 hbtE2 ⊢
      refine hK.out _ _ trivial (fun _ => ?_)
      clear hK K
      try simp only [Act.put, List.setIfInBounds_toArray, List.set_cons_zero, List.set_cons_succ]
      refine anyT_take (i := 9) (v := ?_) (by simp only [List.getElem?_toArray, List.getElem?_cons_succ, List.getElem?_cons_zero]; rfl) (by kernel_rfl) (by kernel_rfl) (by kernel_rfl) (by kernel_rfl) (by exact fun _ _ _ h => h) (Or.inl ⟨by rfl, ?_⟩) trivial ?_
      rotate_left
      · intro w hSw; go_simp; try with_reducible rfl
      try simp only [Act.put, List.setIfInBounds_toArray, List.set_cons_zero, List.set_cons_succ]
      refine anyT_done (by kernel_rfl) ?_ _
      clear CX1
      go_wp2_with fail
      have CX2 := (show Blk1 wsE7 _ _ _ from X2.to (by with_reducible repeat (first | exact Below.refl _ _ | refine nxa ?_ _ | refine nxd ?_ _ | refine nxw ?_ | refine nx ?_ (by assumption)))).cell
      refine wp_regionE [(7, 15, 25, .slice none 0 0)] (by kernel_rfl) (by kernel_rfl) (mk_cons (mk_nat (by simp only [List.getElem?_toArray, List.getElem?_cons_succ, List.getElem?_cons_zero]; rfl) rfl rfl rfl) (mk_nil)) (by exact fun _ _ _ _ _ h => h) (by exact fun _ _ _ _ _ h => h) (f := 9) (by rfl) ?_
      have hbdE3 : Below wsE7.heap.size wsE7 wsE7.drew := nxw (Below.refl _ _)
      generalize wsE7.drew = wdE3 at hbdE3 ⊢
      replace CX2 := cellB hbdE3 CX2
      have hH := Lib.hid (Below.refl wdE3.heap.size wdE3)
      refine anyE_take (i := 0) (v := ?_) (by simp only [List.getElem?_toArray, List.getElem?_cons_succ, List.getElem?_cons_zero]; rfl) (by kernel_rfl) (by exact fun _ _ _ h => h) (Or.inl ⟨by rfl, ?_⟩) hH.out ?_
      rotate_left
      · intro w hSw; have c := cellB hSw CX2; go_simp; try with_reducible rfl
      try simp only [Act.put, List.setIfInBounds_toArray, List.set_cons_zero, List.set_cons_succ]
      refine anyE_one (i := 1) (by simp only [List.getElem?_toArray, List.getElem?_cons_succ, List.getElem?_cons_zero]; rfl) (by kernel_rfl) (fun wi3_1 hbwi3_1 K hK => ?_)
      go_simp
      go_simp
      have Z8 : Dig .u64 W (wi3_1.alloc (.cells #[.int .u64 1] 30)) (some ⟨wi3_1.heap.size, 0, none⟩) 1 1 1 := dig_oneAt wi3_1 _ _ 1 rfl (by decide)
      have hbz8 := nxa (Below.refl wi3_1.heap.size wi3_1) (.cells #[.int .u64 1] 30)
      generalize wi3_1.alloc (.cells #[.int .u64 1] 30) = wz8 at Z8 hbz8 ⊢
      refine hK.out _ _ (show Below wi3_1.heap.size wi3_1 wz8 from (by with_reducible repeat (first | exact Below.refl _ _ | refine nxa ?_ _ | refine nxd ?_ _ | refine nxw ?_ | refine nx ?_ (by assumption)))) ?_
      clear hK K
      replace hH := Lib.hid (nx hH.out (show Below wdE3.heap.size wdE3 wz8 from (by with_reducible repeat (first | exact Below.refl _ _ | refine nxa ?_ _ | refine nxd ?_ _ | refine nxw ?_ | refine nx ?_ (by assumption)))))
      try simp only [Act.put, List.setIfInBounds_toArray, List.set_cons_zero, List.set_cons_succ]
      refine anyE_one (i := 2) (by simp only [List.getElem?_toArray, List.getElem?_cons_succ, List.getElem?_cons_zero]; rfl) (by kernel_rfl) (fun wi3_2 hbwi3_2 K hK => ?_)
      go_simp
      go_at_call 13
      (with_reducible refine (nat_Of _ _ _ _ _ (Z8.to (by with_reducible repeat (first | exact Below.refl _ _ | refine nxa ?_ _ | refine nxd ?_ _ | refine nxw ?_ | refine nx ?_ (by assumption)))) (by omega)).mono ?_)
      rintro e w12 ⟨A12, n12, c12, rfl, h12, hb12, m12⟩
      go_simp
      refine hK.out _ _ (show Below wi3_2.heap.size wi3_2 w12 from (by with_reducible repeat (first | exact Below.refl _ _ | refine nxa ?_ _ | refine nxd ?_ _ | refine nxw ?_ | refine nx ?_ (by assumption)))) ?_
      clear hK K
      replace hH := Lib.hid (nx hH.out (show Below wz8.heap.size wz8 w12 from (by with_reducible repeat (first | exact Below.refl _ _ | refine nxa ?_ _ | refine nxd ?_ _ | refine nxw ?_ | refine nx ?_ (by assumption)))))
      try simp only [Act.put, List.setIfInBounds_toArray, List.set_cons_zero, List.set_cons_succ]
      refine anyE_one (i := 3) (by simp only [List.getElem?_toArray, List.getElem?_cons_succ, List.getElem?_cons_zero]; rfl) (by kernel_rfl) (fun wi3_3 hbwi3_3 K hK => ?_)
      go_simp
      go_at_call 40
      (with_reducible refine (nat_Sub _ _ _ _ _ _ _ _ _ (h3.to (by with_reducible repeat (first | exact Below.refl _ _ | refine nxa ?_ _ | refine nxd ?_ _ | refine nxw ?_ | refine nx ?_ (by assumption)))) (h12.to (by with_reducible repeat (first | exact Below.refl _ _ | refine nxa ?_ _ | refine nxd ?_ _ | refine nxw ?_ | refine nx ?_ (by assumption)))) (by omega)).mono ?_)
      rw [L3.out]
      rintro e w13 ⟨A13, n13, c13, rfl, h13, hb13⟩
      have q13 := h13.le_of _ (Nat.lt_of_le_of_lt (Nat.sub_le y 1) h3.lt)
      go_simp
      refine hK.out _ _ (show Below wi3_3.heap.size wi3_3 w13 from (by with_reducible repeat (first | exact Below.refl _ _ | refine nxa ?_ _ | refine nxd ?_ _ | refine nxw ?_ | refine nx ?_ (by assumption)))) ?_
      clear hK K
      replace hH := Lib.hid (nx hH.out (show Below w12.heap.size w12 w13 from (by with_reducible repeat (first | exact Below.refl _ _ | refine nxa ?_ _ | refine nxd ?_ _ | refine nxw ?_ | refine nx ?_ (by assumption)))))
      try simp only [Act.put, List.setIfInBounds_toArray, List.set_cons_zero, List.set_cons_succ]
      refine anyE_take (i := 4) (v := ?_) (by simp only [List.getElem?_toArray, List.getElem?_cons_succ, List.getElem?_cons_zero]; rfl) (by kernel_rfl) (by exact fun _ _ _ h => h) (Or.inl ⟨by rfl, ?_⟩) hH.out ?_
      rotate_left
      · intro w hSw; go_simp; try with_reducible rfl
      try simp only [Act.put, List.setIfInBounds_toArray, List.set_cons_zero, List.set_cons_succ]
      refine anyE_take (i := 5) (v := ?_) (by simp only [List.getElem?_toArray, List.getElem?_cons_succ, List.getElem?_cons_zero]; rfl) (by kernel_rfl) (by exact fun _ _ _ h => h) (Or.inl ⟨by rfl, ?_⟩) hH.out ?_
      rotate_left
      · intro w hSw; go_simp; try with_reducible rfl
      try simp only [Act.put, List.setIfInBounds_toArray, List.set_cons_zero, List.set_cons_succ]
      refine anyE_take (i := 6) (v := ?_) (by simp only [List.getElem?_toArray, List.getElem?_cons_succ, List.getElem?_cons_zero]; rfl) (by kernel_rfl) (by exact fun _ _ _ h => h) (Or.inl ⟨by rfl, ?_⟩) hH.out ?_
      rotate_left
      · intro w hSw; go_simp; try with_reducible rfl
      try simp only [Act.put, List.setIfInBounds_toArray, List.set_cons_zero, List.set_cons_succ]
      refine anyE_done (by kernel_rfl) (fun wzE3 hbzE3 => ?_)
      refine FinD_cons (fun gEX8 X8 hgEX8 hnEX8 => ?_)
      clear hnEX8
      refine FinD_nil ?_
      try simp only [Act.put, List.setIfInBounds_toArray, List.set_cons_zero, List.set_cons_succ]
      replace h13 := (show NatAt wzE3 _ _ _ _ from h13.to (by with_reducible repeat (first | exact Below.refl _ _ | refine nxa ?_ _ | refine nxd ?_ _ | refine nxw ?_ | refine nx ?_ (by assumption))))
      have hbtE3 := Lib.hid (show Below wsE7.heap.size wsE7 wzE3 from nx hbdE3 (nx hH.out hbzE3))
      clear hH
      refine anyT_ready (rs := [8]) (by kernel_rfl) (by simp) (ReadyT.cons (by simp only [List.getElem?_toArray, List.getElem?_cons_succ, List.getElem?_cons_zero]; rfl) (fun K hK => ?_) ReadyT.nil)
      rw [if_pos (by rfl)]
      refine wp_store_nat _ _ rfl rfl rfl X8 ?_
      replace h13 := h13.put_ X8.cell (.slice A13 n13 c13)
      replace hbtE3 := nxs hbtE3.out (p := ⟨gEX8, 0, none⟩) (Nat.le_trans hbdE3.size hgEX8) (.slice A13 n13 c13)
      replace X8 := X8.set (.slice A13 n13 c13)
      generalize wzE3.setCell ⟨gEX8, 0, none⟩ (.slice A13 n13 c13) = wsE9 at X8 h13 hbtE3 ⊢
      refine hK.out _ _ trivial (fun _ => ?_)
      clear hK K
      try simp only [Act.put, List.setIfInBounds_toArray, List.set_cons_zero, List.set_cons_succ]
      refine anyT_take (i := 9) (v := ?_) (by simp only [List.getElem?_toArray, List.getElem?_cons_succ, List.getElem?_cons_zero]; rfl) (by kernel_rfl) (by kernel_rfl) (by kernel_rfl) (by kernel_rfl) (by exact fun _ _ _ h => h) (Or.inl ⟨by rfl, ?_⟩) trivial ?_
      rotate_left
      · intro w hSw; go_simp; try with_reducible rfl
      try simp only [Act.put, List.setIfInBounds_toArray, List.set_cons_zero, List.set_cons_succ]
      refine anyT_done (by kernel_rfl) ?_ _
      clear CX2
      have d6 := (show Blk1 wsE9 _ _ _ from X3.to (by with_reducible repeat (first | exact Below.refl _ _ | refine nxa ?_ _ | refine nxd ?_ _ | refine nxw ?_ | refine nx ?_ (by assumption)))).cell
      have d7 := (show Blk1 wsE9 _ _ _ from X2.to (by with_reducible repeat (first | exact Below.refl _ _ | refine nxa ?_ _ | refine nxd ?_ _ | refine nxw ?_ | refine nx ?_ (by assumption)))).cell
      go_wp2_with fail
      clear d6 d7
      refine (quot_DivMod _ _ _ _ _ _ _ _ _ (h6.to (by with_reducible repeat (first | exact Below.refl _ _ | refine nxa ?_ _ | refine nxd ?_ _ | refine nxw ?_ | refine nx ?_ (by assumption)))) (h3.to (by with_reducible repeat (first | exact Below.refl _ _ | refine nxa ?_ _ | refine nxd ?_ _ | refine nxw ?_ | refine nx ?_ (by assumption)))) (by omega) hpos).mono ?_
      rintro e w14 ⟨A14, n14, c14, A14', n14', c14', rfl, h14, h14', hb14⟩
      have q14 := h14.le_of _ (Nat.lt_of_le_of_lt (Nat.div_le_self _ _) h6.lt)
      have q14' := h14'.le_of _ (Nat.lt_of_le_of_lt (Nat.mod_le _ _) h6.lt)
      replace h14 := (show ((x * y) / y) = x from E3.out) ▸ h14
      replace h14' := (show ((x * y) % y) = 0 from E4.out) ▸ h14'
      have d8 := (show Blk1 ((w14.alloc (.cells #[.slice A14 n14 c14] 25)).alloc (.cells #[.slice A14' n14' c14'] 25)) _ _ _ from X5.to (by with_reducible repeat (first | exact Below.refl _ _ | refine nxa ?_ _ | refine nxd ?_ _ | refine nxw ?_ | refine nx ?_ (by assumption)))).cell
      have d9 := (show Blk1 ((w14.alloc (.cells #[.slice A14 n14 c14] 25)).alloc (.cells #[.slice A14' n14' c14'] 25)) _ _ _ from X7.to (by with_reducible repeat (first | exact Below.refl _ _ | refine nxa ?_ _ | refine nxd ?_ _ | refine nxw ?_ | refine nx ?_ (by assumption)))).cell
      go_wp2_with fail
      clear d8 d9
      have X9 := Blk1.newAt w14 (w14.heap.size) 25 (.slice A14 n14 c14) (by first | rfl | simp)
      have X10 := Blk1.newAt (w14.alloc (.cells #[.slice A14 n14 c14] 25)) (w14.heap.size + 1) 25 (.slice A14' n14' c14') (by first | rfl | simp)
      replace X9 := (show Blk1 ((w14.alloc (.cells #[.slice A14 n14 c14] 25)).alloc (.cells #[.slice A14' n14' c14'] 25)) _ _ _ from X9.to (by with_reducible repeat (first | exact Below.refl _ _ | refine nxa ?_ _ | refine nxd ?_ _ | refine nxw ?_ | refine nx ?_ (by assumption))))
      have hbwe10 : Below w14.heap.size w14 ((w14.alloc (.cells #[.slice A14 n14 c14] 25)).alloc (.cells #[.slice A14' n14' c14'] 25)) := (by with_reducible repeat (first | exact Below.refl _ _ | refine nxa ?_ _ | refine nxd ?_ _ | refine nxw ?_ | refine nx ?_ (by assumption)))
      generalize ((w14.alloc (.cells #[.slice A14 n14 c14] 25)).alloc (.cells #[.slice A14' n14' c14'] 25)) = we10 at X9 X10 hbwe10  ⊢
      refine (nat_Cmp _ _ _ _ _ _ _ _ _ (h9.to (by with_reducible repeat (first | exact Below.refl _ _ | refine nxa ?_ _ | refine nxd ?_ _ | refine nxw ?_ | refine nx ?_ (by assumption)))) (h11.to (by with_reducible repeat (first | exact Below.refl _ _ | refine nxa ?_ _ | refine nxd ?_ _ | refine nxw ?_ | refine nx ?_ (by assumption))))).mono ?_
      rw [cmp_eq]
      rintro e w15 ⟨rfl, hb15⟩
      have d10 := (show Blk1 w15 _ _ _ from X6.to (by with_reducible repeat (first | exact Below.refl _ _ | refine nxa ?_ _ | refine nxd ?_ _ | refine nxw ?_ | refine nx ?_ (by assumption)))).cell
      have d11 := (show Blk1 w15 _ _ _ from X8.to (by with_reducible repeat (first | exact Below.refl _ _ | refine nxa ?_ _ | refine nxd ?_ _ | refine nxw ?_ | refine nx ?_ (by assumption)))).cell
      go_wp2_with fail
      clear d10 d11
      refine (nat_Cmp _ _ _ _ _ _ _ _ _ (h9'.to (by with_reducible repeat (first | exact Below.refl _ _ | refine nxa ?_ _ | refine nxd ?_ _ | refine nxw ?_ | refine nx ?_ (by assumption)))) (h13.to (by with_reducible repeat (first | exact Below.refl _ _ | refine nxa ?_ _ | refine nxd ?_ _ | refine nxw ?_ | refine nx ?_ (by assumption))))).mono ?_
      rw [cmp_eq]
      rintro e w16 ⟨rfl, hb16⟩
      have d12 := (show Blk1 w16 _ _ _ from X9.to (by with_reducible repeat (first | exact Below.refl _ _ | refine nxa ?_ _ | refine nxd ?_ _ | refine nxw ?_ | refine nx ?_ (by assumption)))).cell
      have d13 := (show Blk1 w16 _ _ _ from X1.to (by with_reducible repeat (first | exact Below.refl _ _ | refine nxa ?_ _ | refine nxd ?_ _ | refine nxw ?_ | refine nx ?_ (by assumption)))).cell
      go_wp2_with fail
      clear d12 d13
      refine (nat_Cmp _ _ _ _ _ _ _ _ _ (h14.to (by with_reducible repeat (first | exact Below.refl _ _ | refine nxa ?_ _ | refine nxd ?_ _ | refine nxw ?_ | refine nx ?_ (by assumption)))) (h2.to (by with_reducible repeat (first | exact Below.refl _ _ | refine nxa ?_ _ | refine nxd ?_ _ | refine nxw ?_ | refine nx ?_ (by assumption))))).mono ?_
      rw [cmp_eq]
      rintro e w17 ⟨rfl, hb17⟩
      have d14 := (show Blk1 w17 _ _ _ from X10.to (by with_reducible repeat (first | exact Below.refl _ _ | refine nxa ?_ _ | refine nxd ?_ _ | refine nxw ?_ | refine nx ?_ (by assumption)))).cell
      go_wp2_with fail
      clear d14
      refine (nat_Zero _ _ _ _ _ (h14'.to (by with_reducible repeat (first | exact Below.refl _ _ | refine nxa ?_ _ | refine nxd ?_ _ | refine nxw ?_ | refine nx ?_ (by assumption))))).mono ?_
      rw [decide_eq_true (show (0 : Nat) = 0 from rfl)]
      rintro e w18 ⟨rfl, hb18⟩
      go_wp2_with fail
      go_ret
      exact ⟨rfl, (by with_reducible repeat (first | exact Below.refl _ _ | refine nxa ?_ _ | refine nxd ?_ _ | refine nxw ?_ | refine nx ?_ (by assumption)))⟩
end Go.Proofs.Ytflleaifmeiikaa
