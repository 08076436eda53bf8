/- The walk of 'QuotFactors'. -/
import Derived.Test.YtflleaifmeiikaaAwake4
set_option linter.unusedVariables false
set_option linter.unusedSimpArgs false
namespace Go.Proofs.Ytflleaifmeiikaa
open Go.RowKit
set_option maxRecDepth 100000
set_option maxHeartbeats 4000000 in
theorem law_QuotFactors (A n c x) (A' n' c' y) (A'' n'' c'' z) (w : World) (k1 : Dig .u64 W w A n c x) (k2 : Dig .u64 W w A' n' c' y) (k3 : Dig .u64 W w A'' n'' c'' z) (r1 : n ≤ 1048576) (r2 : n' ≤ 1048576) (r3 : n'' ≤ 1048576) :
    Calls Try.prog 9 #[.slice A n c, .slice A' n' c', .slice A'' n'' c''] w (Ret w (.bool true)) := by
  by_cases h1 : x ∣ y
  · have H1 := Lib.hid (decide_eq_true h1)
    by_cases h2 : y ∣ x
    · obtain rfl := Nat.dvd_antisymm h1 h2
      have H3 := Lib.hid (cmp_eq x)
      clear h1 h2
      go_enter Try.func9, Try.ntmps9
      go_wp2_with fail
      refine (awake4 _).mono ?_
      rintro e w1 ⟨rfl, hb1⟩
      go_wp2_with fail
      refine (nat_Of _ _ _ _ _ (k1.to (by with_reducible repeat (first | exact Below.refl _ _ | refine nxa ?_ _ | refine nxd ?_ _ | refine nxw ?_ | refine nx ?_ (by assumption)))) (by omega)).mono ?_
      rintro e w2 ⟨A2, n2, c2, rfl, h2, hb2, m2⟩
      go_wp2_with fail
      refine (nat_Of _ _ _ _ _ (k2.to (by with_reducible repeat (first | exact Below.refl _ _ | refine nxa ?_ _ | refine nxd ?_ _ | refine nxw ?_ | refine nx ?_ (by assumption)))) (by omega)).mono ?_
      rintro e w3 ⟨A3, n3, c3, rfl, h3, hb3, m3⟩
      go_wp2_with fail
      refine (nat_Of _ _ _ _ _ (k3.to (by with_reducible repeat (first | exact Below.refl _ _ | refine nxa ?_ _ | refine nxd ?_ _ | refine nxw ?_ | refine nx ?_ (by assumption)))) (by omega)).mono ?_
      rintro e w4 ⟨A4, n4, c4, rfl, h4, hb4, m4⟩
      go_wp2_with fail
      have X1 := Blk1.newAt w4 (w4.heap.size) 25 (.slice A2 n2 c2) (by first | rfl | simp)
      have X2 := Blk1.newAt (w4.alloc (.cells #[.slice A2 n2 c2] 25)) (w4.heap.size + 1) 25 (.slice A3 n3 c3) (by first | rfl | simp)
      have X3 := Blk1.newAt ((w4.alloc (.cells #[.slice A2 n2 c2] 25)).alloc (.cells #[.slice A3 n3 c3] 25)) (w4.heap.size + 1 + 1) 25 (.slice A4 n4 c4) (by first | rfl | simp)
      replace X1 := (show Blk1 (((w4.alloc (.cells #[.slice A2 n2 c2] 25)).alloc (.cells #[.slice A3 n3 c3] 25)).alloc (.cells #[.slice A4 n4 c4] 25)) _ _ _ from X1.to (by with_reducible repeat (first | exact Below.refl _ _ | refine nxa ?_ _ | refine nxd ?_ _ | refine nxw ?_ | refine nx ?_ (by assumption))))
      replace X2 := (show Blk1 (((w4.alloc (.cells #[.slice A2 n2 c2] 25)).alloc (.cells #[.slice A3 n3 c3] 25)).alloc (.cells #[.slice A4 n4 c4] 25)) _ _ _ from X2.to (by with_reducible repeat (first | exact Below.refl _ _ | refine nxa ?_ _ | refine nxd ?_ _ | refine nxw ?_ | refine nx ?_ (by assumption))))
      have hbwe1 : Below w4.heap.size w4 (((w4.alloc (.cells #[.slice A2 n2 c2] 25)).alloc (.cells #[.slice A3 n3 c3] 25)).alloc (.cells #[.slice A4 n4 c4] 25)) := (by with_reducible repeat (first | exact Below.refl _ _ | refine nxa ?_ _ | refine nxd ?_ _ | refine nxw ?_ | refine nx ?_ (by assumption)))
      generalize (((w4.alloc (.cells #[.slice A2 n2 c2] 25)).alloc (.cells #[.slice A3 n3 c3] 25)).alloc (.cells #[.slice A4 n4 c4] 25)) = we1 at X1 X2 X3 hbwe1  ⊢
      have CX1 := (show Blk1 we1 _ _ _ from X1.to (by with_reducible repeat (first | exact Below.refl _ _ | refine nxa ?_ _ | refine nxd ?_ _ | refine nxw ?_ | refine nx ?_ (by assumption)))).cell
      have CX3 := (show Blk1 we1 _ _ _ from X3.to (by with_reducible repeat (first | exact Below.refl _ _ | refine nxa ?_ _ | refine nxd ?_ _ | refine nxw ?_ | refine nx ?_ (by assumption)))).cell
      have CX2 := (show Blk1 we1 _ _ _ from X2.to (by with_reducible repeat (first | exact Below.refl _ _ | refine nxa ?_ _ | refine nxd ?_ _ | refine nxw ?_ | refine nx ?_ (by assumption)))).cell
      refine wp_regionE [(6, 10, 25, .slice none 0 0), (7, 11, 25, .slice none 0 0)] (by kernel_rfl) (by kernel_rfl) (mk_cons (mk_nat (by simp only [List.getElem?_toArray, List.getElem?_cons_succ, List.getElem?_cons_zero]; rfl) rfl rfl rfl) (mk_cons (mk_nat (by simp only [List.getElem?_toArray, List.getElem?_cons_succ, List.getElem?_cons_zero]; rfl) rfl rfl rfl) (mk_nil))) (by exact fun _ _ _ _ _ h => h) (by exact fun _ _ _ _ _ h => h) (f := 8) (by rfl) ?_
      have hbdE1 : Below we1.heap.size we1 we1.drew := nxw (Below.refl _ _)
      generalize we1.drew = wdE1 at hbdE1 ⊢
      replace CX1 := cellB hbdE1 CX1
      replace CX3 := cellB hbdE1 CX3
      replace CX2 := cellB hbdE1 CX2
      have hH := Lib.hid (Below.refl wdE1.heap.size wdE1)
      refine anyE_take (i := 0) (v := ?_) (by simp only [List.getElem?_toArray, List.getElem?_cons_succ, List.getElem?_cons_zero]; rfl) (by kernel_rfl) (by exact fun _ _ _ h => h) (Or.inl ⟨by rfl, ?_⟩) hH.out ?_
      rotate_left
      · intro w hSw; have c := cellB hSw CX1; go_simp; try with_reducible rfl
      try simp only [Act.put, List.setIfInBounds_toArray, List.set_cons_zero, List.set_cons_succ]
      refine anyE_take (i := 1) (v := ?_) (by simp only [List.getElem?_toArray, List.getElem?_cons_succ, List.getElem?_cons_zero]; rfl) (by kernel_rfl) (by exact fun _ _ _ h => h) (Or.inl ⟨by rfl, ?_⟩) hH.out ?_
      rotate_left
      · intro w hSw; have c := cellB hSw CX3; go_simp; try with_reducible rfl
      try simp only [Act.put, List.setIfInBounds_toArray, List.set_cons_zero, List.set_cons_succ]
      refine anyE_take (i := 3) (v := ?_) (by simp only [List.getElem?_toArray, List.getElem?_cons_succ, List.getElem?_cons_zero]; rfl) (by kernel_rfl) (by exact fun _ _ _ h => h) (Or.inl ⟨by rfl, ?_⟩) hH.out ?_
      rotate_left
      · intro w hSw; have c := cellB hSw CX2; go_simp; try with_reducible rfl
      try simp only [Act.put, List.setIfInBounds_toArray, List.set_cons_zero, List.set_cons_succ]
      refine anyE_take (i := 4) (v := ?_) (by simp only [List.getElem?_toArray, List.getElem?_cons_succ, List.getElem?_cons_zero]; rfl) (by kernel_rfl) (by exact fun _ _ _ h => h) (Or.inl ⟨by rfl, ?_⟩) hH.out ?_
      rotate_left
      · intro w hSw; have c := cellB hSw CX3; go_simp; try with_reducible rfl
      try simp only [Act.put, List.setIfInBounds_toArray, List.set_cons_zero, List.set_cons_succ]
      refine anyE_one (i := 2) (by simp only [List.getElem?_toArray, List.getElem?_cons_succ, List.getElem?_cons_zero]; rfl) (by kernel_rfl) (fun wi1_2 hbwi1_2 K hK => ?_)
      go_simp
      go_at_call 27
      (with_reducible refine (prod_Mul _ _ _ _ _ _ _ _ _ (h2.to (by with_reducible repeat (first | exact Below.refl _ _ | refine nxa ?_ _ | refine nxd ?_ _ | refine nxw ?_ | refine nx ?_ (by assumption)))) (h4.to (by with_reducible repeat (first | exact Below.refl _ _ | refine nxa ?_ _ | refine nxd ?_ _ | refine nxw ?_ | refine nx ?_ (by assumption)))) (by omega)).mono ?_)
      rintro e w5 ⟨A5, n5, c5, rfl, h5, hb5⟩
      have q5 := h5.le_of _ (mul_lt_pow h2.lt h4.lt)
      go_simp
      refine hK.out _ _ (show Below wi1_2.heap.size wi1_2 w5 from (by with_reducible repeat (first | exact Below.refl _ _ | refine nxa ?_ _ | refine nxd ?_ _ | refine nxw ?_ | refine nx ?_ (by assumption)))) ?_
      clear hK K
      replace hH := Lib.hid (nx hH.out (show Below wdE1.heap.size wdE1 w5 from (by with_reducible repeat (first | exact Below.refl _ _ | refine nxa ?_ _ | refine nxd ?_ _ | refine nxw ?_ | refine nx ?_ (by assumption)))))
      try simp only [Act.put, List.setIfInBounds_toArray, List.set_cons_zero, List.set_cons_succ]
      refine anyE_one (i := 5) (by simp only [List.getElem?_toArray, List.getElem?_cons_succ, List.getElem?_cons_zero]; rfl) (by kernel_rfl) (fun wi1_5 hbwi1_5 K hK => ?_)
      go_simp
      go_at_call 27
      (with_reducible refine (prod_Mul _ _ _ _ _ _ _ _ _ (h3.to (by with_reducible repeat (first | exact Below.refl _ _ | refine nxa ?_ _ | refine nxd ?_ _ | refine nxw ?_ | refine nx ?_ (by assumption)))) (h4.to (by with_reducible repeat (first | exact Below.refl _ _ | refine nxa ?_ _ | refine nxd ?_ _ | refine nxw ?_ | refine nx ?_ (by assumption)))) (by omega)).mono ?_)
      rintro e w6 ⟨A6, n6, c6, rfl, h6, hb6⟩
      have q6 := h6.le_of _ (mul_lt_pow h3.lt h4.lt)
      go_simp
      refine hK.out _ _ (show Below wi1_5.heap.size wi1_5 w6 from (by with_reducible repeat (first | exact Below.refl _ _ | refine nxa ?_ _ | refine nxd ?_ _ | refine nxw ?_ | refine nx ?_ (by assumption)))) ?_
      clear hK K
      replace hH := Lib.hid (nx hH.out (show Below w5.heap.size w5 w6 from (by with_reducible repeat (first | exact Below.refl _ _ | refine nxa ?_ _ | refine nxd ?_ _ | refine nxw ?_ | refine nx ?_ (by assumption)))))
      try simp only [Act.put, List.setIfInBounds_toArray, List.set_cons_zero, List.set_cons_succ]
      refine anyE_done (by kernel_rfl) (fun wzE1 hbzE1 => ?_)
      refine FinD_cons (fun gEX4 X4 hgEX4 hnEX4 => ?_)
      clear hnEX4
      refine FinD_cons (fun gEX5 X5 hgEX5 hnEX5 => ?_)
      have nEX5X4 : gEX5 ≠ gEX4 := fun e => hnEX5 (by simp [e])
      clear hnEX5
      refine FinD_nil ?_
      try simp only [Act.put, List.setIfInBounds_toArray, List.set_cons_zero, List.set_cons_succ]
      replace h5 := (show NatAt wzE1 _ _ _ _ from h5.to (by with_reducible repeat (first | exact Below.refl _ _ | refine nxa ?_ _ | refine nxd ?_ _ | refine nxw ?_ | refine nx ?_ (by assumption))))
      replace h6 := (show NatAt wzE1 _ _ _ _ from h6.to (by with_reducible repeat (first | exact Below.refl _ _ | refine nxa ?_ _ | refine nxd ?_ _ | refine nxw ?_ | refine nx ?_ (by assumption))))
      have hbtE1 := Lib.hid (show Below we1.heap.size we1 wzE1 from nx hbdE1 (nx hH.out hbzE1))
      clear hH
      refine anyT_ready (rs := [8]) (by kernel_rfl) (by simp) (ReadyT.cons (by simp only [List.getElem?_toArray, List.getElem?_cons_succ, List.getElem?_cons_zero]; rfl) (fun K hK => ?_) ReadyT.nil)
      rw [if_pos (by rfl)]
      refine wp_store_nat _ _ rfl rfl rfl X4 ?_
      replace X5 := X5.far (p := ⟨gEX4, 0, none⟩) nEX5X4 (.slice A5 n5 c5)
      replace h5 := h5.put_ X4.cell (.slice A5 n5 c5)
      replace h6 := h6.put_ X4.cell (.slice A5 n5 c5)
      replace hbtE1 := nxs hbtE1.out (p := ⟨gEX4, 0, none⟩) (Nat.le_trans hbdE1.size hgEX4) (.slice A5 n5 c5)
      replace X4 := X4.set (.slice A5 n5 c5)
      generalize wzE1.setCell ⟨gEX4, 0, none⟩ (.slice A5 n5 c5) = wsE2 at X4 X5 h5 h6 hbtE1 ⊢
      refine hK.out _ _ trivial (fun _ => ?_)
      clear hK K
      try simp only [Act.put, List.setIfInBounds_toArray, List.set_cons_zero, List.set_cons_succ]
      refine anyT_ready (rs := [9]) (by kernel_rfl) (by simp) (ReadyT.cons (by simp only [List.getElem?_toArray, List.getElem?_cons_succ, List.getElem?_cons_zero]; rfl) (fun K hK => ?_) ReadyT.nil)
      rw [if_pos (by rfl)]
      refine wp_store_nat _ _ rfl rfl rfl X5 ?_
      replace X4 := X4.far (p := ⟨gEX5, 0, none⟩) (Ne.symm nEX5X4) (.slice A6 n6 c6)
      replace h5 := h5.put_ X5.cell (.slice A6 n6 c6)
      replace h6 := h6.put_ X5.cell (.slice A6 n6 c6)
      replace hbtE1 := nxs hbtE1 (p := ⟨gEX5, 0, none⟩) (Nat.le_trans hbdE1.size hgEX5) (.slice A6 n6 c6)
      replace X5 := X5.set (.slice A6 n6 c6)
      generalize wsE2.setCell ⟨gEX5, 0, none⟩ (.slice A6 n6 c6) = wsE3 at X5 X4 h5 h6 hbtE1 ⊢
      refine hK.out _ _ trivial (fun _ => ?_)
      clear hK K
      try simp only [Act.put, List.setIfInBounds_toArray, List.set_cons_zero, List.set_cons_succ]
      refine anyT_done (by kernel_rfl) ?_ _
      clear CX1 CX3 CX2
      go_wp2_with fail
      have CX3 := (show Blk1 wsE3 _ _ _ from X3.to (by with_reducible repeat (first | exact Below.refl _ _ | refine nxa ?_ _ | refine nxd ?_ _ | refine nxw ?_ | refine nx ?_ (by assumption)))).cell
      have CX4 := (show Blk1 wsE3 _ _ _ from X4.to (by with_reducible repeat (first | exact Below.refl _ _ | refine nxa ?_ _ | refine nxd ?_ _ | refine nxw ?_ | refine nx ?_ (by assumption)))).cell
      have CX5 := (show Blk1 wsE3 _ _ _ from X5.to (by with_reducible repeat (first | exact Below.refl _ _ | refine nxa ?_ _ | refine nxd ?_ _ | refine nxw ?_ | refine nx ?_ (by assumption)))).cell
      have CX1 := (show Blk1 wsE3 _ _ _ from X1.to (by with_reducible repeat (first | exact Below.refl _ _ | refine nxa ?_ _ | refine nxd ?_ _ | refine nxw ?_ | refine nx ?_ (by assumption)))).cell
      have CX2 := (show Blk1 wsE3 _ _ _ from X2.to (by with_reducible repeat (first | exact Below.refl _ _ | refine nxa ?_ _ | refine nxd ?_ _ | refine nxw ?_ | refine nx ?_ (by assumption)))).cell
      have KP1 : ∀ w', Below wsE3.heap.size wsE3 w' → w'.cell? ⟨w4.heap.size + 1 + 1, 0, none⟩ = some (.slice A4 n4 c4) ∧ w'.cell? ⟨gEX4, 0, none⟩ = some (.slice A5 n5 c5) ∧ w'.cell? ⟨gEX5, 0, none⟩ = some (.slice A6 n6 c6) ∧ w'.cell? ⟨w4.heap.size, 0, none⟩ = some (.slice A2 n2 c2) ∧ w'.cell? ⟨w4.heap.size + 1, 0, none⟩ = some (.slice A3 n3 c3) ∧ True := fun w' hw' => ⟨cellB hw' CX3, cellB hw' CX4, cellB hw' CX5, cellB hw' CX1, cellB hw' CX2, trivial⟩
      refine wp_regionT (S := fun w' => w'.cell? ⟨w4.heap.size + 1 + 1, 0, none⟩ = some (.slice A4 n4 c4) ∧ w'.cell? ⟨gEX4, 0, none⟩ = some (.slice A5 n5 c5) ∧ w'.cell? ⟨gEX5, 0, none⟩ = some (.slice A6 n6 c6) ∧ w'.cell? ⟨w4.heap.size, 0, none⟩ = some (.slice A2 n2 c2) ∧ w'.cell? ⟨w4.heap.size + 1, 0, none⟩ = some (.slice A3 n3 c3) ∧ True) [] (by kernel_rfl) (KP1 _ (by with_reducible repeat (first | exact Below.refl _ _ | refine nxa ?_ _ | refine nxd ?_ _ | refine nxw ?_ | refine nx ?_ (by assumption)))) (fun hHeld => ?_)
      have hbd1 : Below wsE3.heap.size wsE3 wsE3.drew := nxw (Below.refl _ _)
      generalize wsE3.drew = wd1 at hHeld hbd1 ⊢
      refine anyT_take (i := 0) (v := ?_) (by simp only [List.getElem?_toArray, List.getElem?_cons_succ, List.getElem?_cons_zero]; rfl) (by kernel_rfl) (by kernel_rfl) (by kernel_rfl) (by kernel_rfl) (by exact fun _ _ _ h => h) (Or.inl ⟨by rfl, ?_⟩) (by assumption) ?_
      rotate_left
      · intro w hSw; (try dsimp only at hSw); go_simp; try with_reducible rfl
      try simp only [Act.put, List.setIfInBounds_toArray, List.set_cons_zero, List.set_cons_succ]
      refine anyT_take (i := 1) (v := ?_) (by simp only [List.getElem?_toArray, List.getElem?_cons_succ, List.getElem?_cons_zero]; rfl) (by kernel_rfl) (by kernel_rfl) (by kernel_rfl) (by kernel_rfl) (by exact fun _ _ _ h => h) (Or.inl ⟨by rfl, ?_⟩) (by assumption) ?_
      rotate_left
      · intro w hSw; (try dsimp only at hSw); go_simp; try with_reducible rfl
      try simp only [Act.put, List.setIfInBounds_toArray, List.set_cons_zero, List.set_cons_succ]
      refine anyT_ready (rs := [2]) (by kernel_rfl) (by simp) (ReadyT.cons (by simp only [List.getElem?_toArray, List.getElem?_cons_succ, List.getElem?_cons_zero]; rfl) (fun K hK => ?_) ReadyT.nil)
      go_simp
      go_at_call 34
      (with_reducible refine (quot_Divides _ _ _ _ _ _ _ _ _ (h4.to (by with_reducible repeat (first | exact Below.refl _ _ | refine nxa ?_ _ | refine nxd ?_ _ | refine nxw ?_ | refine nx ?_ (by assumption)))) (h5.to (by with_reducible repeat (first | exact Below.refl _ _ | refine nxa ?_ _ | refine nxd ?_ _ | refine nxw ?_ | refine nx ?_ (by assumption)))) (by omega)).mono ?_)
      rw [decide_eq_true (Nat.dvd_mul_left z x)]
      rintro e w7 ⟨rfl, hb7⟩
      go_simp
      refine hK.out _ _ (KP1 _ (by with_reducible repeat (first | exact Below.refl _ _ | refine nxa ?_ _ | refine nxd ?_ _ | refine nxw ?_ | refine nx ?_ (by assumption)))) (fun hHeld => ?_)
      clear hK K
      try simp only [Act.put, List.setIfInBounds_toArray, List.set_cons_zero, List.set_cons_succ]
      refine anyT_take (i := 3) (v := ?_) (by simp only [List.getElem?_toArray, List.getElem?_cons_succ, List.getElem?_cons_zero]; rfl) (by kernel_rfl) (by kernel_rfl) (by kernel_rfl) (by kernel_rfl) (by exact fun _ _ _ h => h) (Or.inl ⟨by rfl, ?_⟩) (by assumption) ?_
      rotate_left
      · intro w hSw; (try dsimp only at hSw); go_simp; try with_reducible rfl
      try simp only [Act.put, List.setIfInBounds_toArray, List.set_cons_zero, List.set_cons_succ]
      refine anyT_take (i := 4) (v := ?_) (by simp only [List.getElem?_toArray, List.getElem?_cons_succ, List.getElem?_cons_zero]; rfl) (by kernel_rfl) (by kernel_rfl) (by kernel_rfl) (by kernel_rfl) (by exact fun _ _ _ h => h) (Or.inl ⟨by rfl, ?_⟩) (by assumption) ?_
      rotate_left
      · intro w hSw; (try dsimp only at hSw); go_simp; try with_reducible rfl
      try simp only [Act.put, List.setIfInBounds_toArray, List.set_cons_zero, List.set_cons_succ]
      refine anyT_take (i := 5) (v := ?_) (by simp only [List.getElem?_toArray, List.getElem?_cons_succ, List.getElem?_cons_zero]; rfl) (by kernel_rfl) (by kernel_rfl) (by kernel_rfl) (by kernel_rfl) (by exact fun _ _ _ h => h) (Or.inl ⟨by rfl, ?_⟩) (by assumption) ?_
      rotate_left
      · intro w hSw; (try dsimp only at hSw); go_simp; try with_reducible rfl
      try simp only [Act.put, List.setIfInBounds_toArray, List.set_cons_zero, List.set_cons_succ]
      refine anyT_take (i := 6) (v := ?_) (by simp only [List.getElem?_toArray, List.getElem?_cons_succ, List.getElem?_cons_zero]; rfl) (by kernel_rfl) (by kernel_rfl) (by kernel_rfl) (by kernel_rfl) (by exact fun _ _ _ h => h) (Or.inl ⟨by rfl, ?_⟩) (by assumption) ?_
      rotate_left
      · intro w hSw; (try dsimp only at hSw); go_simp; try with_reducible rfl
      try simp only [Act.put, List.setIfInBounds_toArray, List.set_cons_zero, List.set_cons_succ]
      refine anyT_ready (rs := [7]) (by kernel_rfl) (by simp) (ReadyT.cons (by simp only [List.getElem?_toArray, List.getElem?_cons_succ, List.getElem?_cons_zero]; rfl) (fun K hK => ?_) ReadyT.nil)
      go_simp
      go_at_call 28
      (with_reducible refine (nat_Add _ _ _ _ _ _ _ _ _ (h5.to (by with_reducible repeat (first | exact Below.refl _ _ | refine nxa ?_ _ | refine nxd ?_ _ | refine nxw ?_ | refine nx ?_ (by assumption)))) (h6.to (by with_reducible repeat (first | exact Below.refl _ _ | refine nxa ?_ _ | refine nxd ?_ _ | refine nxw ?_ | refine nx ?_ (by assumption)))) (by omega) (by omega)).mono ?_)
      rintro e w8 ⟨A8, n8, c8, rfl, h8, hb8⟩
      have q8 := h8.le_of _ (add_lt h5.lt h6.lt)
      go_simp
      refine hK.out _ _ (KP1 _ (by with_reducible repeat (first | exact Below.refl _ _ | refine nxa ?_ _ | refine nxd ?_ _ | refine nxw ?_ | refine nx ?_ (by assumption)))) (fun hHeld => ?_)
      clear hK K
      try simp only [Act.put, List.setIfInBounds_toArray, List.set_cons_zero, List.set_cons_succ]
      refine anyT_ready (rs := [8]) (by kernel_rfl) (by simp) (ReadyT.cons (by simp only [List.getElem?_toArray, List.getElem?_cons_succ, List.getElem?_cons_zero]; rfl) (fun K hK => ?_) ReadyT.nil)
      go_simp
      go_at_call 34
      (with_reducible refine (quot_Divides _ _ _ _ _ _ _ _ _ (h4.to (by with_reducible repeat (first | exact Below.refl _ _ | refine nxa ?_ _ | refine nxd ?_ _ | refine nxw ?_ | refine nx ?_ (by assumption)))) (h8.to (by with_reducible repeat (first | exact Below.refl _ _ | refine nxa ?_ _ | refine nxd ?_ _ | refine nxw ?_ | refine nx ?_ (by assumption)))) (by omega)).mono ?_)
      rw [decide_eq_true (Nat.dvd_add (Nat.dvd_mul_left z x) (Nat.dvd_mul_left z x))]
      rintro e w9 ⟨rfl, hb9⟩
      go_simp
      refine hK.out _ _ (KP1 _ (by with_reducible repeat (first | exact Below.refl _ _ | refine nxa ?_ _ | refine nxd ?_ _ | refine nxw ?_ | refine nx ?_ (by assumption)))) (fun hHeld => ?_)
      clear hK K
      try simp only [Act.put, List.setIfInBounds_toArray, List.set_cons_zero, List.set_cons_succ]
      refine anyT_take (i := 9) (v := ?_) (by simp only [List.getElem?_toArray, List.getElem?_cons_succ, List.getElem?_cons_zero]; rfl) (by kernel_rfl) (by kernel_rfl) (by kernel_rfl) (by kernel_rfl) (by exact fun _ _ _ h => h) (Or.inl ⟨by rfl, ?_⟩) (by assumption) ?_
      rotate_left
      · intro w hSw; (try dsimp only at hSw); go_simp; try with_reducible rfl
      try simp only [Act.put, List.setIfInBounds_toArray, List.set_cons_zero, List.set_cons_succ]
      refine anyT_take (i := 10) (v := ?_) (by simp only [List.getElem?_toArray, List.getElem?_cons_succ, List.getElem?_cons_zero]; rfl) (by kernel_rfl) (by kernel_rfl) (by kernel_rfl) (by kernel_rfl) (by exact fun _ _ _ h => h) (Or.inl ⟨by rfl, ?_⟩) (by assumption) ?_
      rotate_left
      · intro w hSw; (try dsimp only at hSw); go_simp; try with_reducible rfl
      try simp only [Act.put, List.setIfInBounds_toArray, List.set_cons_zero, List.set_cons_succ]
      refine anyT_take (i := 11) (v := ?_) (by simp only [List.getElem?_toArray, List.getElem?_cons_succ, List.getElem?_cons_zero]; rfl) (by kernel_rfl) (by kernel_rfl) (by kernel_rfl) (by kernel_rfl) (by exact fun _ _ _ h => h) (Or.inl ⟨by rfl, ?_⟩) (by assumption) ?_
      rotate_left
      · intro w hSw; (try dsimp only at hSw); go_simp; try with_reducible rfl
      try simp only [Act.put, List.setIfInBounds_toArray, List.set_cons_zero, List.set_cons_succ]
      refine anyT_take (i := 12) (v := ?_) (by simp only [List.getElem?_toArray, List.getElem?_cons_succ, List.getElem?_cons_zero]; rfl) (by kernel_rfl) (by kernel_rfl) (by kernel_rfl) (by kernel_rfl) (by exact fun _ _ _ h => h) (Or.inl ⟨by rfl, ?_⟩) (by assumption) ?_
      rotate_left
      · intro w hSw; (try dsimp only at hSw); go_simp; try with_reducible rfl
      try simp only [Act.put, List.setIfInBounds_toArray, List.set_cons_zero, List.set_cons_succ]
      refine anyT_ready (rs := [13]) (by kernel_rfl) (by simp) (ReadyT.cons (by simp only [List.getElem?_toArray, List.getElem?_cons_succ, List.getElem?_cons_zero]; rfl) (fun K hK => ?_) ReadyT.nil)
      go_simp
      go_at_call 34
      (with_reducible refine (quot_Divides _ _ _ _ _ _ _ _ _ (h2.to (by with_reducible repeat (first | exact Below.refl _ _ | refine nxa ?_ _ | refine nxd ?_ _ | refine nxw ?_ | refine nx ?_ (by assumption)))) (h5.to (by with_reducible repeat (first | exact Below.refl _ _ | refine nxa ?_ _ | refine nxd ?_ _ | refine nxw ?_ | refine nx ?_ (by assumption)))) (by omega)).mono ?_)
      rw [decide_eq_true (Nat.dvd_mul_right x z)]
      rintro e w10 ⟨rfl, hb10⟩
      go_simp
      refine hK.out _ _ (KP1 _ (by with_reducible repeat (first | exact Below.refl _ _ | refine nxa ?_ _ | refine nxd ?_ _ | refine nxw ?_ | refine nx ?_ (by assumption)))) (fun hHeld => ?_)
      clear hK K
      try simp only [Act.put, List.setIfInBounds_toArray, List.set_cons_zero, List.set_cons_succ]
      refine anyT_take (i := 14) (v := ?_) (by simp only [List.getElem?_toArray, List.getElem?_cons_succ, List.getElem?_cons_zero]; rfl) (by kernel_rfl) (by kernel_rfl) (by kernel_rfl) (by kernel_rfl) (by exact fun _ _ _ h => h) (Or.inl ⟨by rfl, ?_⟩) (by assumption) ?_
      rotate_left
      · intro w hSw; (try dsimp only at hSw); go_simp; try with_reducible rfl
      try simp only [Act.put, List.setIfInBounds_toArray, List.set_cons_zero, List.set_cons_succ]
      refine anyT_take (i := 15) (v := ?_) (by simp only [List.getElem?_toArray, List.getElem?_cons_succ, List.getElem?_cons_zero]; rfl) (by kernel_rfl) (by kernel_rfl) (by kernel_rfl) (by kernel_rfl) (by exact fun _ _ _ h => h) (Or.inl ⟨by rfl, ?_⟩) (by assumption) ?_
      rotate_left
      · intro w hSw; (try dsimp only at hSw); go_simp; try with_reducible rfl
      try simp only [Act.put, List.setIfInBounds_toArray, List.set_cons_zero, List.set_cons_succ]
      refine anyT_take (i := 16) (v := ?_) (by simp only [List.getElem?_toArray, List.getElem?_cons_succ, List.getElem?_cons_zero]; rfl) (by kernel_rfl) (by kernel_rfl) (by kernel_rfl) (by kernel_rfl) (by exact fun _ _ _ h => h) (Or.inl ⟨by rfl, ?_⟩) (by assumption) ?_
      rotate_left
      · intro w hSw; (try dsimp only at hSw); go_simp; try with_reducible rfl
      try simp only [Act.put, List.setIfInBounds_toArray, List.set_cons_zero, List.set_cons_succ]
      refine anyT_take (i := 17) (v := ?_) (by simp only [List.getElem?_toArray, List.getElem?_cons_succ, List.getElem?_cons_zero]; rfl) (by kernel_rfl) (by kernel_rfl) (by kernel_rfl) (by kernel_rfl) (by exact fun _ _ _ h => h) (Or.inl ⟨by rfl, ?_⟩) (by assumption) ?_
      rotate_left
      · intro w hSw; (try dsimp only at hSw); go_simp; try with_reducible rfl
      try simp only [Act.put, List.setIfInBounds_toArray, List.set_cons_zero, List.set_cons_succ]
      refine anyT_ready (rs := [18]) (by kernel_rfl) (by simp) (ReadyT.cons (by simp only [List.getElem?_toArray, List.getElem?_cons_succ, List.getElem?_cons_zero]; rfl) (fun K hK => ?_) ReadyT.nil)
      go_simp
      go_at_call 34
      (with_reducible refine (quot_Divides _ _ _ _ _ _ _ _ _ (h2.to (by with_reducible repeat (first | exact Below.refl _ _ | refine nxa ?_ _ | refine nxd ?_ _ | refine nxw ?_ | refine nx ?_ (by assumption)))) (h3.to (by with_reducible repeat (first | exact Below.refl _ _ | refine nxa ?_ _ | refine nxd ?_ _ | refine nxw ?_ | refine nx ?_ (by assumption)))) (by omega)).mono ?_)
      rw [H1.out]
      rintro e w11 ⟨rfl, hb11⟩
      go_simp
      refine hK.out _ _ (KP1 _ (by with_reducible repeat (first | exact Below.refl _ _ | refine nxa ?_ _ | refine nxd ?_ _ | refine nxw ?_ | refine nx ?_ (by assumption)))) (fun hHeld => ?_)
      clear hK K
      try simp only [Act.put, List.setIfInBounds_toArray, List.set_cons_zero, List.set_cons_succ]
      refine anyT_take (i := 19) (v := ?_) (by simp only [List.getElem?_toArray, List.getElem?_cons_succ, List.getElem?_cons_zero]; rfl) (by kernel_rfl) (by kernel_rfl) (by kernel_rfl) (by kernel_rfl) (by exact fun _ _ _ h => h) (Or.inl ⟨by rfl, ?_⟩) (by assumption) ?_
      rotate_left
      · intro w hSw; (try dsimp only at hSw); go_simp; try with_reducible rfl
      try simp only [Act.put, List.setIfInBounds_toArray, List.set_cons_zero, List.set_cons_succ]
      refine anyT_take (i := 20) (v := ?_) (by simp only [List.getElem?_toArray, List.getElem?_cons_succ, List.getElem?_cons_zero]; rfl) (by kernel_rfl) (by kernel_rfl) (by kernel_rfl) (by kernel_rfl) (by exact fun _ _ _ h => h) (Or.inl ⟨by rfl, ?_⟩) (by assumption) ?_
      rotate_left
      · intro w hSw; (try dsimp only at hSw); go_simp; try with_reducible rfl
      try simp only [Act.put, List.setIfInBounds_toArray, List.set_cons_zero, List.set_cons_succ]
      refine anyT_take (i := 21) (v := ?_) (by simp only [List.getElem?_toArray, List.getElem?_cons_succ, List.getElem?_cons_zero]; rfl) (by kernel_rfl) (by kernel_rfl) (by kernel_rfl) (by kernel_rfl) (by exact fun _ _ _ h => h) (Or.inl ⟨by rfl, ?_⟩) (by assumption) ?_
      rotate_left
      · intro w hSw; (try dsimp only at hSw); go_simp; try with_reducible rfl
      try simp only [Act.put, List.setIfInBounds_toArray, List.set_cons_zero, List.set_cons_succ]
      refine anyT_take (i := 22) (v := ?_) (by simp only [List.getElem?_toArray, List.getElem?_cons_succ, List.getElem?_cons_zero]; rfl) (by kernel_rfl) (by kernel_rfl) (by kernel_rfl) (by kernel_rfl) (by exact fun _ _ _ h => h) (Or.inl ⟨by rfl, ?_⟩) (by assumption) ?_
      rotate_left
      · intro w hSw; (try dsimp only at hSw); go_simp; try with_reducible rfl
      try simp only [Act.put, List.setIfInBounds_toArray, List.set_cons_zero, List.set_cons_succ]
      refine anyT_ready (rs := [23]) (by kernel_rfl) (by simp) (ReadyT.cons (by simp only [List.getElem?_toArray, List.getElem?_cons_succ, List.getElem?_cons_zero]; rfl) (fun K hK => ?_) ReadyT.nil)
      go_simp
      go_at_call 34
      (with_reducible refine (quot_Divides _ _ _ _ _ _ _ _ _ (h3.to (by with_reducible repeat (first | exact Below.refl _ _ | refine nxa ?_ _ | refine nxd ?_ _ | refine nxw ?_ | refine nx ?_ (by assumption)))) (h2.to (by with_reducible repeat (first | exact Below.refl _ _ | refine nxa ?_ _ | refine nxd ?_ _ | refine nxw ?_ | refine nx ?_ (by assumption)))) (by omega)).mono ?_)
      rw [H1.out]
      rintro e w12 ⟨rfl, hb12⟩
      go_simp
      refine hK.out _ _ (KP1 _ (by with_reducible repeat (first | exact Below.refl _ _ | refine nxa ?_ _ | refine nxd ?_ _ | refine nxw ?_ | refine nx ?_ (by assumption)))) (fun hHeld => ?_)
      clear hK K
      try simp only [Act.put, List.setIfInBounds_toArray, List.set_cons_zero, List.set_cons_succ]
      refine anyT_take (i := 24) (v := ?_) (by simp only [List.getElem?_toArray, List.getElem?_cons_succ, List.getElem?_cons_zero]; rfl) (by kernel_rfl) (by kernel_rfl) (by kernel_rfl) (by kernel_rfl) (by exact fun _ _ _ h => h) (Or.inl ⟨by rfl, ?_⟩) (by assumption) ?_
      rotate_left
      · intro w hSw; (try dsimp only at hSw); go_simp; try with_reducible rfl
      try simp only [Act.put, List.setIfInBounds_toArray, List.set_cons_zero, List.set_cons_succ]
      refine anyT_take (i := 25) (v := ?_) (by simp only [List.getElem?_toArray, List.getElem?_cons_succ, List.getElem?_cons_zero]; rfl) (by kernel_rfl) (by kernel_rfl) (by kernel_rfl) (by kernel_rfl) (by exact fun _ _ _ h => h) (Or.inl ⟨by rfl, ?_⟩) (by assumption) ?_
      rotate_left
      · intro w hSw; (try dsimp only at hSw); go_simp; try with_reducible rfl
      try simp only [Act.put, List.setIfInBounds_toArray, List.set_cons_zero, List.set_cons_succ]
      refine anyT_take (i := 26) (v := ?_) (by simp only [List.getElem?_toArray, List.getElem?_cons_succ, List.getElem?_cons_zero]; rfl) (by kernel_rfl) (by kernel_rfl) (by kernel_rfl) (by kernel_rfl) (by exact fun _ _ _ h => h) (Or.inl ⟨by rfl, ?_⟩) (by assumption) ?_
      rotate_left
      · intro w hSw; (try dsimp only at hSw); go_simp; try with_reducible rfl
      try simp only [Act.put, List.setIfInBounds_toArray, List.set_cons_zero, List.set_cons_succ]
      refine anyT_take (i := 27) (v := ?_) (by simp only [List.getElem?_toArray, List.getElem?_cons_succ, List.getElem?_cons_zero]; rfl) (by kernel_rfl) (by kernel_rfl) (by kernel_rfl) (by kernel_rfl) (by exact fun _ _ _ h => h) (Or.inl ⟨by rfl, ?_⟩) (by assumption) ?_
      rotate_left
      · intro w hSw; (try dsimp only at hSw); go_simp; try with_reducible rfl
      try simp only [Act.put, List.setIfInBounds_toArray, List.set_cons_zero, List.set_cons_succ]
      refine anyT_take (i := 28) (v := ?_) (by simp only [List.getElem?_toArray, List.getElem?_cons_succ, List.getElem?_cons_zero]; rfl) (by kernel_rfl) (by kernel_rfl) (by kernel_rfl) (by kernel_rfl) (by exact fun _ _ _ h => h) (Or.inl ⟨by rfl, ?_⟩) (by assumption) ?_
      rotate_left
      · intro w hSw; (try dsimp only at hSw); go_simp; try with_reducible rfl
      try simp only [Act.put, List.setIfInBounds_toArray, List.set_cons_zero, List.set_cons_succ]
      refine anyT_ready (rs := [29]) (by kernel_rfl) (by simp) (ReadyT.cons (by simp only [List.getElem?_toArray, List.getElem?_cons_succ, List.getElem?_cons_zero]; rfl) (fun K hK => ?_) ReadyT.nil)
      go_simp
      go_at_call 29
      (with_reducible refine (nat_Cmp _ _ _ _ _ _ _ _ _ (h2.to (by with_reducible repeat (first | exact Below.refl _ _ | refine nxa ?_ _ | refine nxd ?_ _ | refine nxw ?_ | refine nx ?_ (by assumption)))) (h3.to (by with_reducible repeat (first | exact Below.refl _ _ | refine nxa ?_ _ | refine nxd ?_ _ | refine nxw ?_ | refine nx ?_ (by assumption))))).mono ?_)
      rw [H3.out]
      rintro e w13 ⟨rfl, hb13⟩
      go_simp
      refine hK.out _ _ (KP1 _ (by with_reducible repeat (first | exact Below.refl _ _ | refine nxa ?_ _ | refine nxd ?_ _ | refine nxw ?_ | refine nx ?_ (by assumption)))) (fun hHeld => ?_)
      clear hK K
      try simp only [Act.put, List.setIfInBounds_toArray, List.set_cons_zero, List.set_cons_succ]
      refine anyT_take (i := 30) (v := ?_) (by simp only [List.getElem?_toArray, List.getElem?_cons_succ, List.getElem?_cons_zero]; rfl) (by kernel_rfl) (by kernel_rfl) (by kernel_rfl) (by kernel_rfl) (by exact fun _ _ _ h => h) (Or.inl ⟨by rfl, ?_⟩) (by assumption) ?_
      rotate_left
      · intro w hSw; (try dsimp only at hSw); go_simp; try with_reducible rfl
      try simp only [Act.put, List.setIfInBounds_toArray, List.set_cons_zero, List.set_cons_succ]
      refine anyT_take (i := 31) (v := ?_) (by simp only [List.getElem?_toArray, List.getElem?_cons_succ, List.getElem?_cons_zero]; rfl) (by kernel_rfl) (by kernel_rfl) (by kernel_rfl) (by kernel_rfl) (by exact fun _ _ _ h => h) (Or.inl ⟨by rfl, ?_⟩) (by assumption) ?_
      rotate_left
      · intro w hSw; (try dsimp only at hSw); go_simp; try with_reducible rfl
      try simp only [Act.put, List.setIfInBounds_toArray, List.set_cons_zero, List.set_cons_succ]
      refine anyT_take (i := 32) (v := ?_) (by simp only [List.getElem?_toArray, List.getElem?_cons_succ, List.getElem?_cons_zero]; rfl) (by kernel_rfl) (by kernel_rfl) (by kernel_rfl) (by kernel_rfl) (by exact fun _ _ _ h => h) (Or.inl ⟨by rfl, ?_⟩) (by assumption) ?_
      rotate_left
      · intro w hSw; (try dsimp only at hSw); go_simp; try with_reducible rfl
      try simp only [Act.put, List.setIfInBounds_toArray, List.set_cons_zero, List.set_cons_succ]
      refine anyT_take (i := 33) (v := ?_) (by simp only [List.getElem?_toArray, List.getElem?_cons_succ, List.getElem?_cons_zero]; rfl) (by kernel_rfl) (by kernel_rfl) (by kernel_rfl) (by kernel_rfl) (by exact fun _ _ _ h => h) (Or.inl ⟨by rfl, ?_⟩) (by assumption) ?_
      rotate_left
      · intro w hSw; (try dsimp only at hSw); go_simp; try with_reducible rfl
      try simp only [Act.put, List.setIfInBounds_toArray, List.set_cons_zero, List.set_cons_succ]
      refine anyT_done (by kernel_rfl) ?_ _
      clear hHeld
      clear CX3 CX4 CX5 CX1 CX2 KP1
      go_wp2_with fail
      go_ret
      exact ⟨rfl, (by with_reducible repeat (first | exact Below.refl _ _ | refine nxa ?_ _ | refine nxd ?_ _ | refine nxw ?_ | refine nx ?_ (by assumption)))⟩
    · have H2 := Lib.hid (decide_eq_false h2)
      clear h1 h2
      go_enter Try.func9, Try.ntmps9
      go_wp2_with fail
      refine (awake4 _).mono ?_
      rintro e w1 ⟨rfl, hb1⟩
      go_wp2_with fail
      refine (nat_Of _ _ _ _ _ (k1.to (by with_reducible repeat (first | exact Below.refl _ _ | refine nxa ?_ _ | refine nxd ?_ _ | refine nxw ?_ | refine nx ?_ (by assumption)))) (by omega)).mono ?_
      rintro e w2 ⟨A2, n2, c2, rfl, h2, hb2, m2⟩
      go_wp2_with fail
      refine (nat_Of _ _ _ _ _ (k2.to (by with_reducible repeat (first | exact Below.refl _ _ | refine nxa ?_ _ | refine nxd ?_ _ | refine nxw ?_ | refine nx ?_ (by assumption)))) (by omega)).mono ?_
      rintro e w3 ⟨A3, n3, c3, rfl, h3, hb3, m3⟩
      go_wp2_with fail
      refine (nat_Of _ _ _ _ _ (k3.to (by with_reducible repeat (first | exact Below.refl _ _ | refine nxa ?_ _ | refine nxd ?_ _ | refine nxw ?_ | refine nx ?_ (by assumption)))) (by omega)).mono ?_
      rintro e w4 ⟨A4, n4, c4, rfl, h4, hb4, m4⟩
      go_wp2_with fail
      have X1 := Blk1.newAt w4 (w4.heap.size) 25 (.slice A2 n2 c2) (by first | rfl | simp)
      have X2 := Blk1.newAt (w4.alloc (.cells #[.slice A2 n2 c2] 25)) (w4.heap.size + 1) 25 (.slice A3 n3 c3) (by first | rfl | simp)
      have X3 := Blk1.newAt ((w4.alloc (.cells #[.slice A2 n2 c2] 25)).alloc (.cells #[.slice A3 n3 c3] 25)) (w4.heap.size + 1 + 1) 25 (.slice A4 n4 c4) (by first | rfl | simp)
      replace X1 := (show Blk1 (((w4.alloc (.cells #[.slice A2 n2 c2] 25)).alloc (.cells #[.slice A3 n3 c3] 25)).alloc (.cells #[.slice A4 n4 c4] 25)) _ _ _ from X1.to (by with_reducible repeat (first | exact Below.refl _ _ | refine nxa ?_ _ | refine nxd ?_ _ | refine nxw ?_ | refine nx ?_ (by assumption))))
      replace X2 := (show Blk1 (((w4.alloc (.cells #[.slice A2 n2 c2] 25)).alloc (.cells #[.slice A3 n3 c3] 25)).alloc (.cells #[.slice A4 n4 c4] 25)) _ _ _ from X2.to (by with_reducible repeat (first | exact Below.refl _ _ | refine nxa ?_ _ | refine nxd ?_ _ | refine nxw ?_ | refine nx ?_ (by assumption))))
      have hbwe1 : Below w4.heap.size w4 (((w4.alloc (.cells #[.slice A2 n2 c2] 25)).alloc (.cells #[.slice A3 n3 c3] 25)).alloc (.cells #[.slice A4 n4 c4] 25)) := (by with_reducible repeat (first | exact Below.refl _ _ | refine nxa ?_ _ | refine nxd ?_ _ | refine nxw ?_ | refine nx ?_ (by assumption)))
      generalize (((w4.alloc (.cells #[.slice A2 n2 c2] 25)).alloc (.cells #[.slice A3 n3 c3] 25)).alloc (.cells #[.slice A4 n4 c4] 25)) = we1 at X1 X2 X3 hbwe1  ⊢
      have CX1 := (show Blk1 we1 _ _ _ from X1.to (by with_reducible repeat (first | exact Below.refl _ _ | refine nxa ?_ _ | refine nxd ?_ _ | refine nxw ?_ | refine nx ?_ (by assumption)))).cell
      have CX3 := (show Blk1 we1 _ _ _ from X3.to (by with_reducible repeat (first | exact Below.refl _ _ | refine nxa ?_ _ | refine nxd ?_ _ | refine nxw ?_ | refine nx ?_ (by assumption)))).cell
      have CX2 := (show Blk1 we1 _ _ _ from X2.to (by with_reducible repeat (first | exact Below.refl _ _ | refine nxa ?_ _ | refine nxd ?_ _ | refine nxw ?_ | refine nx ?_ (by assumption)))).cell
      refine wp_regionE [(6, 10, 25, .slice none 0 0), (7, 11, 25, .slice none 0 0)] (by kernel_rfl) (by kernel_rfl) (mk_cons (mk_nat (by simp only [List.getElem?_toArray, List.getElem?_cons_succ, List.getElem?_cons_zero]; rfl) rfl rfl rfl) (mk_cons (mk_nat (by simp only [List.getElem?_toArray, List.getElem?_cons_succ, List.getElem?_cons_zero]; rfl) rfl rfl rfl) (mk_nil))) (by exact fun _ _ _ _ _ h => h) (by exact fun _ _ _ _ _ h => h) (f := 8) (by rfl) ?_
      have hbdE1 : Below we1.heap.size we1 we1.drew := nxw (Below.refl _ _)
      generalize we1.drew = wdE1 at hbdE1 ⊢
      replace CX1 := cellB hbdE1 CX1
      replace CX3 := cellB hbdE1 CX3
      replace CX2 := cellB hbdE1 CX2
      have hH := Lib.hid (Below.refl wdE1.heap.size wdE1)
      refine anyE_take (i := 0) (v := ?_) (by simp only [List.getElem?_toArray, List.getElem?_cons_succ, List.getElem?_cons_zero]; rfl) (by kernel_rfl) (by exact fun _ _ _ h => h) (Or.inl ⟨by rfl, ?_⟩) hH.out ?_
      rotate_left
      · intro w hSw; have c := cellB hSw CX1; go_simp; try with_reducible rfl
      try simp only [Act.put, List.setIfInBounds_toArray, List.set_cons_zero, List.set_cons_succ]
      refine anyE_take (i := 1) (v := ?_) (by simp only [List.getElem?_toArray, List.getElem?_cons_succ, List.getElem?_cons_zero]; rfl) (by kernel_rfl) (by exact fun _ _ _ h => h) (Or.inl ⟨by rfl, ?_⟩) hH.out ?_
      rotate_left
      · intro w hSw; have c := cellB hSw CX3; go_simp; try with_reducible rfl
      try simp only [Act.put, List.setIfInBounds_toArray, List.set_cons_zero, List.set_cons_succ]
      refine anyE_take (i := 3) (v := ?_) (by simp only [List.getElem?_toArray, List.getElem?_cons_succ, List.getElem?_cons_zero]; rfl) (by kernel_rfl) (by exact fun _ _ _ h => h) (Or.inl ⟨by rfl, ?_⟩) hH.out ?_
      rotate_left
      · intro w hSw; have c := cellB hSw CX2; go_simp; try with_reducible rfl
      try simp only [Act.put, List.setIfInBounds_toArray, List.set_cons_zero, List.set_cons_succ]
      refine anyE_take (i := 4) (v := ?_) (by simp only [List.getElem?_toArray, List.getElem?_cons_succ, List.getElem?_cons_zero]; rfl) (by kernel_rfl) (by exact fun _ _ _ h => h) (Or.inl ⟨by rfl, ?_⟩) hH.out ?_
      rotate_left
      · intro w hSw; have c := cellB hSw CX3; go_simp; try with_reducible rfl
      try simp only [Act.put, List.setIfInBounds_toArray, List.set_cons_zero, List.set_cons_succ]
      refine anyE_one (i := 2) (by simp only [List.getElem?_toArray, List.getElem?_cons_succ, List.getElem?_cons_zero]; rfl) (by kernel_rfl) (fun wi1_2 hbwi1_2 K hK => ?_)
      go_simp
      go_at_call 27
      (with_reducible refine (prod_Mul _ _ _ _ _ _ _ _ _ (h2.to (by with_reducible repeat (first | exact Below.refl _ _ | refine nxa ?_ _ | refine nxd ?_ _ | refine nxw ?_ | refine nx ?_ (by assumption)))) (h4.to (by with_reducible repeat (first | exact Below.refl _ _ | refine nxa ?_ _ | refine nxd ?_ _ | refine nxw ?_ | refine nx ?_ (by assumption)))) (by omega)).mono ?_)
      rintro e w5 ⟨A5, n5, c5, rfl, h5, hb5⟩
      have q5 := h5.le_of _ (mul_lt_pow h2.lt h4.lt)
      go_simp
      refine hK.out _ _ (show Below wi1_2.heap.size wi1_2 w5 from (by with_reducible repeat (first | exact Below.refl _ _ | refine nxa ?_ _ | refine nxd ?_ _ | refine nxw ?_ | refine nx ?_ (by assumption)))) ?_
      clear hK K
      replace hH := Lib.hid (nx hH.out (show Below wdE1.heap.size wdE1 w5 from (by with_reducible repeat (first | exact Below.refl _ _ | refine nxa ?_ _ | refine nxd ?_ _ | refine nxw ?_ | refine nx ?_ (by assumption)))))
      try simp only [Act.put, List.setIfInBounds_toArray, List.set_cons_zero, List.set_cons_succ]
      refine anyE_one (i := 5) (by simp only [List.getElem?_toArray, List.getElem?_cons_succ, List.getElem?_cons_zero]; rfl) (by kernel_rfl) (fun wi1_5 hbwi1_5 K hK => ?_)
      go_simp
      go_at_call 27
      (with_reducible refine (prod_Mul _ _ _ _ _ _ _ _ _ (h3.to (by with_reducible repeat (first | exact Below.refl _ _ | refine nxa ?_ _ | refine nxd ?_ _ | refine nxw ?_ | refine nx ?_ (by assumption)))) (h4.to (by with_reducible repeat (first | exact Below.refl _ _ | refine nxa ?_ _ | refine nxd ?_ _ | refine nxw ?_ | refine nx ?_ (by assumption)))) (by omega)).mono ?_)
      rintro e w6 ⟨A6, n6, c6, rfl, h6, hb6⟩
      have q6 := h6.le_of _ (mul_lt_pow h3.lt h4.lt)
      go_simp
      refine hK.out _ _ (show Below wi1_5.heap.size wi1_5 w6 from (by with_reducible repeat (first | exact Below.refl _ _ | refine nxa ?_ _ | refine nxd ?_ _ | refine nxw ?_ | refine nx ?_ (by assumption)))) ?_
      clear hK K
      replace hH := Lib.hid (nx hH.out (show Below w5.heap.size w5 w6 from (by with_reducible repeat (first | exact Below.refl _ _ | refine nxa ?_ _ | refine nxd ?_ _ | refine nxw ?_ | refine nx ?_ (by assumption)))))
      try simp only [Act.put, List.setIfInBounds_toArray, List.set_cons_zero, List.set_cons_succ]
      refine anyE_done (by kernel_rfl) (fun wzE1 hbzE1 => ?_)
      refine FinD_cons (fun gEX4 X4 hgEX4 hnEX4 => ?_)
      clear hnEX4
      refine FinD_cons (fun gEX5 X5 hgEX5 hnEX5 => ?_)
      have nEX5X4 : gEX5 ≠ gEX4 := fun e => hnEX5 (by simp [e])
      clear hnEX5
      refine FinD_nil ?_
      try simp only [Act.put, List.setIfInBounds_toArray, List.set_cons_zero, List.set_cons_succ]
      replace h5 := (show NatAt wzE1 _ _ _ _ from h5.to (by with_reducible repeat (first | exact Below.refl _ _ | refine nxa ?_ _ | refine nxd ?_ _ | refine nxw ?_ | refine nx ?_ (by assumption))))
      replace h6 := (show NatAt wzE1 _ _ _ _ from h6.to (by with_reducible repeat (first | exact Below.refl _ _ | refine nxa ?_ _ | refine nxd ?_ _ | refine nxw ?_ | refine nx ?_ (by assumption))))
      have hbtE1 := Lib.hid (show Below we1.heap.size we1 wzE1 from nx hbdE1 (nx hH.out hbzE1))
      clear hH
      refine anyT_ready (rs := [8]) (by kernel_rfl) (by simp) (ReadyT.cons (by simp only [List.getElem?_toArray, List.getElem?_cons_succ, List.getElem?_cons_zero]; rfl) (fun K hK => ?_) ReadyT.nil)
      rw [if_pos (by rfl)]
      refine wp_store_nat _ _ rfl rfl rfl X4 ?_
      replace X5 := X5.far (p := ⟨gEX4, 0, none⟩) nEX5X4 (.slice A5 n5 c5)
      replace h5 := h5.put_ X4.cell (.slice A5 n5 c5)
      replace h6 := h6.put_ X4.cell (.slice A5 n5 c5)
      replace hbtE1 := nxs hbtE1.out (p := ⟨gEX4, 0, none⟩) (Nat.le_trans hbdE1.size hgEX4) (.slice A5 n5 c5)
      replace X4 := X4.set (.slice A5 n5 c5)
      generalize wzE1.setCell ⟨gEX4, 0, none⟩ (.slice A5 n5 c5) = wsE2 at X4 X5 h5 h6 hbtE1 ⊢
      refine hK.out _ _ trivial (fun _ => ?_)
      clear hK K
      try simp only [Act.put, List.setIfInBounds_toArray, List.set_cons_zero, List.set_cons_succ]
      refine anyT_ready (rs := [9]) (by kernel_rfl) (by simp) (ReadyT.cons (by simp only [List.getElem?_toArray, List.getElem?_cons_succ, List.getElem?_cons_zero]; rfl) (fun K hK => ?_) ReadyT.nil)
      rw [if_pos (by rfl)]
      refine wp_store_nat _ _ rfl rfl rfl X5 ?_
      replace X4 := X4.far (p := ⟨gEX5, 0, none⟩) (Ne.symm nEX5X4) (.slice A6 n6 c6)
      replace h5 := h5.put_ X5.cell (.slice A6 n6 c6)
      replace h6 := h6.put_ X5.cell (.slice A6 n6 c6)
      replace hbtE1 := nxs hbtE1 (p := ⟨gEX5, 0, none⟩) (Nat.le_trans hbdE1.size hgEX5) (.slice A6 n6 c6)
      replace X5 := X5.set (.slice A6 n6 c6)
      generalize wsE2.setCell ⟨gEX5, 0, none⟩ (.slice A6 n6 c6) = wsE3 at X5 X4 h5 h6 hbtE1 ⊢
      refine hK.out _ _ trivial (fun _ => ?_)
      clear hK K
      try simp only [Act.put, List.setIfInBounds_toArray, List.set_cons_zero, List.set_cons_succ]
      refine anyT_done (by kernel_rfl) ?_ _
      clear CX1 CX3 CX2
      go_wp2_with fail
      have CX3 := (show Blk1 wsE3 _ _ _ from X3.to (by with_reducible repeat (first | exact Below.refl _ _ | refine nxa ?_ _ | refine nxd ?_ _ | refine nxw ?_ | refine nx ?_ (by assumption)))).cell
      have CX4 := (show Blk1 wsE3 _ _ _ from X4.to (by with_reducible repeat (first | exact Below.refl _ _ | refine nxa ?_ _ | refine nxd ?_ _ | refine nxw ?_ | refine nx ?_ (by assumption)))).cell
      have CX5 := (show Blk1 wsE3 _ _ _ from X5.to (by with_reducible repeat (first | exact Below.refl _ _ | refine nxa ?_ _ | refine nxd ?_ _ | refine nxw ?_ | refine nx ?_ (by assumption)))).cell
      have CX1 := (show Blk1 wsE3 _ _ _ from X1.to (by with_reducible repeat (first | exact Below.refl _ _ | refine nxa ?_ _ | refine nxd ?_ _ | refine nxw ?_ | refine nx ?_ (by assumption)))).cell
      have CX2 := (show Blk1 wsE3 _ _ _ from X2.to (by with_reducible repeat (first | exact Below.refl _ _ | refine nxa ?_ _ | refine nxd ?_ _ | refine nxw ?_ | refine nx ?_ (by assumption)))).cell
      have KP1 : ∀ w', Below wsE3.heap.size wsE3 w' → w'.cell? ⟨w4.heap.size + 1 + 1, 0, none⟩ = some (.slice A4 n4 c4) ∧ w'.cell? ⟨gEX4, 0, none⟩ = some (.slice A5 n5 c5) ∧ w'.cell? ⟨gEX5, 0, none⟩ = some (.slice A6 n6 c6) ∧ w'.cell? ⟨w4.heap.size, 0, none⟩ = some (.slice A2 n2 c2) ∧ w'.cell? ⟨w4.heap.size + 1, 0, none⟩ = some (.slice A3 n3 c3) ∧ True := fun w' hw' => ⟨cellB hw' CX3, cellB hw' CX4, cellB hw' CX5, cellB hw' CX1, cellB hw' CX2, trivial⟩
      refine wp_regionT (S := fun w' => w'.cell? ⟨w4.heap.size + 1 + 1, 0, none⟩ = some (.slice A4 n4 c4) ∧ w'.cell? ⟨gEX4, 0, none⟩ = some (.slice A5 n5 c5) ∧ w'.cell? ⟨gEX5, 0, none⟩ = some (.slice A6 n6 c6) ∧ w'.cell? ⟨w4.heap.size, 0, none⟩ = some (.slice A2 n2 c2) ∧ w'.cell? ⟨w4.heap.size + 1, 0, none⟩ = some (.slice A3 n3 c3) ∧ True) [] (by kernel_rfl) (KP1 _ (by with_reducible repeat (first | exact Below.refl _ _ | refine nxa ?_ _ | refine nxd ?_ _ | refine nxw ?_ | refine nx ?_ (by assumption)))) (fun hHeld => ?_)
      have hbd1 : Below wsE3.heap.size wsE3 wsE3.drew := nxw (Below.refl _ _)
      generalize wsE3.drew = wd1 at hHeld hbd1 ⊢
      refine anyT_take (i := 0) (v := ?_) (by simp only [List.getElem?_toArray, List.getElem?_cons_succ, List.getElem?_cons_zero]; rfl) (by kernel_rfl) (by kernel_rfl) (by kernel_rfl) (by kernel_rfl) (by exact fun _ _ _ h => h) (Or.inl ⟨by rfl, ?_⟩) (by assumption) ?_
      rotate_left
      · intro w hSw; (try dsimp only at hSw); go_simp; try with_reducible rfl
      try simp only [Act.put, List.setIfInBounds_toArray, List.set_cons_zero, List.set_cons_succ]
      refine anyT_take (i := 1) (v := ?_) (by simp only [List.getElem?_toArray, List.getElem?_cons_succ, List.getElem?_cons_zero]; rfl) (by kernel_rfl) (by kernel_rfl) (by kernel_rfl) (by kernel_rfl) (by exact fun _ _ _ h => h) (Or.inl ⟨by rfl, ?_⟩) (by assumption) ?_
      rotate_left
      · intro w hSw; (try dsimp only at hSw); go_simp; try with_reducible rfl
      try simp only [Act.put, List.setIfInBounds_toArray, List.set_cons_zero, List.set_cons_succ]
      refine anyT_ready (rs := [2]) (by kernel_rfl) (by simp) (ReadyT.cons (by simp only [List.getElem?_toArray, List.getElem?_cons_succ, List.getElem?_cons_zero]; rfl) (fun K hK => ?_) ReadyT.nil)
      go_simp
      go_at_call 34
      (with_reducible refine (quot_Divides _ _ _ _ _ _ _ _ _ (h4.to (by with_reducible repeat (first | exact Below.refl _ _ | refine nxa ?_ _ | refine nxd ?_ _ | refine nxw ?_ | refine nx ?_ (by assumption)))) (h5.to (by with_reducible repeat (first | exact Below.refl _ _ | refine nxa ?_ _ | refine nxd ?_ _ | refine nxw ?_ | refine nx ?_ (by assumption)))) (by omega)).mono ?_)
      rw [decide_eq_true (Nat.dvd_mul_left z x)]
      rintro e w7 ⟨rfl, hb7⟩
      go_simp
      refine hK.out _ _ (KP1 _ (by with_reducible repeat (first | exact Below.refl _ _ | refine nxa ?_ _ | refine nxd ?_ _ | refine nxw ?_ | refine nx ?_ (by assumption)))) (fun hHeld => ?_)
      clear hK K
      try simp only [Act.put, List.setIfInBounds_toArray, List.set_cons_zero, List.set_cons_succ]
      refine anyT_take (i := 3) (v := ?_) (by simp only [List.getElem?_toArray, List.getElem?_cons_succ, List.getElem?_cons_zero]; rfl) (by kernel_rfl) (by kernel_rfl) (by kernel_rfl) (by kernel_rfl) (by exact fun _ _ _ h => h) (Or.inl ⟨by rfl, ?_⟩) (by assumption) ?_
      rotate_left
      · intro w hSw; (try dsimp only at hSw); go_simp; try with_reducible rfl
      try simp only [Act.put, List.setIfInBounds_toArray, List.set_cons_zero, List.set_cons_succ]
      refine anyT_take (i := 4) (v := ?_) (by simp only [List.getElem?_toArray, List.getElem?_cons_succ, List.getElem?_cons_zero]; rfl) (by kernel_rfl) (by kernel_rfl) (by kernel_rfl) (by kernel_rfl) (by exact fun _ _ _ h => h) (Or.inl ⟨by rfl, ?_⟩) (by assumption) ?_
      rotate_left
      · intro w hSw; (try dsimp only at hSw); go_simp; try with_reducible rfl
      try simp only [Act.put, List.setIfInBounds_toArray, List.set_cons_zero, List.set_cons_succ]
      refine anyT_take (i := 5) (v := ?_) (by simp only [List.getElem?_toArray, List.getElem?_cons_succ, List.getElem?_cons_zero]; rfl) (by kernel_rfl) (by kernel_rfl) (by kernel_rfl) (by kernel_rfl) (by exact fun _ _ _ h => h) (Or.inl ⟨by rfl, ?_⟩) (by assumption) ?_
      rotate_left
      · intro w hSw; (try dsimp only at hSw); go_simp; try with_reducible rfl
      try simp only [Act.put, List.setIfInBounds_toArray, List.set_cons_zero, List.set_cons_succ]
      refine anyT_take (i := 6) (v := ?_) (by simp only [List.getElem?_toArray, List.getElem?_cons_succ, List.getElem?_cons_zero]; rfl) (by kernel_rfl) (by kernel_rfl) (by kernel_rfl) (by kernel_rfl) (by exact fun _ _ _ h => h) (Or.inl ⟨by rfl, ?_⟩) (by assumption) ?_
      rotate_left
      · intro w hSw; (try dsimp only at hSw); go_simp; try with_reducible rfl
      try simp only [Act.put, List.setIfInBounds_toArray, List.set_cons_zero, List.set_cons_succ]
      refine anyT_ready (rs := [7]) (by kernel_rfl) (by simp) (ReadyT.cons (by simp only [List.getElem?_toArray, List.getElem?_cons_succ, List.getElem?_cons_zero]; rfl) (fun K hK => ?_) ReadyT.nil)
      go_simp
      go_at_call 28
      (with_reducible refine (nat_Add _ _ _ _ _ _ _ _ _ (h5.to (by with_reducible repeat (first | exact Below.refl _ _ | refine nxa ?_ _ | refine nxd ?_ _ | refine nxw ?_ | refine nx ?_ (by assumption)))) (h6.to (by with_reducible repeat (first | exact Below.refl _ _ | refine nxa ?_ _ | refine nxd ?_ _ | refine nxw ?_ | refine nx ?_ (by assumption)))) (by omega) (by omega)).mono ?_)
      rintro e w8 ⟨A8, n8, c8, rfl, h8, hb8⟩
      have q8 := h8.le_of _ (add_lt h5.lt h6.lt)
      go_simp
      refine hK.out _ _ (KP1 _ (by with_reducible repeat (first | exact Below.refl _ _ | refine nxa ?_ _ | refine nxd ?_ _ | refine nxw ?_ | refine nx ?_ (by assumption)))) (fun hHeld => ?_)
      clear hK K
      try simp only [Act.put, List.setIfInBounds_toArray, List.set_cons_zero, List.set_cons_succ]
      refine anyT_ready (rs := [8]) (by kernel_rfl) (by simp) (ReadyT.cons (by simp only [List.getElem?_toArray, List.getElem?_cons_succ, List.getElem?_cons_zero]; rfl) (fun K hK => ?_) ReadyT.nil)
      go_simp
      go_at_call 34
      (with_reducible refine (quot_Divides _ _ _ _ _ _ _ _ _ (h4.to (by with_reducible repeat (first | exact Below.refl _ _ | refine nxa ?_ _ | refine nxd ?_ _ | refine nxw ?_ | refine nx ?_ (by assumption)))) (h8.to (by with_reducible repeat (first | exact Below.refl _ _ | refine nxa ?_ _ | refine nxd ?_ _ | refine nxw ?_ | refine nx ?_ (by assumption)))) (by omega)).mono ?_)
      rw [decide_eq_true (Nat.dvd_add (Nat.dvd_mul_left z x) (Nat.dvd_mul_left z y))]
      rintro e w9 ⟨rfl, hb9⟩
      go_simp
      refine hK.out _ _ (KP1 _ (by with_reducible repeat (first | exact Below.refl _ _ | refine nxa ?_ _ | refine nxd ?_ _ | refine nxw ?_ | refine nx ?_ (by assumption)))) (fun hHeld => ?_)
      clear hK K
      try simp only [Act.put, List.setIfInBounds_toArray, List.set_cons_zero, List.set_cons_succ]
      refine anyT_take (i := 9) (v := ?_) (by simp only [List.getElem?_toArray, List.getElem?_cons_succ, List.getElem?_cons_zero]; rfl) (by kernel_rfl) (by kernel_rfl) (by kernel_rfl) (by kernel_rfl) (by exact fun _ _ _ h => h) (Or.inl ⟨by rfl, ?_⟩) (by assumption) ?_
      rotate_left
      · intro w hSw; (try dsimp only at hSw); go_simp; try with_reducible rfl
      try simp only [Act.put, List.setIfInBounds_toArray, List.set_cons_zero, List.set_cons_succ]
      refine anyT_take (i := 10) (v := ?_) (by simp only [List.getElem?_toArray, List.getElem?_cons_succ, List.getElem?_cons_zero]; rfl) (by kernel_rfl) (by kernel_rfl) (by kernel_rfl) (by kernel_rfl) (by exact fun _ _ _ h => h) (Or.inl ⟨by rfl, ?_⟩) (by assumption) ?_
      rotate_left
      · intro w hSw; (try dsimp only at hSw); go_simp; try with_reducible rfl
      try simp only [Act.put, List.setIfInBounds_toArray, List.set_cons_zero, List.set_cons_succ]
      refine anyT_take (i := 11) (v := ?_) (by simp only [List.getElem?_toArray, List.getElem?_cons_succ, List.getElem?_cons_zero]; rfl) (by kernel_rfl) (by kernel_rfl) (by kernel_rfl) (by kernel_rfl) (by exact fun _ _ _ h => h) (Or.inl ⟨by rfl, ?_⟩) (by assumption) ?_
      rotate_left
      · intro w hSw; (try dsimp only at hSw); go_simp; try with_reducible rfl
      try simp only [Act.put, List.setIfInBounds_toArray, List.set_cons_zero, List.set_cons_succ]
      refine anyT_take (i := 12) (v := ?_) (by simp only [List.getElem?_toArray, List.getElem?_cons_succ, List.getElem?_cons_zero]; rfl) (by kernel_rfl) (by kernel_rfl) (by kernel_rfl) (by kernel_rfl) (by exact fun _ _ _ h => h) (Or.inl ⟨by rfl, ?_⟩) (by assumption) ?_
      rotate_left
      · intro w hSw; (try dsimp only at hSw); go_simp; try with_reducible rfl
      try simp only [Act.put, List.setIfInBounds_toArray, List.set_cons_zero, List.set_cons_succ]
      refine anyT_ready (rs := [13]) (by kernel_rfl) (by simp) (ReadyT.cons (by simp only [List.getElem?_toArray, List.getElem?_cons_succ, List.getElem?_cons_zero]; rfl) (fun K hK => ?_) ReadyT.nil)
      go_simp
      go_at_call 34
      (with_reducible refine (quot_Divides _ _ _ _ _ _ _ _ _ (h2.to (by with_reducible repeat (first | exact Below.refl _ _ | refine nxa ?_ _ | refine nxd ?_ _ | refine nxw ?_ | refine nx ?_ (by assumption)))) (h5.to (by with_reducible repeat (first | exact Below.refl _ _ | refine nxa ?_ _ | refine nxd ?_ _ | refine nxw ?_ | refine nx ?_ (by assumption)))) (by omega)).mono ?_)
      rw [decide_eq_true (Nat.dvd_mul_right x z)]
      rintro e w10 ⟨rfl, hb10⟩
      go_simp
      refine hK.out _ _ (KP1 _ (by with_reducible repeat (first | exact Below.refl _ _ | refine nxa ?_ _ | refine nxd ?_ _ | refine nxw ?_ | refine nx ?_ (by assumption)))) (fun hHeld => ?_)
      clear hK K
      try simp only [Act.put, List.setIfInBounds_toArray, List.set_cons_zero, List.set_cons_succ]
      refine anyT_take (i := 14) (v := ?_) (by simp only [List.getElem?_toArray, List.getElem?_cons_succ, List.getElem?_cons_zero]; rfl) (by kernel_rfl) (by kernel_rfl) (by kernel_rfl) (by kernel_rfl) (by exact fun _ _ _ h => h) (Or.inl ⟨by rfl, ?_⟩) (by assumption) ?_
      rotate_left
      · intro w hSw; (try dsimp only at hSw); go_simp; try with_reducible rfl
      try simp only [Act.put, List.setIfInBounds_toArray, List.set_cons_zero, List.set_cons_succ]
      refine anyT_take (i := 15) (v := ?_) (by simp only [List.getElem?_toArray, List.getElem?_cons_succ, List.getElem?_cons_zero]; rfl) (by kernel_rfl) (by kernel_rfl) (by kernel_rfl) (by kernel_rfl) (by exact fun _ _ _ h => h) (Or.inl ⟨by rfl, ?_⟩) (by assumption) ?_
      rotate_left
      · intro w hSw; (try dsimp only at hSw); go_simp; try with_reducible rfl
      try simp only [Act.put, List.setIfInBounds_toArray, List.set_cons_zero, List.set_cons_succ]
      refine anyT_take (i := 16) (v := ?_) (by simp only [List.getElem?_toArray, List.getElem?_cons_succ, List.getElem?_cons_zero]; rfl) (by kernel_rfl) (by kernel_rfl) (by kernel_rfl) (by kernel_rfl) (by exact fun _ _ _ h => h) (Or.inl ⟨by rfl, ?_⟩) (by assumption) ?_
      rotate_left
      · intro w hSw; (try dsimp only at hSw); go_simp; try with_reducible rfl
      try simp only [Act.put, List.setIfInBounds_toArray, List.set_cons_zero, List.set_cons_succ]
      refine anyT_take (i := 17) (v := ?_) (by simp only [List.getElem?_toArray, List.getElem?_cons_succ, List.getElem?_cons_zero]; rfl) (by kernel_rfl) (by kernel_rfl) (by kernel_rfl) (by kernel_rfl) (by exact fun _ _ _ h => h) (Or.inl ⟨by rfl, ?_⟩) (by assumption) ?_
      rotate_left
      · intro w hSw; (try dsimp only at hSw); go_simp; try with_reducible rfl
      try simp only [Act.put, List.setIfInBounds_toArray, List.set_cons_zero, List.set_cons_succ]
      refine anyT_ready (rs := [18]) (by kernel_rfl) (by simp) (ReadyT.cons (by simp only [List.getElem?_toArray, List.getElem?_cons_succ, List.getElem?_cons_zero]; rfl) (fun K hK => ?_) ReadyT.nil)
      go_simp
      go_at_call 34
      (with_reducible refine (quot_Divides _ _ _ _ _ _ _ _ _ (h2.to (by with_reducible repeat (first | exact Below.refl _ _ | refine nxa ?_ _ | refine nxd ?_ _ | refine nxw ?_ | refine nx ?_ (by assumption)))) (h3.to (by with_reducible repeat (first | exact Below.refl _ _ | refine nxa ?_ _ | refine nxd ?_ _ | refine nxw ?_ | refine nx ?_ (by assumption)))) (by omega)).mono ?_)
      rw [H1.out]
      rintro e w11 ⟨rfl, hb11⟩
      go_simp
      refine hK.out _ _ (KP1 _ (by with_reducible repeat (first | exact Below.refl _ _ | refine nxa ?_ _ | refine nxd ?_ _ | refine nxw ?_ | refine nx ?_ (by assumption)))) (fun hHeld => ?_)
      clear hK K
      try simp only [Act.put, List.setIfInBounds_toArray, List.set_cons_zero, List.set_cons_succ]
      refine anyT_take (i := 19) (v := ?_) (by simp only [List.getElem?_toArray, List.getElem?_cons_succ, List.getElem?_cons_zero]; rfl) (by kernel_rfl) (by kernel_rfl) (by kernel_rfl) (by kernel_rfl) (by exact fun _ _ _ h => h) (Or.inl ⟨by rfl, ?_⟩) (by assumption) ?_
      rotate_left
      · intro w hSw; (try dsimp only at hSw); go_simp; try with_reducible rfl
      try simp only [Act.put, List.setIfInBounds_toArray, List.set_cons_zero, List.set_cons_succ]
      refine anyT_take (i := 20) (v := ?_) (by simp only [List.getElem?_toArray, List.getElem?_cons_succ, List.getElem?_cons_zero]; rfl) (by kernel_rfl) (by kernel_rfl) (by kernel_rfl) (by kernel_rfl) (by exact fun _ _ _ h => h) (Or.inl ⟨by rfl, ?_⟩) (by assumption) ?_
      rotate_left
      · intro w hSw; (try dsimp only at hSw); go_simp; try with_reducible rfl
      try simp only [Act.put, List.setIfInBounds_toArray, List.set_cons_zero, List.set_cons_succ]
      refine anyT_take (i := 21) (v := ?_) (by simp only [List.getElem?_toArray, List.getElem?_cons_succ, List.getElem?_cons_zero]; rfl) (by kernel_rfl) (by kernel_rfl) (by kernel_rfl) (by kernel_rfl) (by exact fun _ _ _ h => h) (Or.inl ⟨by rfl, ?_⟩) (by assumption) ?_
      rotate_left
      · intro w hSw; (try dsimp only at hSw); go_simp; try with_reducible rfl
      try simp only [Act.put, List.setIfInBounds_toArray, List.set_cons_zero, List.set_cons_succ]
      refine anyT_take (i := 22) (v := ?_) (by simp only [List.getElem?_toArray, List.getElem?_cons_succ, List.getElem?_cons_zero]; rfl) (by kernel_rfl) (by kernel_rfl) (by kernel_rfl) (by kernel_rfl) (by exact fun _ _ _ h => h) (Or.inl ⟨by rfl, ?_⟩) (by assumption) ?_
      rotate_left
      · intro w hSw; (try dsimp only at hSw); go_simp; try with_reducible rfl
      try simp only [Act.put, List.setIfInBounds_toArray, List.set_cons_zero, List.set_cons_succ]
      refine anyT_ready (rs := [23]) (by kernel_rfl) (by simp) (ReadyT.cons (by simp only [List.getElem?_toArray, List.getElem?_cons_succ, List.getElem?_cons_zero]; rfl) (fun K hK => ?_) ReadyT.nil)
      go_simp
      go_at_call 34
      (with_reducible refine (quot_Divides _ _ _ _ _ _ _ _ _ (h3.to (by with_reducible repeat (first | exact Below.refl _ _ | refine nxa ?_ _ | refine nxd ?_ _ | refine nxw ?_ | refine nx ?_ (by assumption)))) (h2.to (by with_reducible repeat (first | exact Below.refl _ _ | refine nxa ?_ _ | refine nxd ?_ _ | refine nxw ?_ | refine nx ?_ (by assumption)))) (by omega)).mono ?_)
      rw [H2.out]
      rintro e w12 ⟨rfl, hb12⟩
      go_simp
      refine hK.out _ _ (KP1 _ (by with_reducible repeat (first | exact Below.refl _ _ | refine nxa ?_ _ | refine nxd ?_ _ | refine nxw ?_ | refine nx ?_ (by assumption)))) (fun hHeld => ?_)
      clear hK K
      try simp only [Act.put, List.setIfInBounds_toArray, List.set_cons_zero, List.set_cons_succ]
      refine anyT_take (i := 24) (v := ?_) (by simp only [List.getElem?_toArray, List.getElem?_cons_succ, List.getElem?_cons_zero]; rfl) (by kernel_rfl) (by kernel_rfl) (by kernel_rfl) (by kernel_rfl) (by exact fun _ _ _ h => h) (Or.inl ⟨by rfl, ?_⟩) (by assumption) ?_
      rotate_left
      · intro w hSw; (try dsimp only at hSw); go_simp; try with_reducible rfl
      try simp only [Act.put, List.setIfInBounds_toArray, List.set_cons_zero, List.set_cons_succ]
      refine anyT_take (i := 25) (v := ?_) (by simp only [List.getElem?_toArray, List.getElem?_cons_succ, List.getElem?_cons_zero]; rfl) (by kernel_rfl) (by kernel_rfl) (by kernel_rfl) (by kernel_rfl) (by exact fun _ _ _ h => h) (Or.inl ⟨by rfl, ?_⟩) (by assumption) ?_
      rotate_left
      · intro w hSw; (try dsimp only at hSw); go_simp; try with_reducible rfl
      try simp only [Act.put, List.setIfInBounds_toArray, List.set_cons_zero, List.set_cons_succ]
      refine anyT_take (i := 26) (v := ?_) (by simp only [List.getElem?_toArray, List.getElem?_cons_succ, List.getElem?_cons_zero]; rfl) (by kernel_rfl) (by kernel_rfl) (by kernel_rfl) (by kernel_rfl) (by exact fun _ _ _ h => h) (Or.inl ⟨by rfl, ?_⟩) (by assumption) ?_
      rotate_left
      · intro w hSw; (try dsimp only at hSw); go_simp; try with_reducible rfl
      try simp only [Act.put, List.setIfInBounds_toArray, List.set_cons_zero, List.set_cons_succ]
      refine anyT_take (i := 27) (v := undef) (by simp only [List.getElem?_toArray, List.getElem?_cons_succ, List.getElem?_cons_zero]; rfl) (by kernel_rfl) (by kernel_rfl) (by kernel_rfl) (by kernel_rfl) (by exact fun _ _ _ h => h) (Or.inr ⟨by rfl, rfl⟩) (by assumption) ?_
      try simp only [Act.put, List.setIfInBounds_toArray, List.set_cons_zero, List.set_cons_succ]
      refine anyT_take (i := 28) (v := undef) (by simp only [List.getElem?_toArray, List.getElem?_cons_succ, List.getElem?_cons_zero]; rfl) (by kernel_rfl) (by kernel_rfl) (by kernel_rfl) (by kernel_rfl) (by exact fun _ _ _ h => h) (Or.inr ⟨by rfl, rfl⟩) (by assumption) ?_
      try simp only [Act.put, List.setIfInBounds_toArray, List.set_cons_zero, List.set_cons_succ]
      refine anyT_take (i := 29) (v := undef) (by simp only [List.getElem?_toArray, List.getElem?_cons_succ, List.getElem?_cons_zero]; rfl) (by kernel_rfl) (by kernel_rfl) (by kernel_rfl) (by kernel_rfl) (by exact fun _ _ _ h => h) (Or.inr ⟨by rfl, rfl⟩) (by assumption) ?_
      try simp only [Act.put, List.setIfInBounds_toArray, List.set_cons_zero, List.set_cons_succ]
      refine anyT_take (i := 30) (v := undef) (by simp only [List.getElem?_toArray, List.getElem?_cons_succ, List.getElem?_cons_zero]; rfl) (by kernel_rfl) (by kernel_rfl) (by kernel_rfl) (by kernel_rfl) (by exact fun _ _ _ h => h) (Or.inr ⟨by rfl, rfl⟩) (by assumption) ?_
      try simp only [Act.put, List.setIfInBounds_toArray, List.set_cons_zero, List.set_cons_succ]
      refine anyT_take (i := 31) (v := ?_) (by simp only [List.getElem?_toArray, List.getElem?_cons_succ, List.getElem?_cons_zero]; rfl) (by kernel_rfl) (by kernel_rfl) (by kernel_rfl) (by kernel_rfl) (by exact fun _ _ _ h => h) (Or.inl ⟨by rfl, ?_⟩) (by assumption) ?_
      rotate_left
      · intro w hSw; (try dsimp only at hSw); go_simp; try with_reducible rfl
      try simp only [Act.put, List.setIfInBounds_toArray, List.set_cons_zero, List.set_cons_succ]
      refine anyT_take (i := 32) (v := ?_) (by simp only [List.getElem?_toArray, List.getElem?_cons_succ, List.getElem?_cons_zero]; rfl) (by kernel_rfl) (by kernel_rfl) (by kernel_rfl) (by kernel_rfl) (by exact fun _ _ _ h => h) (Or.inl ⟨by rfl, ?_⟩) (by assumption) ?_
      rotate_left
      · intro w hSw; (try dsimp only at hSw); go_simp; try with_reducible rfl
      try simp only [Act.put, List.setIfInBounds_toArray, List.set_cons_zero, List.set_cons_succ]
      refine anyT_take (i := 33) (v := ?_) (by simp only [List.getElem?_toArray, List.getElem?_cons_succ, List.getElem?_cons_zero]; rfl) (by kernel_rfl) (by kernel_rfl) (by kernel_rfl) (by kernel_rfl) (by exact fun _ _ _ h => h) (Or.inl ⟨by rfl, ?_⟩) (by assumption) ?_
      rotate_left
      · intro w hSw; (try dsimp only at hSw); go_simp; try with_reducible rfl
      try simp only [Act.put, List.setIfInBounds_toArray, List.set_cons_zero, List.set_cons_succ]
      refine anyT_done (by kernel_rfl) ?_ _
      clear hHeld
      clear CX3 CX4 CX5 CX1 CX2 KP1
      go_wp2_with fail
      go_ret
      exact ⟨rfl, (by with_reducible repeat (first | exact Below.refl _ _ | refine nxa ?_ _ | refine nxd ?_ _ | refine nxw ?_ | refine nx ?_ (by assumption)))⟩
  · have H1 := Lib.hid (decide_eq_false h1)
    clear h1
    go_enter Try.func9, Try.ntmps9
    go_wp2_with fail
    refine (awake4 _).mono ?_
    rintro e w1 ⟨rfl, hb1⟩
    go_wp2_with fail
    refine (nat_Of _ _ _ _ _ (k1.to (by with_reducible repeat (first | exact Below.refl _ _ | refine nxa ?_ _ | refine nxd ?_ _ | refine nxw ?_ | refine nx ?_ (by assumption)))) (by omega)).mono ?_
    rintro e w2 ⟨A2, n2, c2, rfl, h2, hb2, m2⟩
    go_wp2_with fail
    refine (nat_Of _ _ _ _ _ (k2.to (by with_reducible repeat (first | exact Below.refl _ _ | refine nxa ?_ _ | refine nxd ?_ _ | refine nxw ?_ | refine nx ?_ (by assumption)))) (by omega)).mono ?_
    rintro e w3 ⟨A3, n3, c3, rfl, h3, hb3, m3⟩
    go_wp2_with fail
    refine (nat_Of _ _ _ _ _ (k3.to (by with_reducible repeat (first | exact Below.refl _ _ | refine nxa ?_ _ | refine nxd ?_ _ | refine nxw ?_ | refine nx ?_ (by assumption)))) (by omega)).mono ?_
    rintro e w4 ⟨A4, n4, c4, rfl, h4, hb4, m4⟩
    go_wp2_with fail
    have X1 := Blk1.newAt w4 (w4.heap.size) 25 (.slice A2 n2 c2) (by first | rfl | simp)
    have X2 := Blk1.newAt (w4.alloc (.cells #[.slice A2 n2 c2] 25)) (w4.heap.size + 1) 25 (.slice A3 n3 c3) (by first | rfl | simp)
    have X3 := Blk1.newAt ((w4.alloc (.cells #[.slice A2 n2 c2] 25)).alloc (.cells #[.slice A3 n3 c3] 25)) (w4.heap.size + 1 + 1) 25 (.slice A4 n4 c4) (by first | rfl | simp)
    replace X1 := (show Blk1 (((w4.alloc (.cells #[.slice A2 n2 c2] 25)).alloc (.cells #[.slice A3 n3 c3] 25)).alloc (.cells #[.slice A4 n4 c4] 25)) _ _ _ from X1.to (by with_reducible repeat (first | exact Below.refl _ _ | refine nxa ?_ _ | refine nxd ?_ _ | refine nxw ?_ | refine nx ?_ (by assumption))))
    replace X2 := (show Blk1 (((w4.alloc (.cells #[.slice A2 n2 c2] 25)).alloc (.cells #[.slice A3 n3 c3] 25)).alloc (.cells #[.slice A4 n4 c4] 25)) _ _ _ from X2.to (by with_reducible repeat (first | exact Below.refl _ _ | refine nxa ?_ _ | refine nxd ?_ _ | refine nxw ?_ | refine nx ?_ (by assumption))))
    have hbwe1 : Below w4.heap.size w4 (((w4.alloc (.cells #[.slice A2 n2 c2] 25)).alloc (.cells #[.slice A3 n3 c3] 25)).alloc (.cells #[.slice A4 n4 c4] 25)) := (by with_reducible repeat (first | exact Below.refl _ _ | refine nxa ?_ _ | refine nxd ?_ _ | refine nxw ?_ | refine nx ?_ (by assumption)))
    generalize (((w4.alloc (.cells #[.slice A2 n2 c2] 25)).alloc (.cells #[.slice A3 n3 c3] 25)).alloc (.cells #[.slice A4 n4 c4] 25)) = we1 at X1 X2 X3 hbwe1  ⊢
    have CX1 := (show Blk1 we1 _ _ _ from X1.to (by with_reducible repeat (first | exact Below.refl _ _ | refine nxa ?_ _ | refine nxd ?_ _ | refine nxw ?_ | refine nx ?_ (by assumption)))).cell
    have CX3 := (show Blk1 we1 _ _ _ from X3.to (by with_reducible repeat (first | exact Below.refl _ _ | refine nxa ?_ _ | refine nxd ?_ _ | refine nxw ?_ | refine nx ?_ (by assumption)))).cell
    have CX2 := (show Blk1 we1 _ _ _ from X2.to (by with_reducible repeat (first | exact Below.refl _ _ | refine nxa ?_ _ | refine nxd ?_ _ | refine nxw ?_ | refine nx ?_ (by assumption)))).cell
    refine wp_regionE [(6, 10, 25, .slice none 0 0), (7, 11, 25, .slice none 0 0)] (by kernel_rfl) (by kernel_rfl) (mk_cons (mk_nat (by simp only [List.getElem?_toArray, List.getElem?_cons_succ, List.getElem?_cons_zero]; rfl) rfl rfl rfl) (mk_cons (mk_nat (by simp only [List.getElem?_toArray, List.getElem?_cons_succ, List.getElem?_cons_zero]; rfl) rfl rfl rfl) (mk_nil))) (by exact fun _ _ _ _ _ h => h) (by exact fun _ _ _ _ _ h => h) (f := 8) (by rfl) ?_
    have hbdE1 : Below we1.heap.size we1 we1.drew := nxw (Below.refl _ _)
    generalize we1.drew = wdE1 at hbdE1 ⊢
    replace CX1 := cellB hbdE1 CX1
    replace CX3 := cellB hbdE1 CX3
    replace CX2 := cellB hbdE1 CX2
    have hH := Lib.hid (Below.refl wdE1.heap.size wdE1)
    refine anyE_take (i := 0) (v := ?_) (by simp only [List.getElem?_toArray, List.getElem?_cons_succ, List.getElem?_cons_zero]; rfl) (by kernel_rfl) (by exact fun _ _ _ h => h) (Or.inl ⟨by rfl, ?_⟩) hH.out ?_
    rotate_left
    · intro w hSw; have c := cellB hSw CX1; go_simp; try with_reducible rfl
    try simp only [Act.put, List.setIfInBounds_toArray, List.set_cons_zero, List.set_cons_succ]
    refine anyE_take (i := 1) (v := ?_) (by simp only [List.getElem?_toArray, List.getElem?_cons_succ, List.getElem?_cons_zero]; rfl) (by kernel_rfl) (by exact fun _ _ _ h => h) (Or.inl ⟨by rfl, ?_⟩) hH.out ?_
    rotate_left
    · intro w hSw; have c := cellB hSw CX3; go_simp; try with_reducible rfl
    try simp only [Act.put, List.setIfInBounds_toArray, List.set_cons_zero, List.set_cons_succ]
    refine anyE_take (i := 3) (v := ?_) (by simp only [List.getElem?_toArray, List.getElem?_cons_succ, List.getElem?_cons_zero]; rfl) (by kernel_rfl) (by exact fun _ _ _ h => h) (Or.inl ⟨by rfl, ?_⟩) hH.out ?_
    rotate_left
    · intro w hSw; have c := cellB hSw CX2; go_simp; try with_reducible rfl
    try simp only [Act.put, List.setIfInBounds_toArray, List.set_cons_zero, List.set_cons_succ]
    refine anyE_take (i := 4) (v := ?_) (by simp only [List.getElem?_toArray, List.getElem?_cons_succ, List.getElem?_cons_zero]; rfl) (by kernel_rfl) (by exact fun _ _ _ h => h) (Or.inl ⟨by rfl, ?_⟩) hH.out ?_
    rotate_left
    · intro w hSw; have c := cellB hSw CX3; go_simp; try with_reducible rfl
    try simp only [Act.put, List.setIfInBounds_toArray, List.set_cons_zero, List.set_cons_succ]
    refine anyE_one (i := 2) (by simp only [List.getElem?_toArray, List.getElem?_cons_succ, List.getElem?_cons_zero]; rfl) (by kernel_rfl) (fun wi1_2 hbwi1_2 K hK => ?_)
    go_simp
    go_at_call 27
    (with_reducible refine (prod_Mul _ _ _ _ _ _ _ _ _ (h2.to (by with_reducible repeat (first | exact Below.refl _ _ | refine nxa ?_ _ | refine nxd ?_ _ | refine nxw ?_ | refine nx ?_ (by assumption)))) (h4.to (by with_reducible repeat (first | exact Below.refl _ _ | refine nxa ?_ _ | refine nxd ?_ _ | refine nxw ?_ | refine nx ?_ (by assumption)))) (by omega)).mono ?_)
    rintro e w5 ⟨A5, n5, c5, rfl, h5, hb5⟩
    have q5 := h5.le_of _ (mul_lt_pow h2.lt h4.lt)
    go_simp
    refine hK.out _ _ (show Below wi1_2.heap.size wi1_2 w5 from (by with_reducible repeat (first | exact Below.refl _ _ | refine nxa ?_ _ | refine nxd ?_ _ | refine nxw ?_ | refine nx ?_ (by assumption)))) ?_
    clear hK K
    replace hH := Lib.hid (nx hH.out (show Below wdE1.heap.size wdE1 w5 from (by with_reducible repeat (first | exact Below.refl _ _ | refine nxa ?_ _ | refine nxd ?_ _ | refine nxw ?_ | refine nx ?_ (by assumption)))))
    try simp only [Act.put, List.setIfInBounds_toArray, List.set_cons_zero, List.set_cons_succ]
    refine anyE_one (i := 5) (by simp only [List.getElem?_toArray, List.getElem?_cons_succ, List.getElem?_cons_zero]; rfl) (by kernel_rfl) (fun wi1_5 hbwi1_5 K hK => ?_)
    go_simp
    go_at_call 27
    (with_reducible refine (prod_Mul _ _ _ _ _ _ _ _ _ (h3.to (by with_reducible repeat (first | exact Below.refl _ _ | refine nxa ?_ _ | refine nxd ?_ _ | refine nxw ?_ | refine nx ?_ (by assumption)))) (h4.to (by with_reducible repeat (first | exact Below.refl _ _ | refine nxa ?_ _ | refine nxd ?_ _ | refine nxw ?_ | refine nx ?_ (by assumption)))) (by omega)).mono ?_)
    rintro e w6 ⟨A6, n6, c6, rfl, h6, hb6⟩
    have q6 := h6.le_of _ (mul_lt_pow h3.lt h4.lt)
    go_simp
    refine hK.out _ _ (show Below wi1_5.heap.size wi1_5 w6 from (by with_reducible repeat (first | exact Below.refl _ _ | refine nxa ?_ _ | refine nxd ?_ _ | refine nxw ?_ | refine nx ?_ (by assumption)))) ?_
    clear hK K
    replace hH := Lib.hid (nx hH.out (show Below w5.heap.size w5 w6 from (by with_reducible repeat (first | exact Below.refl _ _ | refine nxa ?_ _ | refine nxd ?_ _ | refine nxw ?_ | refine nx ?_ (by assumption)))))
    try simp only [Act.put, List.setIfInBounds_toArray, List.set_cons_zero, List.set_cons_succ]
    refine anyE_done (by kernel_rfl) (fun wzE1 hbzE1 => ?_)
    refine FinD_cons (fun gEX4 X4 hgEX4 hnEX4 => ?_)
    clear hnEX4
    refine FinD_cons (fun gEX5 X5 hgEX5 hnEX5 => ?_)
    have nEX5X4 : gEX5 ≠ gEX4 := fun e => hnEX5 (by simp [e])
    clear hnEX5
    refine FinD_nil ?_
    try simp only [Act.put, List.setIfInBounds_toArray, List.set_cons_zero, List.set_cons_succ]
    replace h5 := (show NatAt wzE1 _ _ _ _ from h5.to (by with_reducible repeat (first | exact Below.refl _ _ | refine nxa ?_ _ | refine nxd ?_ _ | refine nxw ?_ | refine nx ?_ (by assumption))))
    replace h6 := (show NatAt wzE1 _ _ _ _ from h6.to (by with_reducible repeat (first | exact Below.refl _ _ | refine nxa ?_ _ | refine nxd ?_ _ | refine nxw ?_ | refine nx ?_ (by assumption))))
    have hbtE1 := Lib.hid (show Below we1.heap.size we1 wzE1 from nx hbdE1 (nx hH.out hbzE1))
    clear hH
    refine anyT_ready (rs := [8]) (by kernel_rfl) (by simp) (ReadyT.cons (by simp only [List.getElem?_toArray, List.getElem?_cons_succ, List.getElem?_cons_zero]; rfl) (fun K hK => ?_) ReadyT.nil)
    rw [if_pos (by rfl)]
    refine wp_store_nat _ _ rfl rfl rfl X4 ?_
    replace X5 := X5.far (p := ⟨gEX4, 0, none⟩) nEX5X4 (.slice A5 n5 c5)
    replace h5 := h5.put_ X4.cell (.slice A5 n5 c5)
    replace h6 := h6.put_ X4.cell (.slice A5 n5 c5)
    replace hbtE1 := nxs hbtE1.out (p := ⟨gEX4, 0, none⟩) (Nat.le_trans hbdE1.size hgEX4) (.slice A5 n5 c5)
    replace X4 := X4.set (.slice A5 n5 c5)
    generalize wzE1.setCell ⟨gEX4, 0, none⟩ (.slice A5 n5 c5) = wsE2 at X4 X5 h5 h6 hbtE1 ⊢
    refine hK.out _ _ trivial (fun _ => ?_)
    clear hK K
    try simp only [Act.put, List.setIfInBounds_toArray, List.set_cons_zero, List.set_cons_succ]
    refine anyT_ready (rs := [9]) (by kernel_rfl) (by simp) (ReadyT.cons (by simp only [List.getElem?_toArray, List.getElem?_cons_succ, List.getElem?_cons_zero]; rfl) (fun K hK => ?_) ReadyT.nil)
    rw [if_pos (by rfl)]
    refine wp_store_nat _ _ rfl rfl rfl X5 ?_
    replace X4 := X4.far (p := ⟨gEX5, 0, none⟩) (Ne.symm nEX5X4) (.slice A6 n6 c6)
    replace h5 := h5.put_ X5.cell (.slice A6 n6 c6)
    replace h6 := h6.put_ X5.cell (.slice A6 n6 c6)
    replace hbtE1 := nxs hbtE1 (p := ⟨gEX5, 0, none⟩) (Nat.le_trans hbdE1.size hgEX5) (.slice A6 n6 c6)
    replace X5 := X5.set (.slice A6 n6 c6)
    generalize wsE2.setCell ⟨gEX5, 0, none⟩ (.slice A6 n6 c6) = wsE3 at X5 X4 h5 h6 hbtE1 ⊢
    refine hK.out _ _ trivial (fun _ => ?_)
    clear hK K
    try simp only [Act.put, List.setIfInBounds_toArray, List.set_cons_zero, List.set_cons_succ]
    refine anyT_done (by kernel_rfl) ?_ _
    clear CX1 CX3 CX2
    go_wp2_with fail
    have CX3 := (show Blk1 wsE3 _ _ _ from X3.to (by with_reducible repeat (first | exact Below.refl _ _ | refine nxa ?_ _ | refine nxd ?_ _ | refine nxw ?_ | refine nx ?_ (by assumption)))).cell
    have CX4 := (show Blk1 wsE3 _ _ _ from X4.to (by with_reducible repeat (first | exact Below.refl _ _ | refine nxa ?_ _ | refine nxd ?_ _ | refine nxw ?_ | refine nx ?_ (by assumption)))).cell
    have CX5 := (show Blk1 wsE3 _ _ _ from X5.to (by with_reducible repeat (first | exact Below.refl _ _ | refine nxa ?_ _ | refine nxd ?_ _ | refine nxw ?_ | refine nx ?_ (by assumption)))).cell
    have CX1 := (show Blk1 wsE3 _ _ _ from X1.to (by with_reducible repeat (first | exact Below.refl _ _ | refine nxa ?_ _ | refine nxd ?_ _ | refine nxw ?_ | refine nx ?_ (by assumption)))).cell
    have CX2 := (show Blk1 wsE3 _ _ _ from X2.to (by with_reducible repeat (first | exact Below.refl _ _ | refine nxa ?_ _ | refine nxd ?_ _ | refine nxw ?_ | refine nx ?_ (by assumption)))).cell
    have KP1 : ∀ w', Below wsE3.heap.size wsE3 w' → w'.cell? ⟨w4.heap.size + 1 + 1, 0, none⟩ = some (.slice A4 n4 c4) ∧ w'.cell? ⟨gEX4, 0, none⟩ = some (.slice A5 n5 c5) ∧ w'.cell? ⟨gEX5, 0, none⟩ = some (.slice A6 n6 c6) ∧ w'.cell? ⟨w4.heap.size, 0, none⟩ = some (.slice A2 n2 c2) ∧ w'.cell? ⟨w4.heap.size + 1, 0, none⟩ = some (.slice A3 n3 c3) ∧ True := fun w' hw' => ⟨cellB hw' CX3, cellB hw' CX4, cellB hw' CX5, cellB hw' CX1, cellB hw' CX2, trivial⟩
    refine wp_regionT (S := fun w' => w'.cell? ⟨w4.heap.size + 1 + 1, 0, none⟩ = some (.slice A4 n4 c4) ∧ w'.cell? ⟨gEX4, 0, none⟩ = some (.slice A5 n5 c5) ∧ w'.cell? ⟨gEX5, 0, none⟩ = some (.slice A6 n6 c6) ∧ w'.cell? ⟨w4.heap.size, 0, none⟩ = some (.slice A2 n2 c2) ∧ w'.cell? ⟨w4.heap.size + 1, 0, none⟩ = some (.slice A3 n3 c3) ∧ True) [] (by kernel_rfl) (KP1 _ (by with_reducible repeat (first | exact Below.refl _ _ | refine nxa ?_ _ | refine nxd ?_ _ | refine nxw ?_ | refine nx ?_ (by assumption)))) (fun hHeld => ?_)
    have hbd1 : Below wsE3.heap.size wsE3 wsE3.drew := nxw (Below.refl _ _)
    generalize wsE3.drew = wd1 at hHeld hbd1 ⊢
    refine anyT_take (i := 0) (v := ?_) (by simp only [List.getElem?_toArray, List.getElem?_cons_succ, List.getElem?_cons_zero]; rfl) (by kernel_rfl) (by kernel_rfl) (by kernel_rfl) (by kernel_rfl) (by exact fun _ _ _ h => h) (Or.inl ⟨by rfl, ?_⟩) (by assumption) ?_
    rotate_left
    · intro w hSw; (try dsimp only at hSw); go_simp; try with_reducible rfl
    try simp only [Act.put, List.setIfInBounds_toArray, List.set_cons_zero, List.set_cons_succ]
    refine anyT_take (i := 1) (v := ?_) (by simp only [List.getElem?_toArray, List.getElem?_cons_succ, List.getElem?_cons_zero]; rfl) (by kernel_rfl) (by kernel_rfl) (by kernel_rfl) (by kernel_rfl) (by exact fun _ _ _ h => h) (Or.inl ⟨by rfl, ?_⟩) (by assumption) ?_
    rotate_left
    · intro w hSw; (try dsimp only at hSw); go_simp; try with_reducible rfl
    try simp only [Act.put, List.setIfInBounds_toArray, List.set_cons_zero, List.set_cons_succ]
    refine anyT_ready (rs := [2]) (by kernel_rfl) (by simp) (ReadyT.cons (by simp only [List.getElem?_toArray, List.getElem?_cons_succ, List.getElem?_cons_zero]; rfl) (fun K hK => ?_) ReadyT.nil)
    go_simp
    go_at_call 34
    (with_reducible refine (quot_Divides _ _ _ _ _ _ _ _ _ (h4.to (by with_reducible repeat (first | exact Below.refl _ _ | refine nxa ?_ _ | refine nxd ?_ _ | refine nxw ?_ | refine nx ?_ (by assumption)))) (h5.to (by with_reducible repeat (first | exact Below.refl _ _ | refine nxa ?_ _ | refine nxd ?_ _ | refine nxw ?_ | refine nx ?_ (by assumption)))) (by omega)).mono ?_)
    rw [decide_eq_true (Nat.dvd_mul_left z x)]
    rintro e w7 ⟨rfl, hb7⟩
    go_simp
    refine hK.out _ _ (KP1 _ (by with_reducible repeat (first | exact Below.refl _ _ | refine nxa ?_ _ | refine nxd ?_ _ | refine nxw ?_ | refine nx ?_ (by assumption)))) (fun hHeld => ?_)
    clear hK K
    try simp only [Act.put, List.setIfInBounds_toArray, List.set_cons_zero, List.set_cons_succ]
    refine anyT_take (i := 3) (v := ?_) (by simp only [List.getElem?_toArray, List.getElem?_cons_succ, List.getElem?_cons_zero]; rfl) (by kernel_rfl) (by kernel_rfl) (by kernel_rfl) (by kernel_rfl) (by exact fun _ _ _ h => h) (Or.inl ⟨by rfl, ?_⟩) (by assumption) ?_
    rotate_left
    · intro w hSw; (try dsimp only at hSw); go_simp; try with_reducible rfl
    try simp only [Act.put, List.setIfInBounds_toArray, List.set_cons_zero, List.set_cons_succ]
    refine anyT_take (i := 4) (v := ?_) (by simp only [List.getElem?_toArray, List.getElem?_cons_succ, List.getElem?_cons_zero]; rfl) (by kernel_rfl) (by kernel_rfl) (by kernel_rfl) (by kernel_rfl) (by exact fun _ _ _ h => h) (Or.inl ⟨by rfl, ?_⟩) (by assumption) ?_
    rotate_left
    · intro w hSw; (try dsimp only at hSw); go_simp; try with_reducible rfl
    try simp only [Act.put, List.setIfInBounds_toArray, List.set_cons_zero, List.set_cons_succ]
    refine anyT_take (i := 5) (v := ?_) (by simp only [List.getElem?_toArray, List.getElem?_cons_succ, List.getElem?_cons_zero]; rfl) (by kernel_rfl) (by kernel_rfl) (by kernel_rfl) (by kernel_rfl) (by exact fun _ _ _ h => h) (Or.inl ⟨by rfl, ?_⟩) (by assumption) ?_
    rotate_left
    · intro w hSw; (try dsimp only at hSw); go_simp; try with_reducible rfl
    try simp only [Act.put, List.setIfInBounds_toArray, List.set_cons_zero, List.set_cons_succ]
    refine anyT_take (i := 6) (v := ?_) (by simp only [List.getElem?_toArray, List.getElem?_cons_succ, List.getElem?_cons_zero]; rfl) (by kernel_rfl) (by kernel_rfl) (by kernel_rfl) (by kernel_rfl) (by exact fun _ _ _ h => h) (Or.inl ⟨by rfl, ?_⟩) (by assumption) ?_
    rotate_left
    · intro w hSw; (try dsimp only at hSw); go_simp; try with_reducible rfl
    try simp only [Act.put, List.setIfInBounds_toArray, List.set_cons_zero, List.set_cons_succ]
    refine anyT_ready (rs := [7]) (by kernel_rfl) (by simp) (ReadyT.cons (by simp only [List.getElem?_toArray, List.getElem?_cons_succ, List.getElem?_cons_zero]; rfl) (fun K hK => ?_) ReadyT.nil)
    go_simp
    go_at_call 28
    (with_reducible refine (nat_Add _ _ _ _ _ _ _ _ _ (h5.to (by with_reducible repeat (first | exact Below.refl _ _ | refine nxa ?_ _ | refine nxd ?_ _ | refine nxw ?_ | refine nx ?_ (by assumption)))) (h6.to (by with_reducible repeat (first | exact Below.refl _ _ | refine nxa ?_ _ | refine nxd ?_ _ | refine nxw ?_ | refine nx ?_ (by assumption)))) (by omega) (by omega)).mono ?_)
    rintro e w8 ⟨A8, n8, c8, rfl, h8, hb8⟩
    have q8 := h8.le_of _ (add_lt h5.lt h6.lt)
    go_simp
    refine hK.out _ _ (KP1 _ (by with_reducible repeat (first | exact Below.refl _ _ | refine nxa ?_ _ | refine nxd ?_ _ | refine nxw ?_ | refine nx ?_ (by assumption)))) (fun hHeld => ?_)
    clear hK K
    try simp only [Act.put, List.setIfInBounds_toArray, List.set_cons_zero, List.set_cons_succ]
    refine anyT_ready (rs := [8]) (by kernel_rfl) (by simp) (ReadyT.cons (by simp only [List.getElem?_toArray, List.getElem?_cons_succ, List.getElem?_cons_zero]; rfl) (fun K hK => ?_) ReadyT.nil)
    go_simp
    go_at_call 34
    (with_reducible refine (quot_Divides _ _ _ _ _ _ _ _ _ (h4.to (by with_reducible repeat (first | exact Below.refl _ _ | refine nxa ?_ _ | refine nxd ?_ _ | refine nxw ?_ | refine nx ?_ (by assumption)))) (h8.to (by with_reducible repeat (first | exact Below.refl _ _ | refine nxa ?_ _ | refine nxd ?_ _ | refine nxw ?_ | refine nx ?_ (by assumption)))) (by omega)).mono ?_)
    rw [decide_eq_true (Nat.dvd_add (Nat.dvd_mul_left z x) (Nat.dvd_mul_left z y))]
    rintro e w9 ⟨rfl, hb9⟩
    go_simp
    refine hK.out _ _ (KP1 _ (by with_reducible repeat (first | exact Below.refl _ _ | refine nxa ?_ _ | refine nxd ?_ _ | refine nxw ?_ | refine nx ?_ (by assumption)))) (fun hHeld => ?_)
    clear hK K
    try simp only [Act.put, List.setIfInBounds_toArray, List.set_cons_zero, List.set_cons_succ]
    refine anyT_take (i := 9) (v := ?_) (by simp only [List.getElem?_toArray, List.getElem?_cons_succ, List.getElem?_cons_zero]; rfl) (by kernel_rfl) (by kernel_rfl) (by kernel_rfl) (by kernel_rfl) (by exact fun _ _ _ h => h) (Or.inl ⟨by rfl, ?_⟩) (by assumption) ?_
    rotate_left
    · intro w hSw; (try dsimp only at hSw); go_simp; try with_reducible rfl
    try simp only [Act.put, List.setIfInBounds_toArray, List.set_cons_zero, List.set_cons_succ]
    refine anyT_take (i := 10) (v := ?_) (by simp only [List.getElem?_toArray, List.getElem?_cons_succ, List.getElem?_cons_zero]; rfl) (by kernel_rfl) (by kernel_rfl) (by kernel_rfl) (by kernel_rfl) (by exact fun _ _ _ h => h) (Or.inl ⟨by rfl, ?_⟩) (by assumption) ?_
    rotate_left
    · intro w hSw; (try dsimp only at hSw); go_simp; try with_reducible rfl
    try simp only [Act.put, List.setIfInBounds_toArray, List.set_cons_zero, List.set_cons_succ]
    refine anyT_take (i := 11) (v := ?_) (by simp only [List.getElem?_toArray, List.getElem?_cons_succ, List.getElem?_cons_zero]; rfl) (by kernel_rfl) (by kernel_rfl) (by kernel_rfl) (by kernel_rfl) (by exact fun _ _ _ h => h) (Or.inl ⟨by rfl, ?_⟩) (by assumption) ?_
    rotate_left
    · intro w hSw; (try dsimp only at hSw); go_simp; try with_reducible rfl
    try simp only [Act.put, List.setIfInBounds_toArray, List.set_cons_zero, List.set_cons_succ]
    refine anyT_take (i := 12) (v := ?_) (by simp only [List.getElem?_toArray, List.getElem?_cons_succ, List.getElem?_cons_zero]; rfl) (by kernel_rfl) (by kernel_rfl) (by kernel_rfl) (by kernel_rfl) (by exact fun _ _ _ h => h) (Or.inl ⟨by rfl, ?_⟩) (by assumption) ?_
    rotate_left
    · intro w hSw; (try dsimp only at hSw); go_simp; try with_reducible rfl
    try simp only [Act.put, List.setIfInBounds_toArray, List.set_cons_zero, List.set_cons_succ]
    refine anyT_ready (rs := [13]) (by kernel_rfl) (by simp) (ReadyT.cons (by simp only [List.getElem?_toArray, List.getElem?_cons_succ, List.getElem?_cons_zero]; rfl) (fun K hK => ?_) ReadyT.nil)
    go_simp
    go_at_call 34
    (with_reducible refine (quot_Divides _ _ _ _ _ _ _ _ _ (h2.to (by with_reducible repeat (first | exact Below.refl _ _ | refine nxa ?_ _ | refine nxd ?_ _ | refine nxw ?_ | refine nx ?_ (by assumption)))) (h5.to (by with_reducible repeat (first | exact Below.refl _ _ | refine nxa ?_ _ | refine nxd ?_ _ | refine nxw ?_ | refine nx ?_ (by assumption)))) (by omega)).mono ?_)
    rw [decide_eq_true (Nat.dvd_mul_right x z)]
    rintro e w10 ⟨rfl, hb10⟩
    go_simp
    refine hK.out _ _ (KP1 _ (by with_reducible repeat (first | exact Below.refl _ _ | refine nxa ?_ _ | refine nxd ?_ _ | refine nxw ?_ | refine nx ?_ (by assumption)))) (fun hHeld => ?_)
    clear hK K
    try simp only [Act.put, List.setIfInBounds_toArray, List.set_cons_zero, List.set_cons_succ]
    refine anyT_take (i := 14) (v := ?_) (by simp only [List.getElem?_toArray, List.getElem?_cons_succ, List.getElem?_cons_zero]; rfl) (by kernel_rfl) (by kernel_rfl) (by kernel_rfl) (by kernel_rfl) (by exact fun _ _ _ h => h) (Or.inl ⟨by rfl, ?_⟩) (by assumption) ?_
    rotate_left
    · intro w hSw; (try dsimp only at hSw); go_simp; try with_reducible rfl
    try simp only [Act.put, List.setIfInBounds_toArray, List.set_cons_zero, List.set_cons_succ]
    refine anyT_take (i := 15) (v := ?_) (by simp only [List.getElem?_toArray, List.getElem?_cons_succ, List.getElem?_cons_zero]; rfl) (by kernel_rfl) (by kernel_rfl) (by kernel_rfl) (by kernel_rfl) (by exact fun _ _ _ h => h) (Or.inl ⟨by rfl, ?_⟩) (by assumption) ?_
    rotate_left
    · intro w hSw; (try dsimp only at hSw); go_simp; try with_reducible rfl
    try simp only [Act.put, List.setIfInBounds_toArray, List.set_cons_zero, List.set_cons_succ]
    refine anyT_take (i := 16) (v := ?_) (by simp only [List.getElem?_toArray, List.getElem?_cons_succ, List.getElem?_cons_zero]; rfl) (by kernel_rfl) (by kernel_rfl) (by kernel_rfl) (by kernel_rfl) (by exact fun _ _ _ h => h) (Or.inl ⟨by rfl, ?_⟩) (by assumption) ?_
    rotate_left
    · intro w hSw; (try dsimp only at hSw); go_simp; try with_reducible rfl
    try simp only [Act.put, List.setIfInBounds_toArray, List.set_cons_zero, List.set_cons_succ]
    refine anyT_take (i := 17) (v := ?_) (by simp only [List.getElem?_toArray, List.getElem?_cons_succ, List.getElem?_cons_zero]; rfl) (by kernel_rfl) (by kernel_rfl) (by kernel_rfl) (by kernel_rfl) (by exact fun _ _ _ h => h) (Or.inl ⟨by rfl, ?_⟩) (by assumption) ?_
    rotate_left
    · intro w hSw; (try dsimp only at hSw); go_simp; try with_reducible rfl
    try simp only [Act.put, List.setIfInBounds_toArray, List.set_cons_zero, List.set_cons_succ]
    refine anyT_ready (rs := [18]) (by kernel_rfl) (by simp) (ReadyT.cons (by simp only [List.getElem?_toArray, List.getElem?_cons_succ, List.getElem?_cons_zero]; rfl) (fun K hK => ?_) ReadyT.nil)
    go_simp
    go_at_call 34
    (with_reducible refine (quot_Divides _ _ _ _ _ _ _ _ _ (h2.to (by with_reducible repeat (first | exact Below.refl _ _ | refine nxa ?_ _ | refine nxd ?_ _ | refine nxw ?_ | refine nx ?_ (by assumption)))) (h3.to (by with_reducible repeat (first | exact Below.refl _ _ | refine nxa ?_ _ | refine nxd ?_ _ | refine nxw ?_ | refine nx ?_ (by assumption)))) (by omega)).mono ?_)
    rw [H1.out]
    rintro e w11 ⟨rfl, hb11⟩
    go_simp
    refine hK.out _ _ (KP1 _ (by with_reducible repeat (first | exact Below.refl _ _ | refine nxa ?_ _ | refine nxd ?_ _ | refine nxw ?_ | refine nx ?_ (by assumption)))) (fun hHeld => ?_)
    clear hK K
    try simp only [Act.put, List.setIfInBounds_toArray, List.set_cons_zero, List.set_cons_succ]
    refine anyT_take (i := 19) (v := ?_) (by simp only [List.getElem?_toArray, List.getElem?_cons_succ, List.getElem?_cons_zero]; rfl) (by kernel_rfl) (by kernel_rfl) (by kernel_rfl) (by kernel_rfl) (by exact fun _ _ _ h => h) (Or.inl ⟨by rfl, ?_⟩) (by assumption) ?_
    rotate_left
    · intro w hSw; (try dsimp only at hSw); go_simp; try with_reducible rfl
    try simp only [Act.put, List.setIfInBounds_toArray, List.set_cons_zero, List.set_cons_succ]
    refine anyT_take (i := 20) (v := ?_) (by simp only [List.getElem?_toArray, List.getElem?_cons_succ, List.getElem?_cons_zero]; rfl) (by kernel_rfl) (by kernel_rfl) (by kernel_rfl) (by kernel_rfl) (by exact fun _ _ _ h => h) (Or.inl ⟨by rfl, ?_⟩) (by assumption) ?_
    rotate_left
    · intro w hSw; (try dsimp only at hSw); go_simp; try with_reducible rfl
    try simp only [Act.put, List.setIfInBounds_toArray, List.set_cons_zero, List.set_cons_succ]
    refine anyT_take (i := 21) (v := undef) (by simp only [List.getElem?_toArray, List.getElem?_cons_succ, List.getElem?_cons_zero]; rfl) (by kernel_rfl) (by kernel_rfl) (by kernel_rfl) (by kernel_rfl) (by exact fun _ _ _ h => h) (Or.inr ⟨by rfl, rfl⟩) (by assumption) ?_
    try simp only [Act.put, List.setIfInBounds_toArray, List.set_cons_zero, List.set_cons_succ]
    refine anyT_take (i := 22) (v := undef) (by simp only [List.getElem?_toArray, List.getElem?_cons_succ, List.getElem?_cons_zero]; rfl) (by kernel_rfl) (by kernel_rfl) (by kernel_rfl) (by kernel_rfl) (by exact fun _ _ _ h => h) (Or.inr ⟨by rfl, rfl⟩) (by assumption) ?_
    try simp only [Act.put, List.setIfInBounds_toArray, List.set_cons_zero, List.set_cons_succ]
    refine anyT_take (i := 23) (v := undef) (by simp only [List.getElem?_toArray, List.getElem?_cons_succ, List.getElem?_cons_zero]; rfl) (by kernel_rfl) (by kernel_rfl) (by kernel_rfl) (by kernel_rfl) (by exact fun _ _ _ h => h) (Or.inr ⟨by rfl, rfl⟩) (by assumption) ?_
    try simp only [Act.put, List.setIfInBounds_toArray, List.set_cons_zero, List.set_cons_succ]
    refine anyT_take (i := 24) (v := undef) (by simp only [List.getElem?_toArray, List.getElem?_cons_succ, List.getElem?_cons_zero]; rfl) (by kernel_rfl) (by kernel_rfl) (by kernel_rfl) (by kernel_rfl) (by exact fun _ _ _ h => h) (Or.inr ⟨by rfl, rfl⟩) (by assumption) ?_
    try simp only [Act.put, List.setIfInBounds_toArray, List.set_cons_zero, List.set_cons_succ]
    refine anyT_take (i := 25) (v := ?_) (by simp only [List.getElem?_toArray, List.getElem?_cons_succ, List.getElem?_cons_zero]; rfl) (by kernel_rfl) (by kernel_rfl) (by kernel_rfl) (by kernel_rfl) (by exact fun _ _ _ h => h) (Or.inl ⟨by rfl, ?_⟩) (by assumption) ?_
    rotate_left
    · intro w hSw; (try dsimp only at hSw); go_simp; try with_reducible rfl
    try simp only [Act.put, List.setIfInBounds_toArray, List.set_cons_zero, List.set_cons_succ]
    refine anyT_take (i := 26) (v := ?_) (by simp only [List.getElem?_toArray, List.getElem?_cons_succ, List.getElem?_cons_zero]; rfl) (by kernel_rfl) (by kernel_rfl) (by kernel_rfl) (by kernel_rfl) (by exact fun _ _ _ h => h) (Or.inl ⟨by rfl, ?_⟩) (by assumption) ?_
    rotate_left
    · intro w hSw; (try dsimp only at hSw); go_simp; try with_reducible rfl
    try simp only [Act.put, List.setIfInBounds_toArray, List.set_cons_zero, List.set_cons_succ]
    refine anyT_take (i := 27) (v := undef) (by simp only [List.getElem?_toArray, List.getElem?_cons_succ, List.getElem?_cons_zero]; rfl) (by kernel_rfl) (by kernel_rfl) (by kernel_rfl) (by kernel_rfl) (by exact fun _ _ _ h => h) (Or.inr ⟨by rfl, rfl⟩) (by assumption) ?_
    try simp only [Act.put, List.setIfInBounds_toArray, List.set_cons_zero, List.set_cons_succ]
    refine anyT_take (i := 28) (v := undef) (by simp only [List.getElem?_toArray, List.getElem?_cons_succ, List.getElem?_cons_zero]; rfl) (by kernel_rfl) (by kernel_rfl) (by kernel_rfl) (by kernel_rfl) (by exact fun _ _ _ h => h) (Or.inr ⟨by rfl, rfl⟩) (by assumption) ?_
    try simp only [Act.put, List.setIfInBounds_toArray, List.set_cons_zero, List.set_cons_succ]
    refine anyT_take (i := 29) (v := undef) (by simp only [List.getElem?_toArray, List.getElem?_cons_succ, List.getElem?_cons_zero]; rfl) (by kernel_rfl) (by kernel_rfl) (by kernel_rfl) (by kernel_rfl) (by exact fun _ _ _ h => h) (Or.inr ⟨by rfl, rfl⟩) (by assumption) ?_
    try simp only [Act.put, List.setIfInBounds_toArray, List.set_cons_zero, List.set_cons_succ]
    refine anyT_take (i := 30) (v := undef) (by simp only [List.getElem?_toArray, List.getElem?_cons_succ, List.getElem?_cons_zero]; rfl) (by kernel_rfl) (by kernel_rfl) (by kernel_rfl) (by kernel_rfl) (by exact fun _ _ _ h => h) (Or.inr ⟨by rfl, rfl⟩) (by assumption) ?_
    try simp only [Act.put, List.setIfInBounds_toArray, List.set_cons_zero, List.set_cons_succ]
    refine anyT_take (i := 31) (v := ?_) (by simp only [List.getElem?_toArray, List.getElem?_cons_succ, List.getElem?_cons_zero]; rfl) (by kernel_rfl) (by kernel_rfl) (by kernel_rfl) (by kernel_rfl) (by exact fun _ _ _ h => h) (Or.inl ⟨by rfl, ?_⟩) (by assumption) ?_
    rotate_left
    · intro w hSw; (try dsimp only at hSw); go_simp; try with_reducible rfl
    try simp only [Act.put, List.setIfInBounds_toArray, List.set_cons_zero, List.set_cons_succ]
    refine anyT_take (i := 32) (v := ?_) (by simp only [List.getElem?_toArray, List.getElem?_cons_succ, List.getElem?_cons_zero]; rfl) (by kernel_rfl) (by kernel_rfl) (by kernel_rfl) (by kernel_rfl) (by exact fun _ _ _ h => h) (Or.inl ⟨by rfl, ?_⟩) (by assumption) ?_
    rotate_left
    · intro w hSw; (try dsimp only at hSw); go_simp; try with_reducible rfl
    try simp only [Act.put, List.setIfInBounds_toArray, List.set_cons_zero, List.set_cons_succ]
    refine anyT_take (i := 33) (v := ?_) (by simp only [List.getElem?_toArray, List.getElem?_cons_succ, List.getElem?_cons_zero]; rfl) (by kernel_rfl) (by kernel_rfl) (by kernel_rfl) (by kernel_rfl) (by exact fun _ _ _ h => h) (Or.inl ⟨by rfl, ?_⟩) (by assumption) ?_
    rotate_left
    · intro w hSw; (try dsimp only at hSw); go_simp; try with_reducible rfl
    try simp only [Act.put, List.setIfInBounds_toArray, List.set_cons_zero, List.set_cons_succ]
    refine anyT_done (by kernel_rfl) ?_ _
    clear hHeld
    clear CX3 CX4 CX5 CX1 CX2 KP1
    go_wp2_with fail
    go_ret
    exact ⟨rfl, (by with_reducible repeat (first | exact Below.refl _ _ | refine nxa ?_ _ | refine nxd ?_ _ | refine nxw ?_ | refine nx ?_ (by assumption)))⟩
end Go.Proofs.Ytflleaifmeiikaa
