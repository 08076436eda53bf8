/- The walk of 'QuotBack'. -/
import Derived.Test.YtflleaifmeiikaaAwake4
set_option linter.unusedVariables false
set_option linter.unusedSimpArgs false
namespace Go.Proofs.Ytflleaifmeiikaa
open Go.RowKit
set_option maxRecDepth 100000
theorem back_fit {x y n n' m m' : Nat} (hx : x < W ^ n) (hq : 0 < m → W ^ (m - 1) ≤ x / y) (hd : 0 < m' → W ^ (m' - 1) ≤ y) (hn : m' ≤ n') : m + m' ≤ max (n + 1) n' := by
  rcases Nat.eq_zero_or_pos m with h0 | h0
  · omega
  · rcases Nat.eq_zero_or_pos m' with h1 | h1
    · subst h1
      have a := hq h0
      have b : x / y < W ^ n := Nat.lt_of_le_of_lt (Nat.div_le_self _ _) hx
      have := pow_lt_inv W_pos a b
      omega
    · have a := Nat.mul_le_mul (hq h0) (hd h1)
      rw [← Nat.pow_add] at a
      have b : x / y * y < W ^ n := Nat.lt_of_le_of_lt (Nat.div_mul_le_self _ _) hx
      have := pow_lt_inv W_pos a b
      omega
set_option maxHeartbeats 4000000 in
theorem law_QuotBack (A n c x) (A' n' c' y) (w : World) (k1 : Dig .u64 W w A n c x) (k2 : Dig .u64 W w A' n' c' y) (r1 : n ≤ 17592186043904) (r2 : n' ≤ 17592186043904) :
    Calls Try.prog 7 #[.slice A n c, .slice A' n' c'] w (Ret w (.bool true)) := by
  by_cases hy0 : y = 0
  · have HZ := Lib.hid (show decide (y = 0) = true from decide_eq_true hy0)
    go_enter Try.func7, Try.ntmps7
    go_wp2_with fail
    refine (awake4 _).mono ?_
    rintro e w1 ⟨rfl, hb1⟩
    go_wp2_with fail
    refine (nat_Of _ _ _ _ _ (k1.to (by with_reducible repeat (first | exact Below.refl _ _ | refine nxa ?_ _ | refine nxd ?_ _ | refine nxw ?_ | refine nx ?_ (by assumption)))) (by omega)).mono ?_
    rintro e w2 ⟨A2, n2, c2, rfl, h2, hb2, m2⟩
    go_wp2_with fail
    refine (nat_Of _ _ _ _ _ (k2.to (by with_reducible repeat (first | exact Below.refl _ _ | refine nxa ?_ _ | refine nxd ?_ _ | refine nxw ?_ | refine nx ?_ (by assumption)))) (by omega)).mono ?_
    rintro e w3 ⟨A3, n3, c3, rfl, h3, hb3, m3⟩
    go_wp2_with fail
    have X1 := Blk1.newAt w3 (w3.heap.size) 25 (.slice A2 n2 c2) (by first | rfl | simp)
    have X2 := Blk1.newAt (w3.alloc (.cells #[.slice A2 n2 c2] 25)) (w3.heap.size + 1) 25 (.slice A3 n3 c3) (by first | rfl | simp)
    replace X1 := (show Blk1 ((w3.alloc (.cells #[.slice A2 n2 c2] 25)).alloc (.cells #[.slice A3 n3 c3] 25)) _ _ _ from X1.to (by with_reducible repeat (first | exact Below.refl _ _ | refine nxa ?_ _ | refine nxd ?_ _ | refine nxw ?_ | refine nx ?_ (by assumption))))
    have hbwe1 : Below w3.heap.size w3 ((w3.alloc (.cells #[.slice A2 n2 c2] 25)).alloc (.cells #[.slice A3 n3 c3] 25)) := (by with_reducible repeat (first | exact Below.refl _ _ | refine nxa ?_ _ | refine nxd ?_ _ | refine nxw ?_ | refine nx ?_ (by assumption)))
    generalize ((w3.alloc (.cells #[.slice A2 n2 c2] 25)).alloc (.cells #[.slice A3 n3 c3] 25)) = we1 at X1 X2 hbwe1  ⊢
    refine (quot_DivMod_zero _ _ _ _ _ _ _ _ _ (h2.to (by with_reducible repeat (first | exact Below.refl _ _ | refine nxa ?_ _ | refine nxd ?_ _ | refine nxw ?_ | refine nx ?_ (by assumption)))) (h3.to (by with_reducible repeat (first | exact Below.refl _ _ | refine nxa ?_ _ | refine nxd ?_ _ | refine nxw ?_ | refine nx ?_ (by assumption)))) (by omega) hy0).mono ?_
    rintro e w4 ⟨A4, n4, c4, A4', n4', c4', rfl, h4, h4', hb4⟩
    have q4 := h4.le_of 0 (by decide)
    have q4' := h4'.le_of 0 (by decide)
    have d1 := (show Blk1 ((w4.alloc (.cells #[.slice A4 n4 c4] 25)).alloc (.cells #[.slice A4' n4' c4'] 25)) _ _ _ from X2.to (by with_reducible repeat (first | exact Below.refl _ _ | refine nxa ?_ _ | refine nxd ?_ _ | refine nxw ?_ | refine nx ?_ (by assumption)))).cell
    go_wp2_with fail
    clear d1
    have X3 := Blk1.newAt w4 (w4.heap.size) 25 (.slice A4 n4 c4) (by first | rfl | simp)
    have X4 := Blk1.newAt (w4.alloc (.cells #[.slice A4 n4 c4] 25)) (w4.heap.size + 1) 25 (.slice A4' n4' c4') (by first | rfl | simp)
    replace X3 := (show Blk1 ((w4.alloc (.cells #[.slice A4 n4 c4] 25)).alloc (.cells #[.slice A4' n4' c4'] 25)) _ _ _ from X3.to (by with_reducible repeat (first | exact Below.refl _ _ | refine nxa ?_ _ | refine nxd ?_ _ | refine nxw ?_ | refine nx ?_ (by assumption))))
    have hbwe2 : Below w4.heap.size w4 ((w4.alloc (.cells #[.slice A4 n4 c4] 25)).alloc (.cells #[.slice A4' n4' c4'] 25)) := (by with_reducible repeat (first | exact Below.refl _ _ | refine nxa ?_ _ | refine nxd ?_ _ | refine nxw ?_ | refine nx ?_ (by assumption)))
    generalize ((w4.alloc (.cells #[.slice A4 n4 c4] 25)).alloc (.cells #[.slice A4' n4' c4'] 25)) = we2 at X3 X4 hbwe2  ⊢
    refine (nat_Zero _ _ _ _ _ (h3.to (by with_reducible repeat (first | exact Below.refl _ _ | refine nxa ?_ _ | refine nxd ?_ _ | refine nxw ?_ | refine nx ?_ (by assumption))))).mono ?_
    rw [HZ.out]
    rintro e w5 ⟨rfl, hb5⟩
    go_wp2_with fail
    go_ret
    exact ⟨rfl, (by with_reducible repeat (first | exact Below.refl _ _ | refine nxa ?_ _ | refine nxd ?_ _ | refine nxw ?_ | refine nx ?_ (by assumption)))⟩
  · have hpos : 0 < y := by omega
    go_enter Try.func7, Try.ntmps7
    go_wp2_with fail
    refine (awake4 _).mono ?_
    rintro e w1 ⟨rfl, hb1⟩
    go_wp2_with fail
    refine (nat_Of _ _ _ _ _ (k1.to (by with_reducible repeat (first | exact Below.refl _ _ | refine nxa ?_ _ | refine nxd ?_ _ | refine nxw ?_ | refine nx ?_ (by assumption)))) (by omega)).mono ?_
    rintro e w2 ⟨A2, n2, c2, rfl, h2, hb2, m2⟩
    go_wp2_with fail
    refine (nat_Of _ _ _ _ _ (k2.to (by with_reducible repeat (first | exact Below.refl _ _ | refine nxa ?_ _ | refine nxd ?_ _ | refine nxw ?_ | refine nx ?_ (by assumption)))) (by omega)).mono ?_
    rintro e w3 ⟨A3, n3, c3, rfl, h3, hb3, m3⟩
    go_wp2_with fail
    have X1 := Blk1.newAt w3 (w3.heap.size) 25 (.slice A2 n2 c2) (by first | rfl | simp)
    have X2 := Blk1.newAt (w3.alloc (.cells #[.slice A2 n2 c2] 25)) (w3.heap.size + 1) 25 (.slice A3 n3 c3) (by first | rfl | simp)
    replace X1 := (show Blk1 ((w3.alloc (.cells #[.slice A2 n2 c2] 25)).alloc (.cells #[.slice A3 n3 c3] 25)) _ _ _ from X1.to (by with_reducible repeat (first | exact Below.refl _ _ | refine nxa ?_ _ | refine nxd ?_ _ | refine nxw ?_ | refine nx ?_ (by assumption))))
    have hbwe1 : Below w3.heap.size w3 ((w3.alloc (.cells #[.slice A2 n2 c2] 25)).alloc (.cells #[.slice A3 n3 c3] 25)) := (by with_reducible repeat (first | exact Below.refl _ _ | refine nxa ?_ _ | refine nxd ?_ _ | refine nxw ?_ | refine nx ?_ (by assumption)))
    generalize ((w3.alloc (.cells #[.slice A2 n2 c2] 25)).alloc (.cells #[.slice A3 n3 c3] 25)) = we1 at X1 X2 hbwe1  ⊢
    refine (quot_DivMod _ _ _ _ _ _ _ _ _ (h2.to (by with_reducible repeat (first | exact Below.refl _ _ | refine nxa ?_ _ | refine nxd ?_ _ | refine nxw ?_ | refine nx ?_ (by assumption)))) (h3.to (by with_reducible repeat (first | exact Below.refl _ _ | refine nxa ?_ _ | refine nxd ?_ _ | refine nxw ?_ | refine nx ?_ (by assumption)))) (by omega) hpos).mono ?_
    rintro e w4 ⟨A4, n4, c4, A4', n4', c4', rfl, h4, h4', hb4⟩
    have q4 := h4.le_of _ (Nat.lt_of_le_of_lt (Nat.div_le_self _ _) h2.lt)
    have q4' := h4'.le_of _ (Nat.lt_of_le_of_lt (Nat.mod_le _ _) h2.lt)
    go_wp2_with fail
    have X3 := Blk1.newAt w4 (w4.heap.size) 25 (.slice A4 n4 c4) (by first | rfl | simp)
    have X4 := Blk1.newAt (w4.alloc (.cells #[.slice A4 n4 c4] 25)) (w4.heap.size + 1) 25 (.slice A4' n4' c4') (by first | rfl | simp)
    replace X3 := (show Blk1 ((w4.alloc (.cells #[.slice A4 n4 c4] 25)).alloc (.cells #[.slice A4' n4' c4'] 25)) _ _ _ from X3.to (by with_reducible repeat (first | exact Below.refl _ _ | refine nxa ?_ _ | refine nxd ?_ _ | refine nxw ?_ | refine nx ?_ (by assumption))))
    have hbwe2 : Below w4.heap.size w4 ((w4.alloc (.cells #[.slice A4 n4 c4] 25)).alloc (.cells #[.slice A4' n4' c4'] 25)) := (by with_reducible repeat (first | exact Below.refl _ _ | refine nxa ?_ _ | refine nxd ?_ _ | refine nxw ?_ | refine nx ?_ (by assumption)))
    generalize ((w4.alloc (.cells #[.slice A4 n4 c4] 25)).alloc (.cells #[.slice A4' n4' c4'] 25)) = we2 at X3 X4 hbwe2  ⊢
    have CX3 := (show Blk1 we2 _ _ _ from X3.to (by with_reducible repeat (first | exact Below.refl _ _ | refine nxa ?_ _ | refine nxd ?_ _ | refine nxw ?_ | refine nx ?_ (by assumption)))).cell
    have CX2 := (show Blk1 we2 _ _ _ from X2.to (by with_reducible repeat (first | exact Below.refl _ _ | refine nxa ?_ _ | refine nxd ?_ _ | refine nxw ?_ | refine nx ?_ (by assumption)))).cell
    have CX4 := (show Blk1 we2 _ _ _ from X4.to (by with_reducible repeat (first | exact Below.refl _ _ | refine nxa ?_ _ | refine nxd ?_ _ | refine nxw ?_ | refine nx ?_ (by assumption)))).cell
    have CX1 := (show Blk1 we2 _ _ _ from X1.to (by with_reducible repeat (first | exact Below.refl _ _ | refine nxa ?_ _ | refine nxd ?_ _ | refine nxw ?_ | refine nx ?_ (by assumption)))).cell
    have KP1 : ∀ w', Below we2.heap.size we2 w' → w'.cell? ⟨w4.heap.size, 0, none⟩ = some (.slice A4 n4 c4) ∧ w'.cell? ⟨w3.heap.size + 1, 0, none⟩ = some (.slice A3 n3 c3) ∧ w'.cell? ⟨w4.heap.size + 1, 0, none⟩ = some (.slice A4' n4' c4') ∧ w'.cell? ⟨w3.heap.size, 0, none⟩ = some (.slice A2 n2 c2) ∧ True := fun w' hw' => ⟨cellB hw' CX3, cellB hw' CX2, cellB hw' CX4, cellB hw' CX1, trivial⟩
    refine wp_regionT (S := fun w' => w'.cell? ⟨w4.heap.size, 0, none⟩ = some (.slice A4 n4 c4) ∧ w'.cell? ⟨w3.heap.size + 1, 0, none⟩ = some (.slice A3 n3 c3) ∧ w'.cell? ⟨w4.heap.size + 1, 0, none⟩ = some (.slice A4' n4' c4') ∧ w'.cell? ⟨w3.heap.size, 0, none⟩ = some (.slice A2 n2 c2) ∧ True) [] (by kernel_rfl) (KP1 _ (by with_reducible repeat (first | exact Below.refl _ _ | refine nxa ?_ _ | refine nxd ?_ _ | refine nxw ?_ | refine nx ?_ (by assumption)))) (fun hHeld => ?_)
    have hbd1 : Below we2.heap.size we2 we2.drew := nxw (Below.refl _ _)
    generalize we2.drew = wd1 at hHeld hbd1 ⊢
    refine anyT_take (i := 0) (v := ?_) (by simp only [List.getElem?_toArray, List.getElem?_cons_succ, List.getElem?_cons_zero]; rfl) (by kernel_rfl) (by kernel_rfl) (by kernel_rfl) (by kernel_rfl) (by exact fun _ _ _ h => h) (Or.inl ⟨by rfl, ?_⟩) (by assumption) ?_
    rotate_left
    · intro w hSw; (try dsimp only at hSw); go_simp; try with_reducible rfl
    try simp only [Act.put, List.setIfInBounds_toArray, List.set_cons_zero, List.set_cons_succ]
    refine anyT_take (i := 1) (v := ?_) (by simp only [List.getElem?_toArray, List.getElem?_cons_succ, List.getElem?_cons_zero]; rfl) (by kernel_rfl) (by kernel_rfl) (by kernel_rfl) (by kernel_rfl) (by exact fun _ _ _ h => h) (Or.inl ⟨by rfl, ?_⟩) (by assumption) ?_
    rotate_left
    · intro w hSw; (try dsimp only at hSw); go_simp; try with_reducible rfl
    try simp only [Act.put, List.setIfInBounds_toArray, List.set_cons_zero, List.set_cons_succ]
    refine anyT_take (i := 3) (v := ?_) (by simp only [List.getElem?_toArray, List.getElem?_cons_succ, List.getElem?_cons_zero]; rfl) (by kernel_rfl) (by kernel_rfl) (by kernel_rfl) (by kernel_rfl) (by exact fun _ _ _ h => h) (Or.inl ⟨by rfl, ?_⟩) (by assumption) ?_
    rotate_left
    · intro w hSw; (try dsimp only at hSw); go_simp; try with_reducible rfl
    try simp only [Act.put, List.setIfInBounds_toArray, List.set_cons_zero, List.set_cons_succ]
    refine anyT_take (i := 5) (v := ?_) (by simp only [List.getElem?_toArray, List.getElem?_cons_succ, List.getElem?_cons_zero]; rfl) (by kernel_rfl) (by kernel_rfl) (by kernel_rfl) (by kernel_rfl) (by exact fun _ _ _ h => h) (Or.inl ⟨by rfl, ?_⟩) (by assumption) ?_
    rotate_left
    · intro w hSw; (try dsimp only at hSw); go_simp; try with_reducible rfl
    try simp only [Act.put, List.setIfInBounds_toArray, List.set_cons_zero, List.set_cons_succ]
    refine anyT_ready (rs := [2]) (by kernel_rfl) (by simp) (ReadyT.cons (by simp only [List.getElem?_toArray, List.getElem?_cons_succ, List.getElem?_cons_zero]; rfl) (fun K hK => ?_) ReadyT.nil)
    go_simp
    go_at_call 27
    have BF := back_fit (n' := n') k1.lt h4.2 h3.2 (by omega)
    (with_reducible refine (prod_Mul _ _ _ _ _ _ _ _ _ (h4.to (by with_reducible repeat (first | exact Below.refl _ _ | refine nxa ?_ _ | refine nxd ?_ _ | refine nxw ?_ | refine nx ?_ (by assumption)))) (h3.to (by with_reducible repeat (first | exact Below.refl _ _ | refine nxa ?_ _ | refine nxd ?_ _ | refine nxw ?_ | refine nx ?_ (by assumption)))) (by omega)).mono ?_)
    rintro e w5 ⟨A5, n5, c5, rfl, h5, hb5⟩
    have q5 := h5.le_of _ (mul_lt_pow h4.lt h3.lt)
    go_simp
    refine hK.out _ _ (KP1 _ (by with_reducible repeat (first | exact Below.refl _ _ | refine nxa ?_ _ | refine nxd ?_ _ | refine nxw ?_ | refine nx ?_ (by assumption)))) (fun hHeld => ?_)
    clear hK K
    try simp only [Act.put, List.setIfInBounds_toArray, List.set_cons_zero, List.set_cons_succ]
    refine anyT_ready (rs := [4]) (by kernel_rfl) (by simp) (ReadyT.cons (by simp only [List.getElem?_toArray, List.getElem?_cons_succ, List.getElem?_cons_zero]; rfl) (fun K hK => ?_) ReadyT.nil)
    go_simp
    go_at_call 28
    (with_reducible refine (nat_Add _ _ _ _ _ _ _ _ _ (h5.to (by with_reducible repeat (first | exact Below.refl _ _ | refine nxa ?_ _ | refine nxd ?_ _ | refine nxw ?_ | refine nx ?_ (by assumption)))) (h4'.to (by with_reducible repeat (first | exact Below.refl _ _ | refine nxa ?_ _ | refine nxd ?_ _ | refine nxw ?_ | refine nx ?_ (by assumption)))) (by omega) (by omega)).mono ?_)
    rintro e w6 ⟨A6, n6, c6, rfl, h6, hb6⟩
    have q6 := h6.le_of _ (add_lt h5.lt h4'.lt)
    replace h6 : NatAt _ _ _ _ x := (show x / y * y + x % y = x from Nat.div_add_mod' x y) ▸ h6
    go_simp
    refine hK.out _ _ (KP1 _ (by with_reducible repeat (first | exact Below.refl _ _ | refine nxa ?_ _ | refine nxd ?_ _ | refine nxw ?_ | refine nx ?_ (by assumption)))) (fun hHeld => ?_)
    clear hK K
    try simp only [Act.put, List.setIfInBounds_toArray, List.set_cons_zero, List.set_cons_succ]
    refine anyT_ready (rs := [6]) (by kernel_rfl) (by simp) (ReadyT.cons (by simp only [List.getElem?_toArray, List.getElem?_cons_succ, List.getElem?_cons_zero]; rfl) (fun K hK => ?_) ReadyT.nil)
    go_simp
    go_at_call 29
    (with_reducible refine (nat_Cmp _ _ _ _ _ _ _ _ _ (h6.to (by with_reducible repeat (first | exact Below.refl _ _ | refine nxa ?_ _ | refine nxd ?_ _ | refine nxw ?_ | refine nx ?_ (by assumption)))) (h2.to (by with_reducible repeat (first | exact Below.refl _ _ | refine nxa ?_ _ | refine nxd ?_ _ | refine nxw ?_ | refine nx ?_ (by assumption))))).mono ?_)
    rw [cmp_eq]
    rintro e w7 ⟨rfl, hb7⟩
    go_simp
    refine hK.out _ _ (KP1 _ (by with_reducible repeat (first | exact Below.refl _ _ | refine nxa ?_ _ | refine nxd ?_ _ | refine nxw ?_ | refine nx ?_ (by assumption)))) (fun hHeld => ?_)
    clear hK K
    try simp only [Act.put, List.setIfInBounds_toArray, List.set_cons_zero, List.set_cons_succ]
    refine anyT_take (i := 7) (v := ?_) (by simp only [List.getElem?_toArray, List.getElem?_cons_succ, List.getElem?_cons_zero]; rfl) (by kernel_rfl) (by kernel_rfl) (by kernel_rfl) (by kernel_rfl) (by exact fun _ _ _ h => h) (Or.inl ⟨by rfl, ?_⟩) (by assumption) ?_
    rotate_left
    · intro w hSw; (try dsimp only at hSw); go_simp; try with_reducible rfl
    try simp only [Act.put, List.setIfInBounds_toArray, List.set_cons_zero, List.set_cons_succ]
    refine anyT_take (i := 8) (v := ?_) (by simp only [List.getElem?_toArray, List.getElem?_cons_succ, List.getElem?_cons_zero]; rfl) (by kernel_rfl) (by kernel_rfl) (by kernel_rfl) (by kernel_rfl) (by exact fun _ _ _ h => h) (Or.inl ⟨by rfl, ?_⟩) (by assumption) ?_
    rotate_left
    · intro w hSw; (try dsimp only at hSw); go_simp; try with_reducible rfl
    try simp only [Act.put, List.setIfInBounds_toArray, List.set_cons_zero, List.set_cons_succ]
    refine anyT_take (i := 9) (v := ?_) (by simp only [List.getElem?_toArray, List.getElem?_cons_succ, List.getElem?_cons_zero]; rfl) (by kernel_rfl) (by kernel_rfl) (by kernel_rfl) (by kernel_rfl) (by exact fun _ _ _ h => h) (Or.inl ⟨by rfl, ?_⟩) (by assumption) ?_
    rotate_left
    · intro w hSw; (try dsimp only at hSw); go_simp; try with_reducible rfl
    try simp only [Act.put, List.setIfInBounds_toArray, List.set_cons_zero, List.set_cons_succ]
    refine anyT_take (i := 10) (v := ?_) (by simp only [List.getElem?_toArray, List.getElem?_cons_succ, List.getElem?_cons_zero]; rfl) (by kernel_rfl) (by kernel_rfl) (by kernel_rfl) (by kernel_rfl) (by exact fun _ _ _ h => h) (Or.inl ⟨by rfl, ?_⟩) (by assumption) ?_
    rotate_left
    · intro w hSw; (try dsimp only at hSw); go_simp; try with_reducible rfl
    try simp only [Act.put, List.setIfInBounds_toArray, List.set_cons_zero, List.set_cons_succ]
    refine anyT_ready (rs := [11]) (by kernel_rfl) (by simp) (ReadyT.cons (by simp only [List.getElem?_toArray, List.getElem?_cons_succ, List.getElem?_cons_zero]; rfl) (fun K hK => ?_) ReadyT.nil)
    go_simp
    go_at_call 29
    (with_reducible refine (nat_Cmp _ _ _ _ _ _ _ _ _ (h4'.to (by with_reducible repeat (first | exact Below.refl _ _ | refine nxa ?_ _ | refine nxd ?_ _ | refine nxw ?_ | refine nx ?_ (by assumption)))) (h3.to (by with_reducible repeat (first | exact Below.refl _ _ | refine nxa ?_ _ | refine nxd ?_ _ | refine nxw ?_ | refine nx ?_ (by assumption))))).mono ?_)
    rw [cmpI_lt (Nat.mod_lt _ hpos)]
    rintro e w8 ⟨rfl, hb8⟩
    go_simp
    refine hK.out _ _ (KP1 _ (by with_reducible repeat (first | exact Below.refl _ _ | refine nxa ?_ _ | refine nxd ?_ _ | refine nxw ?_ | refine nx ?_ (by assumption)))) (fun hHeld => ?_)
    clear hK K
    try simp only [Act.put, List.setIfInBounds_toArray, List.set_cons_zero, List.set_cons_succ]
    refine anyT_take (i := 12) (v := ?_) (by simp only [List.getElem?_toArray, List.getElem?_cons_succ, List.getElem?_cons_zero]; rfl) (by kernel_rfl) (by kernel_rfl) (by kernel_rfl) (by kernel_rfl) (by exact fun _ _ _ h => h) (Or.inl ⟨by rfl, ?_⟩) (by assumption) ?_
    rotate_left
    · intro w hSw; (try dsimp only at hSw); go_simp; try with_reducible rfl
    try simp only [Act.put, List.setIfInBounds_toArray, List.set_cons_zero, List.set_cons_succ]
    refine anyT_take (i := 13) (v := ?_) (by simp only [List.getElem?_toArray, List.getElem?_cons_succ, List.getElem?_cons_zero]; rfl) (by kernel_rfl) (by kernel_rfl) (by kernel_rfl) (by kernel_rfl) (by exact fun _ _ _ h => h) (Or.inl ⟨by rfl, ?_⟩) (by assumption) ?_
    rotate_left
    · intro w hSw; (try dsimp only at hSw); go_simp; try with_reducible rfl
    try simp only [Act.put, List.setIfInBounds_toArray, List.set_cons_zero, List.set_cons_succ]
    refine anyT_take (i := 14) (v := ?_) (by simp only [List.getElem?_toArray, List.getElem?_cons_succ, List.getElem?_cons_zero]; rfl) (by kernel_rfl) (by kernel_rfl) (by kernel_rfl) (by kernel_rfl) (by exact fun _ _ _ h => h) (Or.inl ⟨by rfl, ?_⟩) (by assumption) ?_
    rotate_left
    · intro w hSw; (try dsimp only at hSw); go_simp; try with_reducible rfl
    try simp only [Act.put, List.setIfInBounds_toArray, List.set_cons_zero, List.set_cons_succ]
    refine anyT_done (by kernel_rfl) ?_ _
    clear hHeld
    clear CX3 CX2 CX4 CX1 KP1
    go_wp2_with fail
    go_ret
    exact ⟨rfl, (by with_reducible repeat (first | exact Below.refl _ _ | refine nxa ?_ _ | refine nxd ?_ _ | refine nxw ?_ | refine nx ?_ (by assumption)))⟩
end Go.Proofs.Ytflleaifmeiikaa
