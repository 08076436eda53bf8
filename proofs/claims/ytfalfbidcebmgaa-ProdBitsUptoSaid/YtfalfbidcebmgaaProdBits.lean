/- The walk of 'ProdBits'. -/
import Derived.Test.YtfalfbidcebmgaaAwake3
set_option linter.unusedVariables false
set_option linter.unusedSimpArgs false
namespace Go.Proofs.Ytfalfbidcebmgaa
open Go.RowKit
set_option maxRecDepth 100000
theorem blen_mul {x y : Nat} (hx : x ≠ 0) (hy : y ≠ 0) : blen (x * y) = blen x + blen y ∨ blen (x * y) + 1 = blen x + blen y := by
  have a1 := blen_lt x
  have a2 := blen_le hx
  have b1 := blen_lt y
  have b2 := blen_le hy
  have ax := blen_pos hx
  have bx := blen_pos hy
  generalize blen x = i at *
  generalize blen y = j at *
  have c1 : x * y < 2 ^ (i + j) := by
    rw [Nat.pow_add]
    exact Nat.lt_of_lt_of_le (Nat.mul_lt_mul_of_pos_right a1 (by omega)) (Nat.mul_le_mul_left _ (Nat.le_of_lt b1))
  have c2 : 2 ^ (i + j - 2) ≤ x * y := by
    rw [show i + j - 2 = (i - 1) + (j - 1) by omega, Nat.pow_add]
    exact Nat.mul_le_mul a2 b2
  rcases Nat.lt_or_ge (x * y) (2 ^ (i + j - 1)) with h | h
  · right
    rw [blen_unique (k := i + j - 1) h (fun _ => by rw [show i + j - 1 - 1 = i + j - 2 by omega]; exact c2)]
    omega
  · left
    exact blen_unique c1 (fun _ => h)
set_option maxHeartbeats 4000000 in
theorem law_ProdBits (A n c x) (A' n' c' y) (w : World) (k1 : Dig .u64 W w A n c x) (k2 : Dig .u64 W w A' n' c' y) (r1 : n ≤ 1048576) (r2 : n' ≤ 1048576) :
    Calls Try.prog 10 #[.slice A n c, .slice A' n' c'] w (Ret w (.bool true)) := by
  go_enter Try.func10, Try.ntmps10
  go_wp2_with fail
  refine (awake3 _).mono ?_
  rintro e w1 ⟨rfl, hb1⟩
  go_wp2_with fail
  refine (nat_Of _ _ _ _ _ (k1.to (by with_reducible repeat (first | exact Below.refl _ _ | refine nxa ?_ _ | refine nxd ?_ _ | refine nxw ?_ | refine nx ?_ (by assumption)))) (by omega)).mono ?_
  rintro e w2 ⟨A2, n2, c2, rfl, h2, hb2, m2⟩
  go_wp2_with fail
  refine (nat_Of _ _ _ _ _ (k2.to (by with_reducible repeat (first | exact Below.refl _ _ | refine nxa ?_ _ | refine nxd ?_ _ | refine nxw ?_ | refine nx ?_ (by assumption)))) (by omega)).mono ?_
  rintro e w3 ⟨A3, n3, c3, rfl, h3, hb3, m3⟩
  have X1 := Blk1.newAt w3 (w3.heap.size) 25 (.slice A2 n2 c2) (by simp)
  have X2 := Blk1.newAt (w3.alloc (.cells #[.slice A2 n2 c2] 25)) (w3.heap.size + 1) 25 (.slice A3 n3 c3) (by simp)
  replace X1 := (show Blk1 ((w3.alloc (.cells #[.slice A2 n2 c2] 25)).alloc (.cells #[.slice A3 n3 c3] 25)) _ _ _ from X1.to (by with_reducible repeat (first | exact Below.refl _ _ | refine nxa ?_ _ | refine nxd ?_ _ | refine nxw ?_ | refine nx ?_ (by assumption))))
  replace X2 := (show Blk1 ((w3.alloc (.cells #[.slice A2 n2 c2] 25)).alloc (.cells #[.slice A3 n3 c3] 25)) _ _ _ from X2.to (by with_reducible repeat (first | exact Below.refl _ _ | refine nxa ?_ _ | refine nxd ?_ _ | refine nxw ?_ | refine nx ?_ (by assumption))))
  have hbwe : Below w3.heap.size w3 ((w3.alloc (.cells #[.slice A2 n2 c2] 25)).alloc (.cells #[.slice A3 n3 c3] 25)) := (by with_reducible repeat (first | exact Below.refl _ _ | refine nxa ?_ _ | refine nxd ?_ _ | refine nxw ?_ | refine nx ?_ (by assumption)))
  go_wp2_with fail
  generalize ((w3.alloc (.cells #[.slice A2 n2 c2] 25)).alloc (.cells #[.slice A3 n3 c3] 25)) = we at X1 X2 hbwe ⊢
  have d1 := X1.cell
  have d2 := X2.cell
  refine (prod_Mul _ _ _ _ _ _ _ _ _ (h2.to (by with_reducible repeat (first | exact Below.refl _ _ | refine nxa ?_ _ | refine nxd ?_ _ | refine nxw ?_ | refine nx ?_ (by assumption)))) (h3.to (by with_reducible repeat (first | exact Below.refl _ _ | refine nxa ?_ _ | refine nxd ?_ _ | refine nxw ?_ | refine nx ?_ (by assumption)))) (by omega)).mono ?_
  rintro e w5 ⟨A5, n5, c5, rfl, h5, hb5⟩
  have q5 := h5.le_of _ (mul_lt_pow h2.lt h3.lt)
  clear d1 d2
  have X3 := Blk1.newAt w5 (w5.heap.size) 25 (.slice A5 n5 c5) (by simp)
  replace X1 := (show Blk1 (w5.alloc (.cells #[.slice A5 n5 c5] 25)) _ _ _ from X1.to (by with_reducible repeat (first | exact Below.refl _ _ | refine nxa ?_ _ | refine nxd ?_ _ | refine nxw ?_ | refine nx ?_ (by assumption))))
  replace X2 := (show Blk1 (w5.alloc (.cells #[.slice A5 n5 c5] 25)) _ _ _ from X2.to (by with_reducible repeat (first | exact Below.refl _ _ | refine nxa ?_ _ | refine nxd ?_ _ | refine nxw ?_ | refine nx ?_ (by assumption))))
  replace X3 := (show Blk1 (w5.alloc (.cells #[.slice A5 n5 c5] 25)) _ _ _ from X3.to (by with_reducible repeat (first | exact Below.refl _ _ | refine nxa ?_ _ | refine nxd ?_ _ | refine nxw ?_ | refine nx ?_ (by assumption))))
  have d1 := X1.cell
  have EQ : x * y = 0 ↔ x = 0 ∨ y = 0 := Nat.mul_eq_zero
  by_cases hx0 : x = 0
  · have hp0 : decide (x * y = 0) = true := decide_eq_true (EQ.2 (Or.inl hx0))
    go_wp2_with fail
    refine (nat_Zero _ _ _ _ _ (h2.to (by with_reducible repeat (first | exact Below.refl _ _ | refine nxa ?_ _ | refine nxd ?_ _ | refine nxw ?_ | refine nx ?_ (by assumption))))).mono ?_
    rw [decide_eq_true hx0]
    rintro e w6 ⟨rfl, hb6⟩
    have d3 := (show Blk1 w6 _ _ _ from X3.to (by with_reducible repeat (first | exact Below.refl _ _ | refine nxa ?_ _ | refine nxd ?_ _ | refine nxw ?_ | refine nx ?_ (by assumption)))).cell
    clear EQ hx0
    go_wp2_with fail
    refine (nat_Zero _ _ _ _ _ (h5.to (by with_reducible repeat (first | exact Below.refl _ _ | refine nxa ?_ _ | refine nxd ?_ _ | refine nxw ?_ | refine nx ?_ (by assumption))))).mono ?_
    rw [hp0]
    rintro e w7 ⟨rfl, hb7⟩
    clear hp0
    go_wp2_with fail
    go_ret
    exact ⟨rfl, (by with_reducible repeat (first | exact Below.refl _ _ | refine nxa ?_ _ | refine nxd ?_ _ | refine nxw ?_ | refine nx ?_ (by assumption)))⟩
  · by_cases hy0 : y = 0
    · have hp0 : decide (x * y = 0) = true := decide_eq_true (EQ.2 (Or.inr hy0))
      go_wp2_with fail
      refine (nat_Zero _ _ _ _ _ (h2.to (by with_reducible repeat (first | exact Below.refl _ _ | refine nxa ?_ _ | refine nxd ?_ _ | refine nxw ?_ | refine nx ?_ (by assumption))))).mono ?_
      rw [decide_eq_false hx0]
      rintro e w6 ⟨rfl, hb6⟩
      have d3 := (show Blk1 w6 _ _ _ from X2.to (by with_reducible repeat (first | exact Below.refl _ _ | refine nxa ?_ _ | refine nxd ?_ _ | refine nxw ?_ | refine nx ?_ (by assumption)))).cell
      go_wp2_with fail
      refine (nat_Zero _ _ _ _ _ (h3.to (by with_reducible repeat (first | exact Below.refl _ _ | refine nxa ?_ _ | refine nxd ?_ _ | refine nxw ?_ | refine nx ?_ (by assumption))))).mono ?_
      rw [decide_eq_true hy0]
      rintro e w7 ⟨rfl, hb7⟩
      have d4 := (show Blk1 w7 _ _ _ from X3.to (by with_reducible repeat (first | exact Below.refl _ _ | refine nxa ?_ _ | refine nxd ?_ _ | refine nxw ?_ | refine nx ?_ (by assumption)))).cell
      clear EQ hx0 hy0
      go_wp2_with fail
      refine (nat_Zero _ _ _ _ _ (h5.to (by with_reducible repeat (first | exact Below.refl _ _ | refine nxa ?_ _ | refine nxd ?_ _ | refine nxw ?_ | refine nx ?_ (by assumption))))).mono ?_
      rw [hp0]
      rintro e w8 ⟨rfl, hb8⟩
      clear hp0
      go_wp2_with fail
      go_ret
      exact ⟨rfl, (by with_reducible repeat (first | exact Below.refl _ _ | refine nxa ?_ _ | refine nxd ?_ _ | refine nxw ?_ | refine nx ?_ (by assumption)))⟩
    · have HB := blen_mul hx0 hy0
      obtain ⟨bx, hbx⟩ : ∃ b, b = blen x := ⟨_, rfl⟩
      obtain ⟨by', hby⟩ : ∃ b, b = blen y := ⟨_, rfl⟩
      obtain ⟨bp, hbp⟩ : ∃ b, b = blen (x * y) := ⟨_, rfl⟩
      rw [← hbx, ← hby, ← hbp] at HB
      have lx : bx ≤ 64 * n2 := by rw [hbx]; exact blen_le_of_lt (by rw [← W_pow]; exact h2.lt)
      have ly : by' ≤ 64 * n3 := by rw [hby]; exact blen_le_of_lt (by rw [← W_pow]; exact h3.lt)
      have HBX := Lib.hid hbx
      clear hbx
      have HBY := Lib.hid hby
      clear hby
      have HBP := Lib.hid hbp
      clear hbp
      go_wp2_with fail
      refine (nat_Zero _ _ _ _ _ (h2.to (by with_reducible repeat (first | exact Below.refl _ _ | refine nxa ?_ _ | refine nxd ?_ _ | refine nxw ?_ | refine nx ?_ (by assumption))))).mono ?_
      rw [decide_eq_false hx0]
      rintro e w6 ⟨rfl, hb6⟩
      have d3 := (show Blk1 w6 _ _ _ from X2.to (by with_reducible repeat (first | exact Below.refl _ _ | refine nxa ?_ _ | refine nxd ?_ _ | refine nxw ?_ | refine nx ?_ (by assumption)))).cell
      go_wp2_with fail
      refine (nat_Zero _ _ _ _ _ (h3.to (by with_reducible repeat (first | exact Below.refl _ _ | refine nxa ?_ _ | refine nxd ?_ _ | refine nxw ?_ | refine nx ?_ (by assumption))))).mono ?_
      rw [decide_eq_false hy0]
      rintro e w7 ⟨rfl, hb7⟩
      clear EQ hx0 hy0 d1 d3
      replace X1 := (show Blk1 w7 _ _ _ from X1.to (by with_reducible repeat (first | exact Below.refl _ _ | refine nxa ?_ _ | refine nxd ?_ _ | refine nxw ?_ | refine nx ?_ (by assumption))))
      replace X2 := (show Blk1 w7 _ _ _ from X2.to (by with_reducible repeat (first | exact Below.refl _ _ | refine nxa ?_ _ | refine nxd ?_ _ | refine nxw ?_ | refine nx ?_ (by assumption))))
      replace X3 := (show Blk1 w7 _ _ _ from X3.to (by with_reducible repeat (first | exact Below.refl _ _ | refine nxa ?_ _ | refine nxd ?_ _ | refine nxw ?_ | refine nx ?_ (by assumption))))
      have hHB := Lib.hid HB
      clear HB
      have zi : IntKind.i64.wrap ((bx : Int) + (by' : Int)) = (bx : Int) + (by' : Int) := IntWalk.i64_in _ (by omega)
      go_wp2_with fail
      have CX1 := (show Blk1 w7 _ _ _ from X1.to (by with_reducible repeat (first | exact Below.refl _ _ | refine nxa ?_ _ | refine nxd ?_ _ | refine nxw ?_ | refine nx ?_ (by assumption)))).cell
      have CX2 := (show Blk1 w7 _ _ _ from X2.to (by with_reducible repeat (first | exact Below.refl _ _ | refine nxa ?_ _ | refine nxd ?_ _ | refine nxw ?_ | refine nx ?_ (by assumption)))).cell
      refine wp_regionT (S := fun w' => w'.cell? ⟨w3.heap.size, 0, none⟩ = some (.slice A2 n2 c2) ∧ w'.cell? ⟨w3.heap.size + 1, 0, none⟩ = some (.slice A3 n3 c3) ∧ True) [] (by kernel_rfl) ⟨cellB (show Below w7.heap.size w7 _ from (by with_reducible repeat (first | exact Below.refl _ _ | refine nxa ?_ _ | refine nxd ?_ _ | refine nxw ?_ | refine nx ?_ (by assumption)))) CX1, cellB (show Below w7.heap.size w7 _ from (by with_reducible repeat (first | exact Below.refl _ _ | refine nxa ?_ _ | refine nxd ?_ _ | refine nxw ?_ | refine nx ?_ (by assumption)))) CX2, trivial⟩ (fun hHeld => ?_)
      have hbd1 : Below w7.heap.size w7 w7.drew := nxw (Below.refl _ _)
      generalize w7.drew = wd1 at hHeld hbd1 ⊢
      refine anyT_take (i := 0) (v := ?_) (by simp only [List.getElem?_toArray, List.getElem?_cons_succ, List.getElem?_cons_zero]; rfl) (by kernel_rfl) (by kernel_rfl) (by kernel_rfl) (by kernel_rfl) (by exact fun _ _ _ h => h) (Or.inl ⟨by rfl, ?_⟩) (by assumption) ?_
      rotate_left
      · intro w hSw; (try dsimp only at hSw); go_simp; try with_reducible rfl
      try simp only [Act.put, List.setIfInBounds_toArray, List.set_cons_zero, List.set_cons_succ]
      refine anyT_take (i := 2) (v := ?_) (by simp only [List.getElem?_toArray, List.getElem?_cons_succ, List.getElem?_cons_zero]; rfl) (by kernel_rfl) (by kernel_rfl) (by kernel_rfl) (by kernel_rfl) (by exact fun _ _ _ h => h) (Or.inl ⟨by rfl, ?_⟩) (by assumption) ?_
      rotate_left
      · intro w hSw; (try dsimp only at hSw); go_simp; try with_reducible rfl
      try simp only [Act.put, List.setIfInBounds_toArray, List.set_cons_zero, List.set_cons_succ]
      refine anyT_ready (rs := [1]) (by kernel_rfl) (by simp) (ReadyT.cons (by simp only [List.getElem?_toArray, List.getElem?_cons_succ, List.getElem?_cons_zero]; rfl) (fun K hK => ?_) ReadyT.nil)
      go_simp
      go_at_call 36
      (with_reducible refine (nat_Bits _ _ _ _ _ (h2.to (by with_reducible repeat (first | exact Below.refl _ _ | refine nxa ?_ _ | refine nxd ?_ _ | refine nxw ?_ | refine nx ?_ (by assumption)))) (by omega)).mono ?_)
      rw [← HBX.out]
      rintro e w8 ⟨rfl, hb8⟩
      go_simp
      refine hK.out _ _ ⟨cellB (show Below w7.heap.size w7 _ from (by with_reducible repeat (first | exact Below.refl _ _ | refine nxa ?_ _ | refine nxd ?_ _ | refine nxw ?_ | refine nx ?_ (by assumption)))) CX1, cellB (show Below w7.heap.size w7 _ from (by with_reducible repeat (first | exact Below.refl _ _ | refine nxa ?_ _ | refine nxd ?_ _ | refine nxw ?_ | refine nx ?_ (by assumption)))) CX2, trivial⟩ (fun hHeld => ?_)
      clear hK K
      try simp only [Act.put, List.setIfInBounds_toArray, List.set_cons_zero, List.set_cons_succ]
      refine anyT_ready (rs := [3]) (by kernel_rfl) (by simp) (ReadyT.cons (by simp only [List.getElem?_toArray, List.getElem?_cons_succ, List.getElem?_cons_zero]; rfl) (fun K hK => ?_) ReadyT.nil)
      go_simp
      go_at_call 36
      (with_reducible refine (nat_Bits _ _ _ _ _ (h3.to (by with_reducible repeat (first | exact Below.refl _ _ | refine nxa ?_ _ | refine nxd ?_ _ | refine nxw ?_ | refine nx ?_ (by assumption)))) (by omega)).mono ?_)
      rw [← HBY.out]
      rintro e w9 ⟨rfl, hb9⟩
      go_simp
      refine hK.out _ _ ⟨cellB (show Below w7.heap.size w7 _ from (by with_reducible repeat (first | exact Below.refl _ _ | refine nxa ?_ _ | refine nxd ?_ _ | refine nxw ?_ | refine nx ?_ (by assumption)))) CX1, cellB (show Below w7.heap.size w7 _ from (by with_reducible repeat (first | exact Below.refl _ _ | refine nxa ?_ _ | refine nxd ?_ _ | refine nxw ?_ | refine nx ?_ (by assumption)))) CX2, trivial⟩ (fun hHeld => ?_)
      clear hK K
      try simp only [Act.put, List.setIfInBounds_toArray, List.set_cons_zero, List.set_cons_succ]
      refine anyT_take (i := 4) (v := ?_) (by simp only [List.getElem?_toArray, List.getElem?_cons_succ, List.getElem?_cons_zero]; rfl) (by kernel_rfl) (by kernel_rfl) (by kernel_rfl) (by kernel_rfl) (by exact fun _ _ _ h => h) (Or.inl ⟨by rfl, ?_⟩) (by assumption) ?_
      rotate_left
      · intro w hSw; (try dsimp only at hSw); go_simp; try with_reducible rfl
      try simp only [Act.put, List.setIfInBounds_toArray, List.set_cons_zero, List.set_cons_succ]
      refine anyT_take (i := 5) (v := ?_) (by simp only [List.getElem?_toArray, List.getElem?_cons_succ, List.getElem?_cons_zero]; rfl) (by kernel_rfl) (by kernel_rfl) (by kernel_rfl) (by kernel_rfl) (by exact fun _ _ _ h => h) (Or.inl ⟨by rfl, ?_⟩) (by assumption) ?_
      rotate_left
      · intro w hSw; (try dsimp only at hSw); go_simp; try with_reducible rfl
      try simp only [Act.put, List.setIfInBounds_toArray, List.set_cons_zero, List.set_cons_succ]
      refine anyT_done (by kernel_rfl) ?_ _
      clear zi hHeld
      have d5 := (show Blk1 w9 _ _ _ from X3.to (by with_reducible repeat (first | exact Below.refl _ _ | refine nxa ?_ _ | refine nxd ?_ _ | refine nxw ?_ | refine nx ?_ (by assumption)))).cell
      rcases hHB.out with hs | hs
      · have hq : ((bp : Int) == (bx : Int) + (by' : Int)) = true := by simp; omega
        clear hs
        go_wp2_with fail
        refine (nat_Bits _ _ _ _ _ (h5.to (by with_reducible repeat (first | exact Below.refl _ _ | refine nxa ?_ _ | refine nxd ?_ _ | refine nxw ?_ | refine nx ?_ (by assumption)))) (by omega)).mono ?_
        rw [← HBP.out]
        rintro e w10 ⟨rfl, hb10⟩
        go_wp2_with fail
        go_ret
        exact ⟨rfl, (by with_reducible repeat (first | exact Below.refl _ _ | refine nxa ?_ _ | refine nxd ?_ _ | refine nxw ?_ | refine nx ?_ (by assumption)))⟩
      · have hq : ((bp : Int) == (bx : Int) + (by' : Int)) = false := by simp; omega
        have hq2 : ((bp : Int) == (bx : Int) + (by' : Int) - 1) = true := by simp; omega
        have hq3 : 1 ≤ (bx : Int) + (by' : Int) := by omega
        clear hs
        go_wp2_with fail
        refine (nat_Bits _ _ _ _ _ (h5.to (by with_reducible repeat (first | exact Below.refl _ _ | refine nxa ?_ _ | refine nxd ?_ _ | refine nxw ?_ | refine nx ?_ (by assumption)))) (by omega)).mono ?_
        rw [← HBP.out]
        rintro e w10 ⟨rfl, hb10⟩
        have d6 := (show Blk1 w10 _ _ _ from X3.to (by with_reducible repeat (first | exact Below.refl _ _ | refine nxa ?_ _ | refine nxd ?_ _ | refine nxw ?_ | refine nx ?_ (by assumption)))).cell
        go_wp2_with fail
        refine (nat_Bits _ _ _ _ _ (h5.to (by with_reducible repeat (first | exact Below.refl _ _ | refine nxa ?_ _ | refine nxd ?_ _ | refine nxw ?_ | refine nx ?_ (by assumption)))) (by omega)).mono ?_
        rw [← HBP.out]
        rintro e w11 ⟨rfl, hb11⟩
        go_wp2_with fail
        go_ret
        exact ⟨rfl, (by with_reducible repeat (first | exact Below.refl _ _ | refine nxa ?_ _ | refine nxd ?_ _ | refine nxw ?_ | refine nx ?_ (by assumption)))⟩
end Go.Proofs.Ytfalfbidcebmgaa
