/- The walk of 'NatShifts'. -/
import Derived.Test.YtfalfbidcebmgaaAwake2
import Derived.Test.YtfalfbidcebmgaaLikeKit
import Derived.Test.YtfalfbidcebmgaaAny2
import Derived.Test.YtfalfbidcebmgaaRef2o
set_option linter.unusedVariables false
set_option linter.unusedSimpArgs false
namespace Go.Proofs.Ytfalfbidcebmgaa
open Go.RowKit
set_option maxRecDepth 100000
theorem shl_fit' {x n k m : Nat} (hx : x < W ^ n) (hk : k < 64 * m) : x * 2 ^ k < W ^ (n + m) := by
  rw [Nat.pow_add]
  exact Nat.lt_of_le_of_lt (Nat.mul_le_mul_right _ (Nat.le_of_lt hx)) (Nat.mul_lt_mul_of_pos_left (by rw [W_pow]; exact Nat.pow_lt_pow_right (by decide) hk) (by omega))
set_option maxHeartbeats 4000000 in
theorem law_NatShifts (A n c x) (K : Int) (w : World) (k1 : Dig .u64 W w A n c x) (r1 : n ≤ 1048576) (g1 : -9223372036854775808 ≤ K) (g2 : K ≤ 9223372036854775807) :
    Calls Try.prog 4 #[.slice A n c, .int .i64 K] w (Ret w (.bool true)) := by
  rcases Int.lt_or_le K 0 with hK | hK
  · have hk0 : ¬ 0 ≤ K := by omega
    go_enter Try.func4, Try.ntmps4
    go_wp2_with fail
    refine (awake2 _).mono ?_
    rintro e w1 ⟨rfl, hb1⟩
    go_wp2_with fail
    refine (nat_Of _ _ _ _ _ (k1.to (by with_reducible repeat (first | exact Below.refl _ _ | refine nxa ?_ _ | refine nxd ?_ _ | refine nxw ?_ | refine nx ?_ (by assumption)))) (by omega)).mono ?_
    rintro e w2 ⟨A2, n2, c2, rfl, h2, hb2, m2⟩
    have X1 := Blk1.newAt w2 (w2.heap.size) 25 (.slice A2 n2 c2) (by simp)
    replace X1 := (show Blk1 (w2.alloc (.cells #[.slice A2 n2 c2] 25)) _ _ _ from X1.to (by with_reducible repeat (first | exact Below.refl _ _ | refine nxa ?_ _ | refine nxd ?_ _ | refine nxw ?_ | refine nx ?_ (by assumption))))
    have hbwe : Below w2.heap.size w2 (w2.alloc (.cells #[.slice A2 n2 c2] 25)) := (by with_reducible repeat (first | exact Below.refl _ _ | refine nxa ?_ _ | refine nxd ?_ _ | refine nxw ?_ | refine nx ?_ (by assumption)))
    go_wp2_with fail
    generalize (w2.alloc (.cells #[.slice A2 n2 c2] 25)) = we at X1 hbwe ⊢
    refine (ref2_Of _ _ _ _ _ (k1.to (by with_reducible repeat (first | exact Below.refl _ _ | refine nxa ?_ _ | refine nxd ?_ _ | refine nxw ?_ | refine nx ?_ (by assumption)))) (by omega)).mono ?_
    rintro e w4 ⟨A4, n4, c4, rfl, h4, hb4, hf4⟩
    have l4 := ref_len h4 h2.lt
    have d1 := (show Blk1 w4 _ _ _ from X1.to (by with_reducible repeat (first | exact Below.refl _ _ | refine nxa ?_ _ | refine nxd ?_ _ | refine nxw ?_ | refine nx ?_ (by assumption)))).cell
    go_wp2_with fail
    refine (nat_Shl_no _ _ _ K _ (Or.inl hK)).mono ?_
    rintro e w7 ⟨A7, n7, c7, rfl, h7, hb7⟩
    have X3 := Blk1.new w7 25 (.slice A7 n7 c7)
    replace X1 := (show Blk1 (w7.alloc (.cells #[.slice A7 n7 c7] 25)) _ _ _ from X1.to (by with_reducible repeat (first | exact Below.refl _ _ | refine nxa ?_ _ | refine nxd ?_ _ | refine nxw ?_ | refine nx ?_ (by assumption))))
    clear d1
    have hbwf := nxa (Below.refl w7.heap.size w7) (.cells #[.slice A7 n7 c7] 25)
    go_wp2_with fail
    generalize (w7.alloc (.cells #[.slice A7 n7 c7] 25)) = wf at X1 X3 hbwf ⊢
    have D4 := h4.1
    have e1 : decide (0 ≤ K) = false := decide_eq_false (by omega)
    have CX3 := (show Blk1 wf _ _ _ from X3.to (by with_reducible repeat (first | exact Below.refl _ _ | refine nxa ?_ _ | refine nxd ?_ _ | refine nxw ?_ | refine nx ?_ (by assumption)))).cell
    have KP1 : ∀ w', Below wf.heap.size wf w' → w'.cell? ⟨w7.heap.size, 0, none⟩ = some (.slice A7 n7 c7) ∧ True := fun w' hw' => ⟨cellB hw' CX3, trivial⟩
    refine wp_regionT (S := fun w' => w'.cell? ⟨w7.heap.size, 0, none⟩ = some (.slice A7 n7 c7) ∧ True) [] (by kernel_rfl) (KP1 _ (by with_reducible repeat (first | exact Below.refl _ _ | refine nxa ?_ _ | refine nxd ?_ _ | refine nxw ?_ | refine nx ?_ (by assumption)))) (fun hHeld => ?_)
    have hbd1 : Below wf.heap.size wf wf.drew := nxw (Below.refl _ _)
    generalize wf.drew = wd1 at hHeld hbd1 ⊢
    refine anyT_take (i := 0) (v := ?_) (by simp only [List.getElem?_toArray, List.getElem?_cons_succ, List.getElem?_cons_zero]; rfl) (by kernel_rfl) (by kernel_rfl) (by kernel_rfl) (by kernel_rfl) (by exact fun _ _ _ h => h) (Or.inl ⟨by rfl, ?_⟩) (by assumption) ?_
    rotate_left
    · intro w hSw; (try dsimp only at hSw); go_simp; try with_reducible rfl
    try simp only [Act.put, List.setIfInBounds_toArray, List.set_cons_zero, List.set_cons_succ]
    refine anyT_take (i := 1) (v := ?_) (by simp only [List.getElem?_toArray, List.getElem?_cons_succ, List.getElem?_cons_zero]; rfl) (by kernel_rfl) (by kernel_rfl) (by kernel_rfl) (by kernel_rfl) (by exact fun _ _ _ h => h) (Or.inl ⟨by rfl, ?_⟩) (by assumption) ?_
    rotate_left
    · intro w hSw; (try dsimp only at hSw); go_simp; try with_reducible rfl
    try simp only [Act.put, List.setIfInBounds_toArray, List.set_cons_zero, List.set_cons_succ]
    refine anyT_take (i := 2) (v := ?_) (by simp only [List.getElem?_toArray, List.getElem?_cons_succ, List.getElem?_cons_zero]; rfl) (by kernel_rfl) (by kernel_rfl) (by kernel_rfl) (by kernel_rfl) (by exact fun _ _ _ h => h) (Or.inl ⟨by rfl, ?_⟩) (by assumption) ?_
    rotate_left
    · intro w hSw; (try dsimp only at hSw); go_simp; try with_reducible rfl
    try simp only [Act.put, List.setIfInBounds_toArray, List.set_cons_zero, List.set_cons_succ]
    refine anyT_take (i := 3) (v := ?_) (by simp only [List.getElem?_toArray, List.getElem?_cons_succ, List.getElem?_cons_zero]; rfl) (by kernel_rfl) (by kernel_rfl) (by kernel_rfl) (by kernel_rfl) (by exact fun _ _ _ h => h) (Or.inl ⟨by rfl, ?_⟩) (by assumption) ?_
    rotate_left
    · intro w hSw; (try dsimp only at hSw); go_simp; try with_reducible rfl
    try simp only [Act.put, List.setIfInBounds_toArray, List.set_cons_zero, List.set_cons_succ]
    refine anyT_take (i := 4) (v := undef) (by simp only [List.getElem?_toArray, List.getElem?_cons_succ, List.getElem?_cons_zero]; rfl) (by kernel_rfl) (by kernel_rfl) (by kernel_rfl) (by kernel_rfl) (by exact fun _ _ _ h => h) (Or.inr ⟨by rfl, rfl⟩) (by assumption) ?_
    try simp only [Act.put, List.setIfInBounds_toArray, List.set_cons_zero, List.set_cons_succ]
    refine anyT_take (i := 5) (v := undef) (by simp only [List.getElem?_toArray, List.getElem?_cons_succ, List.getElem?_cons_zero]; rfl) (by kernel_rfl) (by kernel_rfl) (by kernel_rfl) (by kernel_rfl) (by exact fun _ _ _ h => h) (Or.inr ⟨by rfl, rfl⟩) (by assumption) ?_
    try simp only [Act.put, List.setIfInBounds_toArray, List.set_cons_zero, List.set_cons_succ]
    refine anyT_take (i := 6) (v := ?_) (by simp only [List.getElem?_toArray, List.getElem?_cons_succ, List.getElem?_cons_zero]; rfl) (by kernel_rfl) (by kernel_rfl) (by kernel_rfl) (by kernel_rfl) (by exact fun _ _ _ h => h) (Or.inl ⟨by rfl, ?_⟩) (by assumption) ?_
    rotate_left
    · intro w hSw; (try dsimp only at hSw); go_simp; try with_reducible rfl
    try simp only [Act.put, List.setIfInBounds_toArray, List.set_cons_zero, List.set_cons_succ]
    refine anyT_take (i := 7) (v := ?_) (by simp only [List.getElem?_toArray, List.getElem?_cons_succ, List.getElem?_cons_zero]; rfl) (by kernel_rfl) (by kernel_rfl) (by kernel_rfl) (by kernel_rfl) (by exact fun _ _ _ h => h) (Or.inl ⟨by rfl, ?_⟩) (by assumption) ?_
    rotate_left
    · intro w hSw; (try dsimp only at hSw); go_simp; try with_reducible rfl
    try simp only [Act.put, List.setIfInBounds_toArray, List.set_cons_zero, List.set_cons_succ]
    refine anyT_take (i := 8) (v := ?_) (by simp only [List.getElem?_toArray, List.getElem?_cons_succ, List.getElem?_cons_zero]; rfl) (by kernel_rfl) (by kernel_rfl) (by kernel_rfl) (by kernel_rfl) (by exact fun _ _ _ h => h) (Or.inl ⟨by rfl, ?_⟩) (by assumption) ?_
    rotate_left
    · intro w hSw; (try dsimp only at hSw); go_simp; try with_reducible rfl
    try simp only [Act.put, List.setIfInBounds_toArray, List.set_cons_zero, List.set_cons_succ]
    refine anyT_take (i := 9) (v := ?_) (by simp only [List.getElem?_toArray, List.getElem?_cons_succ, List.getElem?_cons_zero]; rfl) (by kernel_rfl) (by kernel_rfl) (by kernel_rfl) (by kernel_rfl) (by exact fun _ _ _ h => h) (Or.inl ⟨by rfl, ?_⟩) (by assumption) ?_
    rotate_left
    · intro w hSw; (try dsimp only at hSw); go_simp; try with_reducible rfl
    try simp only [Act.put, List.setIfInBounds_toArray, List.set_cons_zero, List.set_cons_succ]
    refine anyT_take (i := 10) (v := ?_) (by simp only [List.getElem?_toArray, List.getElem?_cons_succ, List.getElem?_cons_zero]; rfl) (by kernel_rfl) (by kernel_rfl) (by kernel_rfl) (by kernel_rfl) (by exact fun _ _ _ h => h) (Or.inl ⟨by rfl, ?_⟩) (by assumption) ?_
    rotate_left
    · intro w hSw; (try dsimp only at hSw); go_simp; try with_reducible rfl
    try simp only [Act.put, List.setIfInBounds_toArray, List.set_cons_zero, List.set_cons_succ]
    refine anyT_take (i := 11) (v := ?_) (by simp only [List.getElem?_toArray, List.getElem?_cons_succ, List.getElem?_cons_zero]; rfl) (by kernel_rfl) (by kernel_rfl) (by kernel_rfl) (by kernel_rfl) (by exact fun _ _ _ h => h) (Or.inl ⟨by rfl, ?_⟩) (by assumption) ?_
    rotate_left
    · intro w hSw; (try dsimp only at hSw); go_simp; try with_reducible rfl
    try simp only [Act.put, List.setIfInBounds_toArray, List.set_cons_zero, List.set_cons_succ]
    refine anyT_take (i := 12) (v := ?_) (by simp only [List.getElem?_toArray, List.getElem?_cons_succ, List.getElem?_cons_zero]; rfl) (by kernel_rfl) (by kernel_rfl) (by kernel_rfl) (by kernel_rfl) (by exact fun _ _ _ h => h) (Or.inl ⟨by rfl, ?_⟩) (by assumption) ?_
    rotate_left
    · intro w hSw; (try dsimp only at hSw); go_simp; try with_reducible rfl
    try simp only [Act.put, List.setIfInBounds_toArray, List.set_cons_zero, List.set_cons_succ]
    refine anyT_ready (rs := [13]) (by kernel_rfl) (by simp) (ReadyT.cons (by simp only [List.getElem?_toArray, List.getElem?_cons_succ, List.getElem?_cons_zero]; rfl) (fun K hK => ?_) ReadyT.nil)
    go_simp
    go_at_call 22
    (with_reducible refine (nat_Zero _ _ _ _ _ (h7.to (by with_reducible repeat (first | exact Below.refl _ _ | refine nxa ?_ _ | refine nxd ?_ _ | refine nxw ?_ | refine nx ?_ (by assumption))))).mono ?_)
    rw [show decide ((0 : Nat) = 0) = true by simp]
    rintro e w9 ⟨rfl, hb9⟩
    go_simp
    refine hK.out _ _ (KP1 _ (by with_reducible repeat (first | exact Below.refl _ _ | refine nxa ?_ _ | refine nxd ?_ _ | refine nxw ?_ | refine nx ?_ (by assumption)))) (fun hHeld => ?_)
    clear hK K
    try simp only [Act.put, List.setIfInBounds_toArray, List.set_cons_zero, List.set_cons_succ]
    refine anyT_take (i := 14) (v := ?_) (by simp only [List.getElem?_toArray, List.getElem?_cons_succ, List.getElem?_cons_zero]; rfl) (by kernel_rfl) (by kernel_rfl) (by kernel_rfl) (by kernel_rfl) (by exact fun _ _ _ h => h) (Or.inl ⟨by rfl, ?_⟩) (by assumption) ?_
    rotate_left
    · intro w hSw; (try dsimp only at hSw); go_simp; try with_reducible rfl
    try simp only [Act.put, List.setIfInBounds_toArray, List.set_cons_zero, List.set_cons_succ]
    refine anyT_take (i := 15) (v := ?_) (by simp only [List.getElem?_toArray, List.getElem?_cons_succ, List.getElem?_cons_zero]; rfl) (by kernel_rfl) (by kernel_rfl) (by kernel_rfl) (by kernel_rfl) (by exact fun _ _ _ h => h) (Or.inl ⟨by rfl, ?_⟩) (by assumption) ?_
    rotate_left
    · intro w hSw; (try dsimp only at hSw); go_simp; try with_reducible rfl
    try simp only [Act.put, List.setIfInBounds_toArray, List.set_cons_zero, List.set_cons_succ]
    refine anyT_take (i := 16) (v := ?_) (by simp only [List.getElem?_toArray, List.getElem?_cons_succ, List.getElem?_cons_zero]; rfl) (by kernel_rfl) (by kernel_rfl) (by kernel_rfl) (by kernel_rfl) (by exact fun _ _ _ h => h) (Or.inl ⟨by rfl, ?_⟩) (by assumption) ?_
    rotate_left
    · intro w hSw; (try dsimp only at hSw); go_simp; try with_reducible rfl
    try simp only [Act.put, List.setIfInBounds_toArray, List.set_cons_zero, List.set_cons_succ]
    refine anyT_take (i := 17) (v := ?_) (by simp only [List.getElem?_toArray, List.getElem?_cons_succ, List.getElem?_cons_zero]; rfl) (by kernel_rfl) (by kernel_rfl) (by kernel_rfl) (by kernel_rfl) (by exact fun _ _ _ h => h) (Or.inl ⟨by rfl, ?_⟩) (by assumption) ?_
    rotate_left
    · intro w hSw; (try dsimp only at hSw); go_simp; try with_reducible rfl
    try simp only [Act.put, List.setIfInBounds_toArray, List.set_cons_zero, List.set_cons_succ]
    refine anyT_take (i := 18) (v := ?_) (by simp only [List.getElem?_toArray, List.getElem?_cons_succ, List.getElem?_cons_zero]; rfl) (by kernel_rfl) (by kernel_rfl) (by kernel_rfl) (by kernel_rfl) (by exact fun _ _ _ h => h) (Or.inl ⟨by rfl, ?_⟩) (by assumption) ?_
    rotate_left
    · intro w hSw; (try dsimp only at hSw); go_simp; try with_reducible rfl
    try simp only [Act.put, List.setIfInBounds_toArray, List.set_cons_zero, List.set_cons_succ]
    refine anyT_take (i := 19) (v := ?_) (by simp only [List.getElem?_toArray, List.getElem?_cons_succ, List.getElem?_cons_zero]; rfl) (by kernel_rfl) (by kernel_rfl) (by kernel_rfl) (by kernel_rfl) (by exact fun _ _ _ h => h) (Or.inl ⟨by rfl, ?_⟩) (by assumption) ?_
    rotate_left
    · intro w hSw; (try dsimp only at hSw); go_simp; try with_reducible rfl
    try simp only [Act.put, List.setIfInBounds_toArray, List.set_cons_zero, List.set_cons_succ]
    refine anyT_take (i := 20) (v := undef) (by simp only [List.getElem?_toArray, List.getElem?_cons_succ, List.getElem?_cons_zero]; rfl) (by kernel_rfl) (by kernel_rfl) (by kernel_rfl) (by kernel_rfl) (by exact fun _ _ _ h => h) (Or.inr ⟨by rfl, rfl⟩) (by assumption) ?_
    try simp only [Act.put, List.setIfInBounds_toArray, List.set_cons_zero, List.set_cons_succ]
    refine anyT_take (i := 21) (v := undef) (by simp only [List.getElem?_toArray, List.getElem?_cons_succ, List.getElem?_cons_zero]; rfl) (by kernel_rfl) (by kernel_rfl) (by kernel_rfl) (by kernel_rfl) (by exact fun _ _ _ h => h) (Or.inr ⟨by rfl, rfl⟩) (by assumption) ?_
    try simp only [Act.put, List.setIfInBounds_toArray, List.set_cons_zero, List.set_cons_succ]
    refine anyT_take (i := 22) (v := undef) (by simp only [List.getElem?_toArray, List.getElem?_cons_succ, List.getElem?_cons_zero]; rfl) (by kernel_rfl) (by kernel_rfl) (by kernel_rfl) (by kernel_rfl) (by exact fun _ _ _ h => h) (Or.inr ⟨by rfl, rfl⟩) (by assumption) ?_
    try simp only [Act.put, List.setIfInBounds_toArray, List.set_cons_zero, List.set_cons_succ]
    refine anyT_take (i := 23) (v := undef) (by simp only [List.getElem?_toArray, List.getElem?_cons_succ, List.getElem?_cons_zero]; rfl) (by kernel_rfl) (by kernel_rfl) (by kernel_rfl) (by kernel_rfl) (by exact fun _ _ _ h => h) (Or.inr ⟨by rfl, rfl⟩) (by assumption) ?_
    try simp only [Act.put, List.setIfInBounds_toArray, List.set_cons_zero, List.set_cons_succ]
    refine anyT_take (i := 24) (v := undef) (by simp only [List.getElem?_toArray, List.getElem?_cons_succ, List.getElem?_cons_zero]; rfl) (by kernel_rfl) (by kernel_rfl) (by kernel_rfl) (by kernel_rfl) (by exact fun _ _ _ h => h) (Or.inr ⟨by rfl, rfl⟩) (by assumption) ?_
    try simp only [Act.put, List.setIfInBounds_toArray, List.set_cons_zero, List.set_cons_succ]
    refine anyT_take (i := 25) (v := undef) (by simp only [List.getElem?_toArray, List.getElem?_cons_succ, List.getElem?_cons_zero]; rfl) (by kernel_rfl) (by kernel_rfl) (by kernel_rfl) (by kernel_rfl) (by exact fun _ _ _ h => h) (Or.inr ⟨by rfl, rfl⟩) (by assumption) ?_
    try simp only [Act.put, List.setIfInBounds_toArray, List.set_cons_zero, List.set_cons_succ]
    refine anyT_take (i := 26) (v := ?_) (by simp only [List.getElem?_toArray, List.getElem?_cons_succ, List.getElem?_cons_zero]; rfl) (by kernel_rfl) (by kernel_rfl) (by kernel_rfl) (by kernel_rfl) (by exact fun _ _ _ h => h) (Or.inl ⟨by rfl, ?_⟩) (by assumption) ?_
    rotate_left
    · intro w hSw; (try dsimp only at hSw); go_simp; try with_reducible rfl
    try simp only [Act.put, List.setIfInBounds_toArray, List.set_cons_zero, List.set_cons_succ]
    refine anyT_take (i := 27) (v := ?_) (by simp only [List.getElem?_toArray, List.getElem?_cons_succ, List.getElem?_cons_zero]; rfl) (by kernel_rfl) (by kernel_rfl) (by kernel_rfl) (by kernel_rfl) (by exact fun _ _ _ h => h) (Or.inl ⟨by rfl, ?_⟩) (by assumption) ?_
    rotate_left
    · intro w hSw; (try dsimp only at hSw); go_simp; try with_reducible rfl
    try simp only [Act.put, List.setIfInBounds_toArray, List.set_cons_zero, List.set_cons_succ]
    refine anyT_done (by kernel_rfl) ?_ _
    have d2 := (show Blk1 w9 _ _ _ from X1.to (by with_reducible repeat (first | exact Below.refl _ _ | refine nxa ?_ _ | refine nxd ?_ _ | refine nxw ?_ | refine nx ?_ (by assumption)))).cell
    go_wp2_with fail
    refine (nat_Shr_no _ _ _ K _ (Or.inl hK)).mono ?_
    rintro e w10 ⟨A10, n10, c10, rfl, h10, hb10⟩
    have q10 := h10.le_of n2 (Nat.pow_pos W_pos)
    go_wp2_with fail
    refine (ref2_Shr_no _ _ _ K _ hK).mono ?_
    rintro e w11 ⟨A11, n11, c11, rfl, h11, hb11, hf11⟩
    have l11 := ref_len (m := n2) h11 (Nat.pow_pos W_pos)
    go_wp2_with fail
    refine (law_Like _ _ _ _ _ _ _ _ (h10.to (by with_reducible repeat (first | exact Below.refl _ _ | refine nxa ?_ _ | refine nxd ?_ _ | refine nxw ?_ | refine nx ?_ (by assumption)))) (h11.to (by with_reducible repeat (first | exact Below.refl _ _ | refine nxa ?_ _ | refine nxd ?_ _ | refine nxw ?_ | refine nx ?_ (by assumption)))) (by omega) (by omega)).mono ?_
    rintro e w12 ⟨rfl, hb12⟩
    have d3 := (show Blk1 w12 _ _ _ from X1.to (by with_reducible repeat (first | exact Below.refl _ _ | refine nxa ?_ _ | refine nxd ?_ _ | refine nxw ?_ | refine nx ?_ (by assumption)))).cell
    go_wp2_with fail
    refine (nat_Low_neg _ _ _ K _ hK).mono ?_
    rintro e w13 ⟨A13, n13, c13, rfl, h13, hb13⟩
    have q13 := h13.le_of n2 (Nat.pow_pos W_pos)
    go_wp2_with fail
    refine (ref2_Low_no _ _ _ K _ hK).mono ?_
    rintro e w14 ⟨A14, n14, c14, rfl, h14, hb14, hf14⟩
    have l14 := ref_len (m := n2) h14 (Nat.pow_pos W_pos)
    go_wp2_with fail
    refine (law_Like _ _ _ _ _ _ _ _ (h13.to (by with_reducible repeat (first | exact Below.refl _ _ | refine nxa ?_ _ | refine nxd ?_ _ | refine nxw ?_ | refine nx ?_ (by assumption)))) (h14.to (by with_reducible repeat (first | exact Below.refl _ _ | refine nxa ?_ _ | refine nxd ?_ _ | refine nxw ?_ | refine nx ?_ (by assumption)))) (by omega) (by omega)).mono ?_
    rintro e w15 ⟨rfl, hb15⟩
    go_wp2_with fail
    go_ret
    exact ⟨rfl, (by with_reducible repeat (first | exact Below.refl _ _ | refine nxa ?_ _ | refine nxd ?_ _ | refine nxw ?_ | refine nx ?_ (by assumption)))⟩
  · obtain ⟨k, rfl⟩ : ∃ k : Nat, K = (k : Int) := ⟨K.toNat, by omega⟩
    have hk9 : k ≤ 9223372036854775807 := by omega
    rcases Int.lt_or_le 65536 (k : Int) with hL | hL
    · have hl2 : ¬ (k : Int) ≤ 65536 := by omega
      go_enter Try.func4, Try.ntmps4
      go_wp2_with fail
      refine (awake2 _).mono ?_
      rintro e w1 ⟨rfl, hb1⟩
      go_wp2_with fail
      refine (nat_Of _ _ _ _ _ (k1.to (by with_reducible repeat (first | exact Below.refl _ _ | refine nxa ?_ _ | refine nxd ?_ _ | refine nxw ?_ | refine nx ?_ (by assumption)))) (by omega)).mono ?_
      rintro e w2 ⟨A2, n2, c2, rfl, h2, hb2, m2⟩
      have X1 := Blk1.newAt w2 (w2.heap.size) 25 (.slice A2 n2 c2) (by simp)
      replace X1 := (show Blk1 (w2.alloc (.cells #[.slice A2 n2 c2] 25)) _ _ _ from X1.to (by with_reducible repeat (first | exact Below.refl _ _ | refine nxa ?_ _ | refine nxd ?_ _ | refine nxw ?_ | refine nx ?_ (by assumption))))
      have hbwe : Below w2.heap.size w2 (w2.alloc (.cells #[.slice A2 n2 c2] 25)) := (by with_reducible repeat (first | exact Below.refl _ _ | refine nxa ?_ _ | refine nxd ?_ _ | refine nxw ?_ | refine nx ?_ (by assumption)))
      go_wp2_with fail
      generalize (w2.alloc (.cells #[.slice A2 n2 c2] 25)) = we at X1 hbwe ⊢
      refine (ref2_Of _ _ _ _ _ (k1.to (by with_reducible repeat (first | exact Below.refl _ _ | refine nxa ?_ _ | refine nxd ?_ _ | refine nxw ?_ | refine nx ?_ (by assumption)))) (by omega)).mono ?_
      rintro e w4 ⟨A4, n4, c4, rfl, h4, hb4, hf4⟩
      have l4 := ref_len h4 h2.lt
      have d1 := (show Blk1 w4 _ _ _ from X1.to (by with_reducible repeat (first | exact Below.refl _ _ | refine nxa ?_ _ | refine nxd ?_ _ | refine nxw ?_ | refine nx ?_ (by assumption)))).cell
      go_wp2_with fail
      refine (nat_Shl_no _ _ _ _ _ (Or.inr hL)).mono ?_
      rintro e w7 ⟨A7, n7, c7, rfl, h7, hb7⟩
      have X3 := Blk1.new w7 25 (.slice A7 n7 c7)
      replace X1 := (show Blk1 (w7.alloc (.cells #[.slice A7 n7 c7] 25)) _ _ _ from X1.to (by with_reducible repeat (first | exact Below.refl _ _ | refine nxa ?_ _ | refine nxd ?_ _ | refine nxw ?_ | refine nx ?_ (by assumption))))
      clear d1
      have hbwf := nxa (Below.refl w7.heap.size w7) (.cells #[.slice A7 n7 c7] 25)
      go_wp2_with fail
      generalize (w7.alloc (.cells #[.slice A7 n7 c7] 25)) = wf at X1 X3 hbwf ⊢
      have D4 := h4.1
      have e1 : decide (0 ≤ (k : Int)) = true := decide_eq_true (by omega)
      have e2 : decide ((k : Int) ≤ 65536) = false := decide_eq_false (by omega)
      have CX3 := (show Blk1 wf _ _ _ from X3.to (by with_reducible repeat (first | exact Below.refl _ _ | refine nxa ?_ _ | refine nxd ?_ _ | refine nxw ?_ | refine nx ?_ (by assumption)))).cell
      have KP2 : ∀ w', Below wf.heap.size wf w' → w'.cell? ⟨w7.heap.size, 0, none⟩ = some (.slice A7 n7 c7) ∧ True := fun w' hw' => ⟨cellB hw' CX3, trivial⟩
      refine wp_regionT (S := fun w' => w'.cell? ⟨w7.heap.size, 0, none⟩ = some (.slice A7 n7 c7) ∧ True) [] (by kernel_rfl) (KP2 _ (by with_reducible repeat (first | exact Below.refl _ _ | refine nxa ?_ _ | refine nxd ?_ _ | refine nxw ?_ | refine nx ?_ (by assumption)))) (fun hHeld => ?_)
      have hbd2 : Below wf.heap.size wf wf.drew := nxw (Below.refl _ _)
      generalize wf.drew = wd2 at hHeld hbd2 ⊢
      refine anyT_take (i := 0) (v := ?_) (by simp only [List.getElem?_toArray, List.getElem?_cons_succ, List.getElem?_cons_zero]; rfl) (by kernel_rfl) (by kernel_rfl) (by kernel_rfl) (by kernel_rfl) (by exact fun _ _ _ h => h) (Or.inl ⟨by rfl, ?_⟩) (by assumption) ?_
      rotate_left
      · intro w hSw; (try dsimp only at hSw); go_simp; try with_reducible rfl
      try simp only [Act.put, List.setIfInBounds_toArray, List.set_cons_zero, List.set_cons_succ]
      refine anyT_take (i := 1) (v := ?_) (by simp only [List.getElem?_toArray, List.getElem?_cons_succ, List.getElem?_cons_zero]; rfl) (by kernel_rfl) (by kernel_rfl) (by kernel_rfl) (by kernel_rfl) (by exact fun _ _ _ h => h) (Or.inl ⟨by rfl, ?_⟩) (by assumption) ?_
      rotate_left
      · intro w hSw; (try dsimp only at hSw); go_simp; try with_reducible rfl
      try simp only [Act.put, List.setIfInBounds_toArray, List.set_cons_zero, List.set_cons_succ]
      refine anyT_take (i := 2) (v := ?_) (by simp only [List.getElem?_toArray, List.getElem?_cons_succ, List.getElem?_cons_zero]; rfl) (by kernel_rfl) (by kernel_rfl) (by kernel_rfl) (by kernel_rfl) (by exact fun _ _ _ h => h) (Or.inl ⟨by rfl, ?_⟩) (by assumption) ?_
      rotate_left
      · intro w hSw; (try dsimp only at hSw); go_simp; try with_reducible rfl
      try simp only [Act.put, List.setIfInBounds_toArray, List.set_cons_zero, List.set_cons_succ]
      refine anyT_take (i := 3) (v := ?_) (by simp only [List.getElem?_toArray, List.getElem?_cons_succ, List.getElem?_cons_zero]; rfl) (by kernel_rfl) (by kernel_rfl) (by kernel_rfl) (by kernel_rfl) (by exact fun _ _ _ h => h) (Or.inl ⟨by rfl, ?_⟩) (by assumption) ?_
      rotate_left
      · intro w hSw; (try dsimp only at hSw); go_simp; try with_reducible rfl
      try simp only [Act.put, List.setIfInBounds_toArray, List.set_cons_zero, List.set_cons_succ]
      refine anyT_take (i := 4) (v := ?_) (by simp only [List.getElem?_toArray, List.getElem?_cons_succ, List.getElem?_cons_zero]; rfl) (by kernel_rfl) (by kernel_rfl) (by kernel_rfl) (by kernel_rfl) (by exact fun _ _ _ h => h) (Or.inl ⟨by rfl, ?_⟩) (by assumption) ?_
      rotate_left
      · intro w hSw; (try dsimp only at hSw); go_simp; try with_reducible rfl
      try simp only [Act.put, List.setIfInBounds_toArray, List.set_cons_zero, List.set_cons_succ]
      refine anyT_take (i := 5) (v := ?_) (by simp only [List.getElem?_toArray, List.getElem?_cons_succ, List.getElem?_cons_zero]; rfl) (by kernel_rfl) (by kernel_rfl) (by kernel_rfl) (by kernel_rfl) (by exact fun _ _ _ h => h) (Or.inl ⟨by rfl, ?_⟩) (by assumption) ?_
      rotate_left
      · intro w hSw; (try dsimp only at hSw); go_simp; try with_reducible rfl
      try simp only [Act.put, List.setIfInBounds_toArray, List.set_cons_zero, List.set_cons_succ]
      refine anyT_take (i := 6) (v := ?_) (by simp only [List.getElem?_toArray, List.getElem?_cons_succ, List.getElem?_cons_zero]; rfl) (by kernel_rfl) (by kernel_rfl) (by kernel_rfl) (by kernel_rfl) (by exact fun _ _ _ h => h) (Or.inl ⟨by rfl, ?_⟩) (by assumption) ?_
      rotate_left
      · intro w hSw; (try dsimp only at hSw); go_simp; try with_reducible rfl
      try simp only [Act.put, List.setIfInBounds_toArray, List.set_cons_zero, List.set_cons_succ]
      refine anyT_take (i := 7) (v := ?_) (by simp only [List.getElem?_toArray, List.getElem?_cons_succ, List.getElem?_cons_zero]; rfl) (by kernel_rfl) (by kernel_rfl) (by kernel_rfl) (by kernel_rfl) (by exact fun _ _ _ h => h) (Or.inl ⟨by rfl, ?_⟩) (by assumption) ?_
      rotate_left
      · intro w hSw; (try dsimp only at hSw); go_simp; try with_reducible rfl
      try simp only [Act.put, List.setIfInBounds_toArray, List.set_cons_zero, List.set_cons_succ]
      refine anyT_take (i := 8) (v := ?_) (by simp only [List.getElem?_toArray, List.getElem?_cons_succ, List.getElem?_cons_zero]; rfl) (by kernel_rfl) (by kernel_rfl) (by kernel_rfl) (by kernel_rfl) (by exact fun _ _ _ h => h) (Or.inl ⟨by rfl, ?_⟩) (by assumption) ?_
      rotate_left
      · intro w hSw; (try dsimp only at hSw); go_simp; try with_reducible rfl
      try simp only [Act.put, List.setIfInBounds_toArray, List.set_cons_zero, List.set_cons_succ]
      refine anyT_take (i := 9) (v := ?_) (by simp only [List.getElem?_toArray, List.getElem?_cons_succ, List.getElem?_cons_zero]; rfl) (by kernel_rfl) (by kernel_rfl) (by kernel_rfl) (by kernel_rfl) (by exact fun _ _ _ h => h) (Or.inl ⟨by rfl, ?_⟩) (by assumption) ?_
      rotate_left
      · intro w hSw; (try dsimp only at hSw); go_simp; try with_reducible rfl
      try simp only [Act.put, List.setIfInBounds_toArray, List.set_cons_zero, List.set_cons_succ]
      refine anyT_take (i := 10) (v := ?_) (by simp only [List.getElem?_toArray, List.getElem?_cons_succ, List.getElem?_cons_zero]; rfl) (by kernel_rfl) (by kernel_rfl) (by kernel_rfl) (by kernel_rfl) (by exact fun _ _ _ h => h) (Or.inl ⟨by rfl, ?_⟩) (by assumption) ?_
      rotate_left
      · intro w hSw; (try dsimp only at hSw); go_simp; try with_reducible rfl
      try simp only [Act.put, List.setIfInBounds_toArray, List.set_cons_zero, List.set_cons_succ]
      refine anyT_take (i := 11) (v := ?_) (by simp only [List.getElem?_toArray, List.getElem?_cons_succ, List.getElem?_cons_zero]; rfl) (by kernel_rfl) (by kernel_rfl) (by kernel_rfl) (by kernel_rfl) (by exact fun _ _ _ h => h) (Or.inl ⟨by rfl, ?_⟩) (by assumption) ?_
      rotate_left
      · intro w hSw; (try dsimp only at hSw); go_simp; try with_reducible rfl
      try simp only [Act.put, List.setIfInBounds_toArray, List.set_cons_zero, List.set_cons_succ]
      refine anyT_take (i := 12) (v := ?_) (by simp only [List.getElem?_toArray, List.getElem?_cons_succ, List.getElem?_cons_zero]; rfl) (by kernel_rfl) (by kernel_rfl) (by kernel_rfl) (by kernel_rfl) (by exact fun _ _ _ h => h) (Or.inl ⟨by rfl, ?_⟩) (by assumption) ?_
      rotate_left
      · intro w hSw; (try dsimp only at hSw); go_simp; try with_reducible rfl
      try simp only [Act.put, List.setIfInBounds_toArray, List.set_cons_zero, List.set_cons_succ]
      refine anyT_ready (rs := [13]) (by kernel_rfl) (by simp) (ReadyT.cons (by simp only [List.getElem?_toArray, List.getElem?_cons_succ, List.getElem?_cons_zero]; rfl) (fun K hK => ?_) ReadyT.nil)
      go_simp
      go_at_call 22
      (with_reducible refine (nat_Zero _ _ _ _ _ (h7.to (by with_reducible repeat (first | exact Below.refl _ _ | refine nxa ?_ _ | refine nxd ?_ _ | refine nxw ?_ | refine nx ?_ (by assumption))))).mono ?_)
      rw [show decide ((0 : Nat) = 0) = true by simp]
      rintro e w9 ⟨rfl, hb9⟩
      go_simp
      refine hK.out _ _ (KP2 _ (by with_reducible repeat (first | exact Below.refl _ _ | refine nxa ?_ _ | refine nxd ?_ _ | refine nxw ?_ | refine nx ?_ (by assumption)))) (fun hHeld => ?_)
      clear hK K
      try simp only [Act.put, List.setIfInBounds_toArray, List.set_cons_zero, List.set_cons_succ]
      refine anyT_take (i := 14) (v := ?_) (by simp only [List.getElem?_toArray, List.getElem?_cons_succ, List.getElem?_cons_zero]; rfl) (by kernel_rfl) (by kernel_rfl) (by kernel_rfl) (by kernel_rfl) (by exact fun _ _ _ h => h) (Or.inl ⟨by rfl, ?_⟩) (by assumption) ?_
      rotate_left
      · intro w hSw; (try dsimp only at hSw); go_simp; try with_reducible rfl
      try simp only [Act.put, List.setIfInBounds_toArray, List.set_cons_zero, List.set_cons_succ]
      refine anyT_take (i := 15) (v := ?_) (by simp only [List.getElem?_toArray, List.getElem?_cons_succ, List.getElem?_cons_zero]; rfl) (by kernel_rfl) (by kernel_rfl) (by kernel_rfl) (by kernel_rfl) (by exact fun _ _ _ h => h) (Or.inl ⟨by rfl, ?_⟩) (by assumption) ?_
      rotate_left
      · intro w hSw; (try dsimp only at hSw); go_simp; try with_reducible rfl
      try simp only [Act.put, List.setIfInBounds_toArray, List.set_cons_zero, List.set_cons_succ]
      refine anyT_take (i := 16) (v := ?_) (by simp only [List.getElem?_toArray, List.getElem?_cons_succ, List.getElem?_cons_zero]; rfl) (by kernel_rfl) (by kernel_rfl) (by kernel_rfl) (by kernel_rfl) (by exact fun _ _ _ h => h) (Or.inl ⟨by rfl, ?_⟩) (by assumption) ?_
      rotate_left
      · intro w hSw; (try dsimp only at hSw); go_simp; try with_reducible rfl
      try simp only [Act.put, List.setIfInBounds_toArray, List.set_cons_zero, List.set_cons_succ]
      refine anyT_take (i := 17) (v := ?_) (by simp only [List.getElem?_toArray, List.getElem?_cons_succ, List.getElem?_cons_zero]; rfl) (by kernel_rfl) (by kernel_rfl) (by kernel_rfl) (by kernel_rfl) (by exact fun _ _ _ h => h) (Or.inl ⟨by rfl, ?_⟩) (by assumption) ?_
      rotate_left
      · intro w hSw; (try dsimp only at hSw); go_simp; try with_reducible rfl
      try simp only [Act.put, List.setIfInBounds_toArray, List.set_cons_zero, List.set_cons_succ]
      refine anyT_take (i := 18) (v := ?_) (by simp only [List.getElem?_toArray, List.getElem?_cons_succ, List.getElem?_cons_zero]; rfl) (by kernel_rfl) (by kernel_rfl) (by kernel_rfl) (by kernel_rfl) (by exact fun _ _ _ h => h) (Or.inl ⟨by rfl, ?_⟩) (by assumption) ?_
      rotate_left
      · intro w hSw; (try dsimp only at hSw); go_simp; try with_reducible rfl
      try simp only [Act.put, List.setIfInBounds_toArray, List.set_cons_zero, List.set_cons_succ]
      refine anyT_take (i := 19) (v := ?_) (by simp only [List.getElem?_toArray, List.getElem?_cons_succ, List.getElem?_cons_zero]; rfl) (by kernel_rfl) (by kernel_rfl) (by kernel_rfl) (by kernel_rfl) (by exact fun _ _ _ h => h) (Or.inl ⟨by rfl, ?_⟩) (by assumption) ?_
      rotate_left
      · intro w hSw; (try dsimp only at hSw); go_simp; try with_reducible rfl
      try simp only [Act.put, List.setIfInBounds_toArray, List.set_cons_zero, List.set_cons_succ]
      refine anyT_take (i := 20) (v := undef) (by simp only [List.getElem?_toArray, List.getElem?_cons_succ, List.getElem?_cons_zero]; rfl) (by kernel_rfl) (by kernel_rfl) (by kernel_rfl) (by kernel_rfl) (by exact fun _ _ _ h => h) (Or.inr ⟨by rfl, rfl⟩) (by assumption) ?_
      try simp only [Act.put, List.setIfInBounds_toArray, List.set_cons_zero, List.set_cons_succ]
      refine anyT_take (i := 21) (v := undef) (by simp only [List.getElem?_toArray, List.getElem?_cons_succ, List.getElem?_cons_zero]; rfl) (by kernel_rfl) (by kernel_rfl) (by kernel_rfl) (by kernel_rfl) (by exact fun _ _ _ h => h) (Or.inr ⟨by rfl, rfl⟩) (by assumption) ?_
      try simp only [Act.put, List.setIfInBounds_toArray, List.set_cons_zero, List.set_cons_succ]
      refine anyT_take (i := 22) (v := undef) (by simp only [List.getElem?_toArray, List.getElem?_cons_succ, List.getElem?_cons_zero]; rfl) (by kernel_rfl) (by kernel_rfl) (by kernel_rfl) (by kernel_rfl) (by exact fun _ _ _ h => h) (Or.inr ⟨by rfl, rfl⟩) (by assumption) ?_
      try simp only [Act.put, List.setIfInBounds_toArray, List.set_cons_zero, List.set_cons_succ]
      refine anyT_take (i := 23) (v := undef) (by simp only [List.getElem?_toArray, List.getElem?_cons_succ, List.getElem?_cons_zero]; rfl) (by kernel_rfl) (by kernel_rfl) (by kernel_rfl) (by kernel_rfl) (by exact fun _ _ _ h => h) (Or.inr ⟨by rfl, rfl⟩) (by assumption) ?_
      try simp only [Act.put, List.setIfInBounds_toArray, List.set_cons_zero, List.set_cons_succ]
      refine anyT_take (i := 24) (v := undef) (by simp only [List.getElem?_toArray, List.getElem?_cons_succ, List.getElem?_cons_zero]; rfl) (by kernel_rfl) (by kernel_rfl) (by kernel_rfl) (by kernel_rfl) (by exact fun _ _ _ h => h) (Or.inr ⟨by rfl, rfl⟩) (by assumption) ?_
      try simp only [Act.put, List.setIfInBounds_toArray, List.set_cons_zero, List.set_cons_succ]
      refine anyT_take (i := 25) (v := undef) (by simp only [List.getElem?_toArray, List.getElem?_cons_succ, List.getElem?_cons_zero]; rfl) (by kernel_rfl) (by kernel_rfl) (by kernel_rfl) (by kernel_rfl) (by exact fun _ _ _ h => h) (Or.inr ⟨by rfl, rfl⟩) (by assumption) ?_
      try simp only [Act.put, List.setIfInBounds_toArray, List.set_cons_zero, List.set_cons_succ]
      refine anyT_take (i := 26) (v := ?_) (by simp only [List.getElem?_toArray, List.getElem?_cons_succ, List.getElem?_cons_zero]; rfl) (by kernel_rfl) (by kernel_rfl) (by kernel_rfl) (by kernel_rfl) (by exact fun _ _ _ h => h) (Or.inl ⟨by rfl, ?_⟩) (by assumption) ?_
      rotate_left
      · intro w hSw; (try dsimp only at hSw); go_simp; try with_reducible rfl
      try simp only [Act.put, List.setIfInBounds_toArray, List.set_cons_zero, List.set_cons_succ]
      refine anyT_take (i := 27) (v := ?_) (by simp only [List.getElem?_toArray, List.getElem?_cons_succ, List.getElem?_cons_zero]; rfl) (by kernel_rfl) (by kernel_rfl) (by kernel_rfl) (by kernel_rfl) (by exact fun _ _ _ h => h) (Or.inl ⟨by rfl, ?_⟩) (by assumption) ?_
      rotate_left
      · intro w hSw; (try dsimp only at hSw); go_simp; try with_reducible rfl
      try simp only [Act.put, List.setIfInBounds_toArray, List.set_cons_zero, List.set_cons_succ]
      refine anyT_done (by kernel_rfl) ?_ _
      have d2 := (show Blk1 w9 _ _ _ from X1.to (by with_reducible repeat (first | exact Below.refl _ _ | refine nxa ?_ _ | refine nxd ?_ _ | refine nxw ?_ | refine nx ?_ (by assumption)))).cell
      go_wp2_with fail
      refine (nat_Shr _ _ _ _ k _ (h2.to (by with_reducible repeat (first | exact Below.refl _ _ | refine nxa ?_ _ | refine nxd ?_ _ | refine nxw ?_ | refine nx ?_ (by assumption)))) hk9 (by omega)).mono ?_
      rintro e w10 ⟨A10, n10, c10, rfl, h10, hb10⟩
      have q10 := h10.le_of n2 (Nat.lt_of_le_of_lt (Nat.div_le_self _ _) h2.lt)
      go_wp2_with fail
      refine (ref2_Shr _ _ _ _ k _ (D4.to (by with_reducible repeat (first | exact Below.refl _ _ | refine nxa ?_ _ | refine nxd ?_ _ | refine nxw ?_ | refine nx ?_ (by assumption)))) hk9 (by omega)).mono ?_
      rintro e w11 ⟨A11, n11, c11, rfl, h11, hb11, hf11⟩
      have l11 := ref_len (m := n2) h11 (Nat.lt_of_le_of_lt (Nat.div_le_self _ _) h2.lt)
      go_wp2_with fail
      refine (law_Like _ _ _ _ _ _ _ _ (h10.to (by with_reducible repeat (first | exact Below.refl _ _ | refine nxa ?_ _ | refine nxd ?_ _ | refine nxw ?_ | refine nx ?_ (by assumption)))) (h11.to (by with_reducible repeat (first | exact Below.refl _ _ | refine nxa ?_ _ | refine nxd ?_ _ | refine nxw ?_ | refine nx ?_ (by assumption)))) (by omega) (by omega)).mono ?_
      rintro e w12 ⟨rfl, hb12⟩
      have d3 := (show Blk1 w12 _ _ _ from X1.to (by with_reducible repeat (first | exact Below.refl _ _ | refine nxa ?_ _ | refine nxd ?_ _ | refine nxw ?_ | refine nx ?_ (by assumption)))).cell
      go_wp2_with fail
      refine (nat_Low _ _ _ _ k _ (h2.to (by with_reducible repeat (first | exact Below.refl _ _ | refine nxa ?_ _ | refine nxd ?_ _ | refine nxw ?_ | refine nx ?_ (by assumption)))) (by omega) (by omega)).mono ?_
      rintro e w13 ⟨A13, n13, c13, rfl, h13, hb13⟩
      have q13 := h13.le_of n2 (Nat.lt_of_le_of_lt (Nat.mod_le _ _) h2.lt)
      go_wp2_with fail
      refine (ref2_Low _ _ _ _ k _ (D4.to (by with_reducible repeat (first | exact Below.refl _ _ | refine nxa ?_ _ | refine nxd ?_ _ | refine nxw ?_ | refine nx ?_ (by assumption)))) hk9 (by omega)).mono ?_
      rintro e w14 ⟨A14, n14, c14, rfl, h14, hb14, hf14⟩
      have l14 := ref_len (m := n2) h14 (Nat.lt_of_le_of_lt (Nat.mod_le _ _) h2.lt)
      go_wp2_with fail
      refine (law_Like _ _ _ _ _ _ _ _ (h13.to (by with_reducible repeat (first | exact Below.refl _ _ | refine nxa ?_ _ | refine nxd ?_ _ | refine nxw ?_ | refine nx ?_ (by assumption)))) (h14.to (by with_reducible repeat (first | exact Below.refl _ _ | refine nxa ?_ _ | refine nxd ?_ _ | refine nxw ?_ | refine nx ?_ (by assumption)))) (by omega) (by omega)).mono ?_
      rintro e w15 ⟨rfl, hb15⟩
      go_wp2_with fail
      go_ret
      exact ⟨rfl, (by with_reducible repeat (first | exact Below.refl _ _ | refine nxa ?_ _ | refine nxd ?_ _ | refine nxw ?_ | refine nx ?_ (by assumption)))⟩
    · have hk6 : k ≤ 65536 := by omega
      go_enter Try.func4, Try.ntmps4
      go_wp2_with fail
      refine (awake2 _).mono ?_
      rintro e w1 ⟨rfl, hb1⟩
      go_wp2_with fail
      refine (nat_Of _ _ _ _ _ (k1.to (by with_reducible repeat (first | exact Below.refl _ _ | refine nxa ?_ _ | refine nxd ?_ _ | refine nxw ?_ | refine nx ?_ (by assumption)))) (by omega)).mono ?_
      rintro e w2 ⟨A2, n2, c2, rfl, h2, hb2, m2⟩
      have X1 := Blk1.newAt w2 (w2.heap.size) 25 (.slice A2 n2 c2) (by simp)
      replace X1 := (show Blk1 (w2.alloc (.cells #[.slice A2 n2 c2] 25)) _ _ _ from X1.to (by with_reducible repeat (first | exact Below.refl _ _ | refine nxa ?_ _ | refine nxd ?_ _ | refine nxw ?_ | refine nx ?_ (by assumption))))
      have hbwe : Below w2.heap.size w2 (w2.alloc (.cells #[.slice A2 n2 c2] 25)) := (by with_reducible repeat (first | exact Below.refl _ _ | refine nxa ?_ _ | refine nxd ?_ _ | refine nxw ?_ | refine nx ?_ (by assumption)))
      go_wp2_with fail
      generalize (w2.alloc (.cells #[.slice A2 n2 c2] 25)) = we at X1 hbwe ⊢
      refine (ref2_Of _ _ _ _ _ (k1.to (by with_reducible repeat (first | exact Below.refl _ _ | refine nxa ?_ _ | refine nxd ?_ _ | refine nxw ?_ | refine nx ?_ (by assumption)))) (by omega)).mono ?_
      rintro e w4 ⟨A4, n4, c4, rfl, h4, hb4, hf4⟩
      have l4 := ref_len h4 h2.lt
      have d1 := (show Blk1 w4 _ _ _ from X1.to (by with_reducible repeat (first | exact Below.refl _ _ | refine nxa ?_ _ | refine nxd ?_ _ | refine nxw ?_ | refine nx ?_ (by assumption)))).cell
      go_wp2_with fail
      refine (nat_Shl _ _ _ _ k _ (h2.to (by with_reducible repeat (first | exact Below.refl _ _ | refine nxa ?_ _ | refine nxd ?_ _ | refine nxw ?_ | refine nx ?_ (by assumption)))) (by omega) (by omega)).mono ?_
      rintro e w7 ⟨A7, n7, c7, rfl, h7, hb7⟩
      have X3 := Blk1.new w7 25 (.slice A7 n7 c7)
      replace X1 := (show Blk1 (w7.alloc (.cells #[.slice A7 n7 c7] 25)) _ _ _ from X1.to (by with_reducible repeat (first | exact Below.refl _ _ | refine nxa ?_ _ | refine nxd ?_ _ | refine nxw ?_ | refine nx ?_ (by assumption))))
      clear d1
      have hbwf := nxa (Below.refl w7.heap.size w7) (.cells #[.slice A7 n7 c7] 25)
      go_wp2_with fail
      generalize (w7.alloc (.cells #[.slice A7 n7 c7] 25)) = wf at X1 X3 hbwf ⊢
      have q7 := h7.le_of _ (shl_fit' (m := 1025) h2.lt (by omega))
      have D4 := h4.1
      have e1 : decide (0 ≤ (k : Int)) = true := decide_eq_true (by omega)
      have e2 : decide ((k : Int) ≤ 65536) = true := decide_eq_true (by omega)
      have CX3 := (show Blk1 wf _ _ _ from X3.to (by with_reducible repeat (first | exact Below.refl _ _ | refine nxa ?_ _ | refine nxd ?_ _ | refine nxw ?_ | refine nx ?_ (by assumption)))).cell
      have KP3 : ∀ w', Below wf.heap.size wf w' → w'.cell? ⟨w7.heap.size, 0, none⟩ = some (.slice A7 n7 c7) ∧ True := fun w' hw' => ⟨cellB hw' CX3, trivial⟩
      refine wp_regionT (S := fun w' => w'.cell? ⟨w7.heap.size, 0, none⟩ = some (.slice A7 n7 c7) ∧ True) [] (by kernel_rfl) (KP3 _ (by with_reducible repeat (first | exact Below.refl _ _ | refine nxa ?_ _ | refine nxd ?_ _ | refine nxw ?_ | refine nx ?_ (by assumption)))) (fun hHeld => ?_)
      have hbd3 : Below wf.heap.size wf wf.drew := nxw (Below.refl _ _)
      generalize wf.drew = wd3 at hHeld hbd3 ⊢
      refine anyT_take (i := 0) (v := ?_) (by simp only [List.getElem?_toArray, List.getElem?_cons_succ, List.getElem?_cons_zero]; rfl) (by kernel_rfl) (by kernel_rfl) (by kernel_rfl) (by kernel_rfl) (by exact fun _ _ _ h => h) (Or.inl ⟨by rfl, ?_⟩) (by assumption) ?_
      rotate_left
      · intro w hSw; (try dsimp only at hSw); go_simp; try with_reducible rfl
      try simp only [Act.put, List.setIfInBounds_toArray, List.set_cons_zero, List.set_cons_succ]
      refine anyT_take (i := 1) (v := ?_) (by simp only [List.getElem?_toArray, List.getElem?_cons_succ, List.getElem?_cons_zero]; rfl) (by kernel_rfl) (by kernel_rfl) (by kernel_rfl) (by kernel_rfl) (by exact fun _ _ _ h => h) (Or.inl ⟨by rfl, ?_⟩) (by assumption) ?_
      rotate_left
      · intro w hSw; (try dsimp only at hSw); go_simp; try with_reducible rfl
      try simp only [Act.put, List.setIfInBounds_toArray, List.set_cons_zero, List.set_cons_succ]
      refine anyT_take (i := 2) (v := ?_) (by simp only [List.getElem?_toArray, List.getElem?_cons_succ, List.getElem?_cons_zero]; rfl) (by kernel_rfl) (by kernel_rfl) (by kernel_rfl) (by kernel_rfl) (by exact fun _ _ _ h => h) (Or.inl ⟨by rfl, ?_⟩) (by assumption) ?_
      rotate_left
      · intro w hSw; (try dsimp only at hSw); go_simp; try with_reducible rfl
      try simp only [Act.put, List.setIfInBounds_toArray, List.set_cons_zero, List.set_cons_succ]
      refine anyT_take (i := 3) (v := ?_) (by simp only [List.getElem?_toArray, List.getElem?_cons_succ, List.getElem?_cons_zero]; rfl) (by kernel_rfl) (by kernel_rfl) (by kernel_rfl) (by kernel_rfl) (by exact fun _ _ _ h => h) (Or.inl ⟨by rfl, ?_⟩) (by assumption) ?_
      rotate_left
      · intro w hSw; (try dsimp only at hSw); go_simp; try with_reducible rfl
      try simp only [Act.put, List.setIfInBounds_toArray, List.set_cons_zero, List.set_cons_succ]
      refine anyT_take (i := 4) (v := ?_) (by simp only [List.getElem?_toArray, List.getElem?_cons_succ, List.getElem?_cons_zero]; rfl) (by kernel_rfl) (by kernel_rfl) (by kernel_rfl) (by kernel_rfl) (by exact fun _ _ _ h => h) (Or.inl ⟨by rfl, ?_⟩) (by assumption) ?_
      rotate_left
      · intro w hSw; (try dsimp only at hSw); go_simp; try with_reducible rfl
      try simp only [Act.put, List.setIfInBounds_toArray, List.set_cons_zero, List.set_cons_succ]
      refine anyT_take (i := 5) (v := ?_) (by simp only [List.getElem?_toArray, List.getElem?_cons_succ, List.getElem?_cons_zero]; rfl) (by kernel_rfl) (by kernel_rfl) (by kernel_rfl) (by kernel_rfl) (by exact fun _ _ _ h => h) (Or.inl ⟨by rfl, ?_⟩) (by assumption) ?_
      rotate_left
      · intro w hSw; (try dsimp only at hSw); go_simp; try with_reducible rfl
      try simp only [Act.put, List.setIfInBounds_toArray, List.set_cons_zero, List.set_cons_succ]
      refine anyT_take (i := 6) (v := ?_) (by simp only [List.getElem?_toArray, List.getElem?_cons_succ, List.getElem?_cons_zero]; rfl) (by kernel_rfl) (by kernel_rfl) (by kernel_rfl) (by kernel_rfl) (by exact fun _ _ _ h => h) (Or.inl ⟨by rfl, ?_⟩) (by assumption) ?_
      rotate_left
      · intro w hSw; (try dsimp only at hSw); go_simp; try with_reducible rfl
      try simp only [Act.put, List.setIfInBounds_toArray, List.set_cons_zero, List.set_cons_succ]
      refine anyT_take (i := 7) (v := ?_) (by simp only [List.getElem?_toArray, List.getElem?_cons_succ, List.getElem?_cons_zero]; rfl) (by kernel_rfl) (by kernel_rfl) (by kernel_rfl) (by kernel_rfl) (by exact fun _ _ _ h => h) (Or.inl ⟨by rfl, ?_⟩) (by assumption) ?_
      rotate_left
      · intro w hSw; (try dsimp only at hSw); go_simp; try with_reducible rfl
      try simp only [Act.put, List.setIfInBounds_toArray, List.set_cons_zero, List.set_cons_succ]
      refine anyT_take (i := 8) (v := ?_) (by simp only [List.getElem?_toArray, List.getElem?_cons_succ, List.getElem?_cons_zero]; rfl) (by kernel_rfl) (by kernel_rfl) (by kernel_rfl) (by kernel_rfl) (by exact fun _ _ _ h => h) (Or.inl ⟨by rfl, ?_⟩) (by assumption) ?_
      rotate_left
      · intro w hSw; (try dsimp only at hSw); go_simp; try with_reducible rfl
      try simp only [Act.put, List.setIfInBounds_toArray, List.set_cons_zero, List.set_cons_succ]
      refine anyT_take (i := 9) (v := ?_) (by simp only [List.getElem?_toArray, List.getElem?_cons_succ, List.getElem?_cons_zero]; rfl) (by kernel_rfl) (by kernel_rfl) (by kernel_rfl) (by kernel_rfl) (by exact fun _ _ _ h => h) (Or.inl ⟨by rfl, ?_⟩) (by assumption) ?_
      rotate_left
      · intro w hSw; (try dsimp only at hSw); go_simp; try with_reducible rfl
      try simp only [Act.put, List.setIfInBounds_toArray, List.set_cons_zero, List.set_cons_succ]
      refine anyT_take (i := 10) (v := ?_) (by simp only [List.getElem?_toArray, List.getElem?_cons_succ, List.getElem?_cons_zero]; rfl) (by kernel_rfl) (by kernel_rfl) (by kernel_rfl) (by kernel_rfl) (by exact fun _ _ _ h => h) (Or.inl ⟨by rfl, ?_⟩) (by assumption) ?_
      rotate_left
      · intro w hSw; (try dsimp only at hSw); go_simp; try with_reducible rfl
      try simp only [Act.put, List.setIfInBounds_toArray, List.set_cons_zero, List.set_cons_succ]
      refine anyT_take (i := 11) (v := ?_) (by simp only [List.getElem?_toArray, List.getElem?_cons_succ, List.getElem?_cons_zero]; rfl) (by kernel_rfl) (by kernel_rfl) (by kernel_rfl) (by kernel_rfl) (by exact fun _ _ _ h => h) (Or.inl ⟨by rfl, ?_⟩) (by assumption) ?_
      rotate_left
      · intro w hSw; (try dsimp only at hSw); go_simp; try with_reducible rfl
      try simp only [Act.put, List.setIfInBounds_toArray, List.set_cons_zero, List.set_cons_succ]
      refine anyT_take (i := 12) (v := undef) (by simp only [List.getElem?_toArray, List.getElem?_cons_succ, List.getElem?_cons_zero]; rfl) (by kernel_rfl) (by kernel_rfl) (by kernel_rfl) (by kernel_rfl) (by exact fun _ _ _ h => h) (Or.inr ⟨by rfl, rfl⟩) (by assumption) ?_
      try simp only [Act.put, List.setIfInBounds_toArray, List.set_cons_zero, List.set_cons_succ]
      refine anyT_take (i := 13) (v := undef) (by simp only [List.getElem?_toArray, List.getElem?_cons_succ, List.getElem?_cons_zero]; rfl) (by kernel_rfl) (by kernel_rfl) (by kernel_rfl) (by kernel_rfl) (by exact fun _ _ _ h => h) (Or.inr ⟨by rfl, rfl⟩) (by assumption) ?_
      try simp only [Act.put, List.setIfInBounds_toArray, List.set_cons_zero, List.set_cons_succ]
      refine anyT_take (i := 14) (v := undef) (by simp only [List.getElem?_toArray, List.getElem?_cons_succ, List.getElem?_cons_zero]; rfl) (by kernel_rfl) (by kernel_rfl) (by kernel_rfl) (by kernel_rfl) (by exact fun _ _ _ h => h) (Or.inr ⟨by rfl, rfl⟩) (by assumption) ?_
      try simp only [Act.put, List.setIfInBounds_toArray, List.set_cons_zero, List.set_cons_succ]
      refine anyT_take (i := 15) (v := ?_) (by simp only [List.getElem?_toArray, List.getElem?_cons_succ, List.getElem?_cons_zero]; rfl) (by kernel_rfl) (by kernel_rfl) (by kernel_rfl) (by kernel_rfl) (by exact fun _ _ _ h => h) (Or.inl ⟨by rfl, ?_⟩) (by assumption) ?_
      rotate_left
      · intro w hSw; (try dsimp only at hSw); go_simp; try with_reducible rfl
      try simp only [Act.put, List.setIfInBounds_toArray, List.set_cons_zero, List.set_cons_succ]
      refine anyT_take (i := 16) (v := ?_) (by simp only [List.getElem?_toArray, List.getElem?_cons_succ, List.getElem?_cons_zero]; rfl) (by kernel_rfl) (by kernel_rfl) (by kernel_rfl) (by kernel_rfl) (by exact fun _ _ _ h => h) (Or.inl ⟨by rfl, ?_⟩) (by assumption) ?_
      rotate_left
      · intro w hSw; (try dsimp only at hSw); go_simp; try with_reducible rfl
      try simp only [Act.put, List.setIfInBounds_toArray, List.set_cons_zero, List.set_cons_succ]
      refine anyT_take (i := 17) (v := ?_) (by simp only [List.getElem?_toArray, List.getElem?_cons_succ, List.getElem?_cons_zero]; rfl) (by kernel_rfl) (by kernel_rfl) (by kernel_rfl) (by kernel_rfl) (by exact fun _ _ _ h => h) (Or.inl ⟨by rfl, ?_⟩) (by assumption) ?_
      rotate_left
      · intro w hSw; (try dsimp only at hSw); go_simp; try with_reducible rfl
      try simp only [Act.put, List.setIfInBounds_toArray, List.set_cons_zero, List.set_cons_succ]
      refine anyT_take (i := 18) (v := ?_) (by simp only [List.getElem?_toArray, List.getElem?_cons_succ, List.getElem?_cons_zero]; rfl) (by kernel_rfl) (by kernel_rfl) (by kernel_rfl) (by kernel_rfl) (by exact fun _ _ _ h => h) (Or.inl ⟨by rfl, ?_⟩) (by assumption) ?_
      rotate_left
      · intro w hSw; (try dsimp only at hSw); go_simp; try with_reducible rfl
      try simp only [Act.put, List.setIfInBounds_toArray, List.set_cons_zero, List.set_cons_succ]
      refine anyT_take (i := 19) (v := ?_) (by simp only [List.getElem?_toArray, List.getElem?_cons_succ, List.getElem?_cons_zero]; rfl) (by kernel_rfl) (by kernel_rfl) (by kernel_rfl) (by kernel_rfl) (by exact fun _ _ _ h => h) (Or.inl ⟨by rfl, ?_⟩) (by assumption) ?_
      rotate_left
      · intro w hSw; (try dsimp only at hSw); go_simp; try with_reducible rfl
      try simp only [Act.put, List.setIfInBounds_toArray, List.set_cons_zero, List.set_cons_succ]
      refine anyT_take (i := 20) (v := ?_) (by simp only [List.getElem?_toArray, List.getElem?_cons_succ, List.getElem?_cons_zero]; rfl) (by kernel_rfl) (by kernel_rfl) (by kernel_rfl) (by kernel_rfl) (by exact fun _ _ _ h => h) (Or.inl ⟨by rfl, ?_⟩) (by assumption) ?_
      rotate_left
      · intro w hSw; (try dsimp only at hSw); go_simp; try with_reducible rfl
      try simp only [Act.put, List.setIfInBounds_toArray, List.set_cons_zero, List.set_cons_succ]
      refine anyT_take (i := 21) (v := ?_) (by simp only [List.getElem?_toArray, List.getElem?_cons_succ, List.getElem?_cons_zero]; rfl) (by kernel_rfl) (by kernel_rfl) (by kernel_rfl) (by kernel_rfl) (by exact fun _ _ _ h => h) (Or.inl ⟨by rfl, ?_⟩) (by assumption) ?_
      rotate_left
      · intro w hSw; (try dsimp only at hSw); go_simp; try with_reducible rfl
      try simp only [Act.put, List.setIfInBounds_toArray, List.set_cons_zero, List.set_cons_succ]
      refine anyT_take (i := 22) (v := ?_) (by simp only [List.getElem?_toArray, List.getElem?_cons_succ, List.getElem?_cons_zero]; rfl) (by kernel_rfl) (by kernel_rfl) (by kernel_rfl) (by kernel_rfl) (by exact fun _ _ _ h => h) (Or.inl ⟨by rfl, ?_⟩) (by assumption) ?_
      rotate_left
      · intro w hSw; (try dsimp only at hSw); go_simp; try with_reducible rfl
      try simp only [Act.put, List.setIfInBounds_toArray, List.set_cons_zero, List.set_cons_succ]
      refine anyT_ready (rs := [23]) (by kernel_rfl) (by simp) (ReadyT.cons (by simp only [List.getElem?_toArray, List.getElem?_cons_succ, List.getElem?_cons_zero]; rfl) (fun K hK => ?_) ReadyT.nil)
      go_simp
      go_at_call 25
      (with_reducible refine (ref2_Shl _ _ _ _ k _ (D4.to (by with_reducible repeat (first | exact Below.refl _ _ | refine nxa ?_ _ | refine nxd ?_ _ | refine nxw ?_ | refine nx ?_ (by assumption)))) (by omega) (by omega)).mono ?_)
      rintro e w8 ⟨A8, n8, c8, rfl, h8, hb8, hf8⟩
      have l8 := ref_len h8 (shl_fit' (m := 1025) h2.lt (by omega))
      go_simp
      refine hK.out _ _ (KP3 _ (by with_reducible repeat (first | exact Below.refl _ _ | refine nxa ?_ _ | refine nxd ?_ _ | refine nxw ?_ | refine nx ?_ (by assumption)))) (fun hHeld => ?_)
      clear hK K
      try simp only [Act.put, List.setIfInBounds_toArray, List.set_cons_zero, List.set_cons_succ]
      refine anyT_ready (rs := [24]) (by kernel_rfl) (by simp) (ReadyT.cons (by simp only [List.getElem?_toArray, List.getElem?_cons_succ, List.getElem?_cons_zero]; rfl) (fun K hK => ?_) ReadyT.nil)
      go_simp
      go_at_call 19
      (with_reducible refine (law_Like _ _ _ _ _ _ _ _ (h7.to (by with_reducible repeat (first | exact Below.refl _ _ | refine nxa ?_ _ | refine nxd ?_ _ | refine nxw ?_ | refine nx ?_ (by assumption)))) (h8.to (by with_reducible repeat (first | exact Below.refl _ _ | refine nxa ?_ _ | refine nxd ?_ _ | refine nxw ?_ | refine nx ?_ (by assumption)))) (by omega) (by omega)).mono ?_)
      rintro e w9 ⟨rfl, hb9⟩
      go_simp
      refine hK.out _ _ (KP3 _ (by with_reducible repeat (first | exact Below.refl _ _ | refine nxa ?_ _ | refine nxd ?_ _ | refine nxw ?_ | refine nx ?_ (by assumption)))) (fun hHeld => ?_)
      clear hK K
      try simp only [Act.put, List.setIfInBounds_toArray, List.set_cons_zero, List.set_cons_succ]
      refine anyT_take (i := 25) (v := ?_) (by simp only [List.getElem?_toArray, List.getElem?_cons_succ, List.getElem?_cons_zero]; rfl) (by kernel_rfl) (by kernel_rfl) (by kernel_rfl) (by kernel_rfl) (by exact fun _ _ _ h => h) (Or.inl ⟨by rfl, ?_⟩) (by assumption) ?_
      rotate_left
      · intro w hSw; (try dsimp only at hSw); go_simp; try with_reducible rfl
      try simp only [Act.put, List.setIfInBounds_toArray, List.set_cons_zero, List.set_cons_succ]
      refine anyT_take (i := 26) (v := ?_) (by simp only [List.getElem?_toArray, List.getElem?_cons_succ, List.getElem?_cons_zero]; rfl) (by kernel_rfl) (by kernel_rfl) (by kernel_rfl) (by kernel_rfl) (by exact fun _ _ _ h => h) (Or.inl ⟨by rfl, ?_⟩) (by assumption) ?_
      rotate_left
      · intro w hSw; (try dsimp only at hSw); go_simp; try with_reducible rfl
      try simp only [Act.put, List.setIfInBounds_toArray, List.set_cons_zero, List.set_cons_succ]
      refine anyT_take (i := 27) (v := ?_) (by simp only [List.getElem?_toArray, List.getElem?_cons_succ, List.getElem?_cons_zero]; rfl) (by kernel_rfl) (by kernel_rfl) (by kernel_rfl) (by kernel_rfl) (by exact fun _ _ _ h => h) (Or.inl ⟨by rfl, ?_⟩) (by assumption) ?_
      rotate_left
      · intro w hSw; (try dsimp only at hSw); go_simp; try with_reducible rfl
      try simp only [Act.put, List.setIfInBounds_toArray, List.set_cons_zero, List.set_cons_succ]
      refine anyT_done (by kernel_rfl) ?_ _
      have d2 := (show Blk1 w9 _ _ _ from X1.to (by with_reducible repeat (first | exact Below.refl _ _ | refine nxa ?_ _ | refine nxd ?_ _ | refine nxw ?_ | refine nx ?_ (by assumption)))).cell
      go_wp2_with fail
      refine (nat_Shr _ _ _ _ k _ (h2.to (by with_reducible repeat (first | exact Below.refl _ _ | refine nxa ?_ _ | refine nxd ?_ _ | refine nxw ?_ | refine nx ?_ (by assumption)))) hk9 (by omega)).mono ?_
      rintro e w10 ⟨A10, n10, c10, rfl, h10, hb10⟩
      have q10 := h10.le_of n2 (Nat.lt_of_le_of_lt (Nat.div_le_self _ _) h2.lt)
      go_wp2_with fail
      refine (ref2_Shr _ _ _ _ k _ (D4.to (by with_reducible repeat (first | exact Below.refl _ _ | refine nxa ?_ _ | refine nxd ?_ _ | refine nxw ?_ | refine nx ?_ (by assumption)))) hk9 (by omega)).mono ?_
      rintro e w11 ⟨A11, n11, c11, rfl, h11, hb11, hf11⟩
      have l11 := ref_len (m := n2) h11 (Nat.lt_of_le_of_lt (Nat.div_le_self _ _) h2.lt)
      go_wp2_with fail
      refine (law_Like _ _ _ _ _ _ _ _ (h10.to (by with_reducible repeat (first | exact Below.refl _ _ | refine nxa ?_ _ | refine nxd ?_ _ | refine nxw ?_ | refine nx ?_ (by assumption)))) (h11.to (by with_reducible repeat (first | exact Below.refl _ _ | refine nxa ?_ _ | refine nxd ?_ _ | refine nxw ?_ | refine nx ?_ (by assumption)))) (by omega) (by omega)).mono ?_
      rintro e w12 ⟨rfl, hb12⟩
      have d3 := (show Blk1 w12 _ _ _ from X1.to (by with_reducible repeat (first | exact Below.refl _ _ | refine nxa ?_ _ | refine nxd ?_ _ | refine nxw ?_ | refine nx ?_ (by assumption)))).cell
      go_wp2_with fail
      refine (nat_Low _ _ _ _ k _ (h2.to (by with_reducible repeat (first | exact Below.refl _ _ | refine nxa ?_ _ | refine nxd ?_ _ | refine nxw ?_ | refine nx ?_ (by assumption)))) (by omega) (by omega)).mono ?_
      rintro e w13 ⟨A13, n13, c13, rfl, h13, hb13⟩
      have q13 := h13.le_of n2 (Nat.lt_of_le_of_lt (Nat.mod_le _ _) h2.lt)
      go_wp2_with fail
      refine (ref2_Low _ _ _ _ k _ (D4.to (by with_reducible repeat (first | exact Below.refl _ _ | refine nxa ?_ _ | refine nxd ?_ _ | refine nxw ?_ | refine nx ?_ (by assumption)))) hk9 (by omega)).mono ?_
      rintro e w14 ⟨A14, n14, c14, rfl, h14, hb14, hf14⟩
      have l14 := ref_len (m := n2) h14 (Nat.lt_of_le_of_lt (Nat.mod_le _ _) h2.lt)
      go_wp2_with fail
      refine (law_Like _ _ _ _ _ _ _ _ (h13.to (by with_reducible repeat (first | exact Below.refl _ _ | refine nxa ?_ _ | refine nxd ?_ _ | refine nxw ?_ | refine nx ?_ (by assumption)))) (h14.to (by with_reducible repeat (first | exact Below.refl _ _ | refine nxa ?_ _ | refine nxd ?_ _ | refine nxw ?_ | refine nx ?_ (by assumption)))) (by omega) (by omega)).mono ?_
      rintro e w15 ⟨rfl, hb15⟩
      go_wp2_with fail
      go_ret
      exact ⟨rfl, (by with_reducible repeat (first | exact Below.refl _ _ | refine nxa ?_ _ | refine nxd ?_ _ | refine nxw ?_ | refine nx ?_ (by assumption)))⟩
end Go.Proofs.Ytfalfbidcebmgaa
