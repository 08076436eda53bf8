/- The walk of 'NatSums'. -/
import Derived.Test.YtfalfbidcebmgaaAwake2
import Derived.Test.YtfalfbidcebmgaaLikeKit
import Derived.Test.YtfalfbidcebmgaaAny2
set_option linter.unusedVariables false
set_option linter.unusedSimpArgs false
namespace Go.Proofs.Ytfalfbidcebmgaa
open Go.RowKit
set_option maxRecDepth 100000
theorem cmp_sums (x y : Nat) : ∃ v : Int, cmpI x y = v ∧ ((v == v) = true) ∧ ((v != v) = false) ∧ (y ≤ x → 0 ≤ v) ∧ (x < y → ¬ 0 ≤ v) := by
  refine ⟨_, rfl, by simp, by simp, fun h => ?_, fun h => by rw [cmpI_lt h]; omega⟩
  rcases Nat.lt_or_ge y x with h1 | h1
  · rw [cmpI_gt h1]; omega
  · rw [cmpI_eq (by omega)]; omega
set_option maxHeartbeats 4000000 in
theorem law_NatSums (A n c x) (A' n' c' y) (w : World) (k1 : Dig .u64 W w A n c x) (k2 : Dig .u64 W w A' n' c' y) (r1 : n ≤ 1048576) (r2 : n' ≤ 1048576) :
    Calls Try.prog 3 #[.slice A n c, .slice A' n' c'] w (Ret w (.bool true)) := by
  go_enter Try.func3, Try.ntmps3
  go_wp2_with fail
  refine (awake2 _).mono ?_
  rintro e w1 ⟨rfl, hb1⟩
  go_wp2_with fail
  refine (nat_Of _ _ _ _ _ (k1.to (by with_reducible repeat (first | exact Below.refl _ _ | refine nxa ?_ _ | refine nxd ?_ _ | refine nxw ?_ | refine nx ?_ (by assumption)))) (by omega)).mono ?_
  rintro e w2 ⟨A2, n2, c2, rfl, h2, hb2, m2⟩
  go_wp2_with fail
  refine (nat_Of _ _ _ _ _ (k2.to (by with_reducible repeat (first | exact Below.refl _ _ | refine nxa ?_ _ | refine nxd ?_ _ | refine nxw ?_ | refine nx ?_ (by assumption)))) (by omega)).mono ?_
  rintro e w3 ⟨A3, n3, c3, rfl, h3, hb3, m3⟩
  have X1 := Blk1.newAt w3 (w3.heap.size) 25 (.slice A2 n2 c2) (by simp)
  have X2 := Blk1.newAt (w3.alloc (.cells #[.slice A2 n2 c2] 25)) (w3.heap.size + 1) 25 (.slice A3 n3 c3) (by simp)
  replace X1 := (show Blk1 ((w3.alloc (.cells #[.slice A2 n2 c2] 25)).alloc (.cells #[.slice A3 n3 c3] 25)) _ _ _ from X1.to (by with_reducible repeat (first | exact Below.refl _ _ | refine nxa ?_ _ | refine nxd ?_ _ | refine nxw ?_ | refine nx ?_ (by assumption))))
  replace X2 := (show Blk1 ((w3.alloc (.cells #[.slice A2 n2 c2] 25)).alloc (.cells #[.slice A3 n3 c3] 25)) _ _ _ from X2.to (by with_reducible repeat (first | exact Below.refl _ _ | refine nxa ?_ _ | refine nxd ?_ _ | refine nxw ?_ | refine nx ?_ (by assumption))))
  have hbwe : Below w3.heap.size w3 ((w3.alloc (.cells #[.slice A2 n2 c2] 25)).alloc (.cells #[.slice A3 n3 c3] 25)) := (by with_reducible repeat (first | exact Below.refl _ _ | refine nxa ?_ _ | refine nxd ?_ _ | refine nxw ?_ | refine nx ?_ (by assumption)))
  go_wp2_with fail
  generalize ((w3.alloc (.cells #[.slice A2 n2 c2] 25)).alloc (.cells #[.slice A3 n3 c3] 25)) = we at X1 X2 hbwe ⊢
  refine (ref2_Of _ _ _ _ _ (k1.to (by with_reducible repeat (first | exact Below.refl _ _ | refine nxa ?_ _ | refine nxd ?_ _ | refine nxw ?_ | refine nx ?_ (by assumption)))) (by omega)).mono ?_
  rintro e w4 ⟨A4, n4, c4, rfl, h4, hb4, hf4⟩
  have l4 := ref_len h4 h2.lt
  go_wp2_with fail
  refine (ref2_Of _ _ _ _ _ (k2.to (by with_reducible repeat (first | exact Below.refl _ _ | refine nxa ?_ _ | refine nxd ?_ _ | refine nxw ?_ | refine nx ?_ (by assumption)))) (by omega)).mono ?_
  rintro e w5 ⟨A5, n5, c5, rfl, h5, hb5, hf5⟩
  have l5 := ref_len h5 h3.lt
  have CI := cmp_sums x y
  obtain ⟨v, hv, v1, v2, v3, v4⟩ := CI
  have HV := Lib.hid hv
  clear hv
  go_wp2_with fail
  refine (ref2_Cmp _ _ _ _ _ _ _ _ _ (h4.to (by with_reducible repeat (first | exact Below.refl _ _ | refine nxa ?_ _ | refine nxd ?_ _ | refine nxw ?_ | refine nx ?_ (by assumption)))) (h5.to (by with_reducible repeat (first | exact Below.refl _ _ | refine nxa ?_ _ | refine nxd ?_ _ | refine nxw ?_ | refine nx ?_ (by assumption))))).mono ?_
  rw [HV.out]
  rintro e w6 ⟨rfl, hb6⟩
  have d1 := (show Blk1 w6 _ _ _ from X1.to (by with_reducible repeat (first | exact Below.refl _ _ | refine nxa ?_ _ | refine nxd ?_ _ | refine nxw ?_ | refine nx ?_ (by assumption)))).cell
  have d2 := (show Blk1 w6 _ _ _ from X2.to (by with_reducible repeat (first | exact Below.refl _ _ | refine nxa ?_ _ | refine nxd ?_ _ | refine nxw ?_ | refine nx ?_ (by assumption)))).cell
  go_wp2_with fail
  refine (nat_Sub _ _ _ _ _ _ _ _ _ (h2.to (by with_reducible repeat (first | exact Below.refl _ _ | refine nxa ?_ _ | refine nxd ?_ _ | refine nxw ?_ | refine nx ?_ (by assumption)))) (h3.to (by with_reducible repeat (first | exact Below.refl _ _ | refine nxa ?_ _ | refine nxd ?_ _ | refine nxw ?_ | refine nx ?_ (by assumption)))) (by omega)).mono ?_
  rintro e w7 ⟨A7, n7, c7, rfl, h7, hb7⟩
  have q7 := h7.le_of _ (Nat.lt_of_le_of_lt (Nat.sub_le x y) h2.lt)
  clear d1 d2
  have X3 := Blk1.new w7 25 (.slice A7 n7 c7)
  replace X1 := (show Blk1 (w7.alloc (.cells #[.slice A7 n7 c7] 25)) _ _ _ from X1.to (by with_reducible repeat (first | exact Below.refl _ _ | refine nxa ?_ _ | refine nxd ?_ _ | refine nxw ?_ | refine nx ?_ (by assumption))))
  replace X2 := (show Blk1 (w7.alloc (.cells #[.slice A7 n7 c7] 25)) _ _ _ from X2.to (by with_reducible repeat (first | exact Below.refl _ _ | refine nxa ?_ _ | refine nxd ?_ _ | refine nxw ?_ | refine nx ?_ (by assumption))))
  skip
  have d1 := X1.cell
  have d2 := X2.cell
  rcases Nat.lt_or_ge x y with hxy | hxy
  · have b1 := v4 hxy
    have D0 := Lib.hid (show decide (y ≤ x) = false by simp; omega)
    rw [D0.out]
    clear v3 v4
    go_wp2_with fail
    refine (nat_Cmp _ _ _ _ _ _ _ _ _ (h2.to (by with_reducible repeat (first | exact Below.refl _ _ | refine nxa ?_ _ | refine nxd ?_ _ | refine nxw ?_ | refine nx ?_ (by assumption)))) (h3.to (by with_reducible repeat (first | exact Below.refl _ _ | refine nxa ?_ _ | refine nxd ?_ _ | refine nxw ?_ | refine nx ?_ (by assumption))))).mono ?_
    rw [HV.out]
    rintro e w8 ⟨rfl, hb8⟩
    have d3 := (show Blk1 w8 _ _ _ from X1.to (by with_reducible repeat (first | exact Below.refl _ _ | refine nxa ?_ _ | refine nxd ?_ _ | refine nxw ?_ | refine nx ?_ (by assumption)))).cell
    have d4 := (show Blk1 w8 _ _ _ from X2.to (by with_reducible repeat (first | exact Below.refl _ _ | refine nxa ?_ _ | refine nxd ?_ _ | refine nxw ?_ | refine nx ?_ (by assumption)))).cell
    go_wp2_with fail
    refine (nat_Add _ _ _ _ _ _ _ _ _ (h2.to (by with_reducible repeat (first | exact Below.refl _ _ | refine nxa ?_ _ | refine nxd ?_ _ | refine nxw ?_ | refine nx ?_ (by assumption)))) (h3.to (by with_reducible repeat (first | exact Below.refl _ _ | refine nxa ?_ _ | refine nxd ?_ _ | refine nxw ?_ | refine nx ?_ (by assumption)))) (by omega) (by omega)).mono ?_
    rintro e w9 ⟨A9, n9, c9, rfl, h9, hb9⟩
    have q9 := h9.le_of _ (add_lt h2.lt h3.lt)
    go_wp2_with fail
    refine (ref2_Add _ _ _ _ _ _ _ _ _ (h4.to (by with_reducible repeat (first | exact Below.refl _ _ | refine nxa ?_ _ | refine nxd ?_ _ | refine nxw ?_ | refine nx ?_ (by assumption)))) (h5.to (by with_reducible repeat (first | exact Below.refl _ _ | refine nxa ?_ _ | refine nxd ?_ _ | refine nxw ?_ | refine nx ?_ (by assumption)))) (by omega) (by omega)).mono ?_
    rintro e w10 ⟨A10, n10, c10, rfl, h10, hb10, hf10⟩
    have l10 := ref_len h10 (add_lt h2.lt h3.lt)
    go_wp2_with fail
    refine (law_Like _ _ _ _ _ _ _ _ (h9.to (by with_reducible repeat (first | exact Below.refl _ _ | refine nxa ?_ _ | refine nxd ?_ _ | refine nxw ?_ | refine nx ?_ (by assumption)))) (h10.to (by with_reducible repeat (first | exact Below.refl _ _ | refine nxa ?_ _ | refine nxd ?_ _ | refine nxw ?_ | refine nx ?_ (by assumption)))) (by omega) (by omega)).mono ?_
    rintro e w11 ⟨rfl, hb11⟩
    have d5 := (show Blk1 w11 _ _ _ from X3.to (by with_reducible repeat (first | exact Below.refl _ _ | refine nxa ?_ _ | refine nxd ?_ _ | refine nxw ?_ | refine nx ?_ (by assumption)))).cell
    have Z := Lib.hid (show decide (x - y = 0) = true by simp; omega)
    go_wp2_with fail
    refine (nat_Zero _ _ _ _ _ (h7.to (by with_reducible repeat (first | exact Below.refl _ _ | refine nxa ?_ _ | refine nxd ?_ _ | refine nxw ?_ | refine nx ?_ (by assumption))))).mono ?_
    rw [Z.out]
    rintro e w12 ⟨rfl, hb12⟩
    go_wp2_with fail
    go_ret
    exact ⟨rfl, (by with_reducible repeat (first | exact Below.refl _ _ | refine nxa ?_ _ | refine nxd ?_ _ | refine nxw ?_ | refine nx ?_ (by assumption)))⟩
  · have b1 := v3 hxy
    have D0 := Lib.hid (show decide (y ≤ x) = true by simp; omega)
    rw [D0.out]
    clear v3 v4
    go_wp2_with fail
    refine (nat_Cmp _ _ _ _ _ _ _ _ _ (h2.to (by with_reducible repeat (first | exact Below.refl _ _ | refine nxa ?_ _ | refine nxd ?_ _ | refine nxw ?_ | refine nx ?_ (by assumption)))) (h3.to (by with_reducible repeat (first | exact Below.refl _ _ | refine nxa ?_ _ | refine nxd ?_ _ | refine nxw ?_ | refine nx ?_ (by assumption))))).mono ?_
    rw [HV.out]
    rintro e w8 ⟨rfl, hb8⟩
    have d3 := (show Blk1 w8 _ _ _ from X1.to (by with_reducible repeat (first | exact Below.refl _ _ | refine nxa ?_ _ | refine nxd ?_ _ | refine nxw ?_ | refine nx ?_ (by assumption)))).cell
    have d4 := (show Blk1 w8 _ _ _ from X2.to (by with_reducible repeat (first | exact Below.refl _ _ | refine nxa ?_ _ | refine nxd ?_ _ | refine nxw ?_ | refine nx ?_ (by assumption)))).cell
    go_wp2_with fail
    refine (nat_Add _ _ _ _ _ _ _ _ _ (h2.to (by with_reducible repeat (first | exact Below.refl _ _ | refine nxa ?_ _ | refine nxd ?_ _ | refine nxw ?_ | refine nx ?_ (by assumption)))) (h3.to (by with_reducible repeat (first | exact Below.refl _ _ | refine nxa ?_ _ | refine nxd ?_ _ | refine nxw ?_ | refine nx ?_ (by assumption)))) (by omega) (by omega)).mono ?_
    rintro e w9 ⟨A9, n9, c9, rfl, h9, hb9⟩
    have q9 := h9.le_of _ (add_lt h2.lt h3.lt)
    go_wp2_with fail
    refine (ref2_Add _ _ _ _ _ _ _ _ _ (h4.to (by with_reducible repeat (first | exact Below.refl _ _ | refine nxa ?_ _ | refine nxd ?_ _ | refine nxw ?_ | refine nx ?_ (by assumption)))) (h5.to (by with_reducible repeat (first | exact Below.refl _ _ | refine nxa ?_ _ | refine nxd ?_ _ | refine nxw ?_ | refine nx ?_ (by assumption)))) (by omega) (by omega)).mono ?_
    rintro e w10 ⟨A10, n10, c10, rfl, h10, hb10, hf10⟩
    have l10 := ref_len h10 (add_lt h2.lt h3.lt)
    go_wp2_with fail
    refine (law_Like _ _ _ _ _ _ _ _ (h9.to (by with_reducible repeat (first | exact Below.refl _ _ | refine nxa ?_ _ | refine nxd ?_ _ | refine nxw ?_ | refine nx ?_ (by assumption)))) (h10.to (by with_reducible repeat (first | exact Below.refl _ _ | refine nxa ?_ _ | refine nxd ?_ _ | refine nxw ?_ | refine nx ?_ (by assumption)))) (by omega) (by omega)).mono ?_
    rintro e w11 ⟨rfl, hb11⟩
    have h4s : NumAt .i64 65536 w4 A4 n4 c4 (x - y + y) := by rw [Nat.sub_add_cancel hxy]; exact h4
    replace X1 := (show Blk1 w11 _ _ _ from X1.to (by with_reducible repeat (first | exact Below.refl _ _ | refine nxa ?_ _ | refine nxd ?_ _ | refine nxw ?_ | refine nx ?_ (by assumption))))
    replace X2 := (show Blk1 w11 _ _ _ from X2.to (by with_reducible repeat (first | exact Below.refl _ _ | refine nxa ?_ _ | refine nxd ?_ _ | refine nxw ?_ | refine nx ?_ (by assumption))))
    replace X3 := (show Blk1 w11 _ _ _ from X3.to (by with_reducible repeat (first | exact Below.refl _ _ | refine nxa ?_ _ | refine nxd ?_ _ | refine nxw ?_ | refine nx ?_ (by assumption))))
    clear d1 d2 d3 d4
    go_wp2_with fail
    have CX3 := (show Blk1 w11 _ _ _ from X3.to (by with_reducible repeat (first | exact Below.refl _ _ | refine nxa ?_ _ | refine nxd ?_ _ | refine nxw ?_ | refine nx ?_ (by assumption)))).cell
    have CX1 := (show Blk1 w11 _ _ _ from X1.to (by with_reducible repeat (first | exact Below.refl _ _ | refine nxa ?_ _ | refine nxd ?_ _ | refine nxw ?_ | refine nx ?_ (by assumption)))).cell
    have CX2 := (show Blk1 w11 _ _ _ from X2.to (by with_reducible repeat (first | exact Below.refl _ _ | refine nxa ?_ _ | refine nxd ?_ _ | refine nxw ?_ | refine nx ?_ (by assumption)))).cell
    have KP1 : ∀ w', Below w11.heap.size w11 w' → w'.cell? ⟨w7.heap.size, 0, none⟩ = some (.slice A7 n7 c7) ∧ w'.cell? ⟨w3.heap.size, 0, none⟩ = some (.slice A2 n2 c2) ∧ w'.cell? ⟨w3.heap.size + 1, 0, none⟩ = some (.slice A3 n3 c3) ∧ True := fun w' hw' => ⟨cellB hw' CX3, cellB hw' CX1, cellB hw' CX2, trivial⟩
    refine wp_regionT (S := fun w' => w'.cell? ⟨w7.heap.size, 0, none⟩ = some (.slice A7 n7 c7) ∧ w'.cell? ⟨w3.heap.size, 0, none⟩ = some (.slice A2 n2 c2) ∧ w'.cell? ⟨w3.heap.size + 1, 0, none⟩ = some (.slice A3 n3 c3) ∧ True) [] (by kernel_rfl) (KP1 _ (by with_reducible repeat (first | exact Below.refl _ _ | refine nxa ?_ _ | refine nxd ?_ _ | refine nxw ?_ | refine nx ?_ (by assumption)))) (fun hHeld => ?_)
    have hbd1 : Below w11.heap.size w11 w11.drew := nxw (Below.refl _ _)
    generalize w11.drew = wd1 at hHeld hbd1 ⊢
    refine anyT_take (i := 0) (v := ?_) (by simp only [List.getElem?_toArray, List.getElem?_cons_succ, List.getElem?_cons_zero]; rfl) (by kernel_rfl) (by kernel_rfl) (by kernel_rfl) (by kernel_rfl) (by exact fun _ _ _ h => h) (Or.inl ⟨by rfl, ?_⟩) (by assumption) ?_
    rotate_left
    · intro w hSw; (try dsimp only at hSw); go_simp; try with_reducible rfl
    try simp only [Act.put, List.setIfInBounds_toArray, List.set_cons_zero, List.set_cons_succ]
    refine anyT_take (i := 1) (v := ?_) (by simp only [List.getElem?_toArray, List.getElem?_cons_succ, List.getElem?_cons_zero]; rfl) (by kernel_rfl) (by kernel_rfl) (by kernel_rfl) (by kernel_rfl) (by exact fun _ _ _ h => h) (Or.inl ⟨by rfl, ?_⟩) (by assumption) ?_
    rotate_left
    · intro w hSw; (try dsimp only at hSw); go_simp; try with_reducible rfl
    try simp only [Act.put, List.setIfInBounds_toArray, List.set_cons_zero, List.set_cons_succ]
    refine anyT_take (i := 2) (v := ?_) (by simp only [List.getElem?_toArray, List.getElem?_cons_succ, List.getElem?_cons_zero]; rfl) (by kernel_rfl) (by kernel_rfl) (by kernel_rfl) (by kernel_rfl) (by exact fun _ _ _ h => h) (Or.inl ⟨by rfl, ?_⟩) (by assumption) ?_
    rotate_left
    · intro w hSw; (try dsimp only at hSw); go_simp; try with_reducible rfl
    try simp only [Act.put, List.setIfInBounds_toArray, List.set_cons_zero, List.set_cons_succ]
    refine anyT_ready (rs := [3]) (by kernel_rfl) (by simp) (ReadyT.cons (by simp only [List.getElem?_toArray, List.getElem?_cons_succ, List.getElem?_cons_zero]; rfl) (fun K hK => ?_) ReadyT.nil)
    go_simp
    go_at_call 23
    (with_reducible refine (ref2_Sub _ _ _ (x - y) _ _ _ _ _ (h4s.to (by with_reducible repeat (first | exact Below.refl _ _ | refine nxa ?_ _ | refine nxd ?_ _ | refine nxw ?_ | refine nx ?_ (by assumption)))) (h5.to (by with_reducible repeat (first | exact Below.refl _ _ | refine nxa ?_ _ | refine nxd ?_ _ | refine nxw ?_ | refine nx ?_ (by assumption)))) (by omega)).mono ?_)
    rintro e w12 ⟨A12, n12, c12, rfl, h12, hb12, hf12⟩
    have l12 := ref_len h12 (Nat.lt_of_le_of_lt (Nat.sub_le x y) h2.lt)
    go_simp
    refine hK.out _ _ (KP1 _ (by with_reducible repeat (first | exact Below.refl _ _ | refine nxa ?_ _ | refine nxd ?_ _ | refine nxw ?_ | refine nx ?_ (by assumption)))) (fun hHeld => ?_)
    clear hK K
    try simp only [Act.put, List.setIfInBounds_toArray, List.set_cons_zero, List.set_cons_succ]
    refine anyT_ready (rs := [4]) (by kernel_rfl) (by simp) (ReadyT.cons (by simp only [List.getElem?_toArray, List.getElem?_cons_succ, List.getElem?_cons_zero]; rfl) (fun K hK => ?_) ReadyT.nil)
    go_simp
    go_at_call 19
    (with_reducible refine (law_Like _ _ _ _ _ _ _ _ (h7.to (by with_reducible repeat (first | exact Below.refl _ _ | refine nxa ?_ _ | refine nxd ?_ _ | refine nxw ?_ | refine nx ?_ (by assumption)))) (h12.to (by with_reducible repeat (first | exact Below.refl _ _ | refine nxa ?_ _ | refine nxd ?_ _ | refine nxw ?_ | refine nx ?_ (by assumption)))) (by omega) (by omega)).mono ?_)
    rintro e w13 ⟨rfl, hb13⟩
    go_simp
    refine hK.out _ _ (KP1 _ (by with_reducible repeat (first | exact Below.refl _ _ | refine nxa ?_ _ | refine nxd ?_ _ | refine nxw ?_ | refine nx ?_ (by assumption)))) (fun hHeld => ?_)
    clear hK K
    try simp only [Act.put, List.setIfInBounds_toArray, List.set_cons_zero, List.set_cons_succ]
    refine anyT_take (i := 5) (v := ?_) (by simp only [List.getElem?_toArray, List.getElem?_cons_succ, List.getElem?_cons_zero]; rfl) (by kernel_rfl) (by kernel_rfl) (by kernel_rfl) (by kernel_rfl) (by exact fun _ _ _ h => h) (Or.inl ⟨by rfl, ?_⟩) (by assumption) ?_
    rotate_left
    · intro w hSw; (try dsimp only at hSw); go_simp; try with_reducible rfl
    try simp only [Act.put, List.setIfInBounds_toArray, List.set_cons_zero, List.set_cons_succ]
    refine anyT_take (i := 6) (v := ?_) (by simp only [List.getElem?_toArray, List.getElem?_cons_succ, List.getElem?_cons_zero]; rfl) (by kernel_rfl) (by kernel_rfl) (by kernel_rfl) (by kernel_rfl) (by exact fun _ _ _ h => h) (Or.inl ⟨by rfl, ?_⟩) (by assumption) ?_
    rotate_left
    · intro w hSw; (try dsimp only at hSw); go_simp; try with_reducible rfl
    try simp only [Act.put, List.setIfInBounds_toArray, List.set_cons_zero, List.set_cons_succ]
    refine anyT_take (i := 7) (v := ?_) (by simp only [List.getElem?_toArray, List.getElem?_cons_succ, List.getElem?_cons_zero]; rfl) (by kernel_rfl) (by kernel_rfl) (by kernel_rfl) (by kernel_rfl) (by exact fun _ _ _ h => h) (Or.inl ⟨by rfl, ?_⟩) (by assumption) ?_
    rotate_left
    · intro w hSw; (try dsimp only at hSw); go_simp; try with_reducible rfl
    try simp only [Act.put, List.setIfInBounds_toArray, List.set_cons_zero, List.set_cons_succ]
    refine anyT_ready (rs := [8]) (by kernel_rfl) (by simp) (ReadyT.cons (by simp only [List.getElem?_toArray, List.getElem?_cons_succ, List.getElem?_cons_zero]; rfl) (fun K hK => ?_) ReadyT.nil)
    go_simp
    go_at_call 19
    (with_reducible refine (law_Like _ _ _ _ _ _ _ _ (h2.to (by with_reducible repeat (first | exact Below.refl _ _ | refine nxa ?_ _ | refine nxd ?_ _ | refine nxw ?_ | refine nx ?_ (by assumption)))) (h4.to (by with_reducible repeat (first | exact Below.refl _ _ | refine nxa ?_ _ | refine nxd ?_ _ | refine nxw ?_ | refine nx ?_ (by assumption)))) (by omega) (by omega)).mono ?_)
    rintro e w14 ⟨rfl, hb14⟩
    go_simp
    refine hK.out _ _ (KP1 _ (by with_reducible repeat (first | exact Below.refl _ _ | refine nxa ?_ _ | refine nxd ?_ _ | refine nxw ?_ | refine nx ?_ (by assumption)))) (fun hHeld => ?_)
    clear hK K
    try simp only [Act.put, List.setIfInBounds_toArray, List.set_cons_zero, List.set_cons_succ]
    refine anyT_take (i := 9) (v := ?_) (by simp only [List.getElem?_toArray, List.getElem?_cons_succ, List.getElem?_cons_zero]; rfl) (by kernel_rfl) (by kernel_rfl) (by kernel_rfl) (by kernel_rfl) (by exact fun _ _ _ h => h) (Or.inl ⟨by rfl, ?_⟩) (by assumption) ?_
    rotate_left
    · intro w hSw; (try dsimp only at hSw); go_simp; try with_reducible rfl
    try simp only [Act.put, List.setIfInBounds_toArray, List.set_cons_zero, List.set_cons_succ]
    refine anyT_take (i := 10) (v := ?_) (by simp only [List.getElem?_toArray, List.getElem?_cons_succ, List.getElem?_cons_zero]; rfl) (by kernel_rfl) (by kernel_rfl) (by kernel_rfl) (by kernel_rfl) (by exact fun _ _ _ h => h) (Or.inl ⟨by rfl, ?_⟩) (by assumption) ?_
    rotate_left
    · intro w hSw; (try dsimp only at hSw); go_simp; try with_reducible rfl
    try simp only [Act.put, List.setIfInBounds_toArray, List.set_cons_zero, List.set_cons_succ]
    refine anyT_take (i := 11) (v := ?_) (by simp only [List.getElem?_toArray, List.getElem?_cons_succ, List.getElem?_cons_zero]; rfl) (by kernel_rfl) (by kernel_rfl) (by kernel_rfl) (by kernel_rfl) (by exact fun _ _ _ h => h) (Or.inl ⟨by rfl, ?_⟩) (by assumption) ?_
    rotate_left
    · intro w hSw; (try dsimp only at hSw); go_simp; try with_reducible rfl
    try simp only [Act.put, List.setIfInBounds_toArray, List.set_cons_zero, List.set_cons_succ]
    refine anyT_take (i := 12) (v := ?_) (by simp only [List.getElem?_toArray, List.getElem?_cons_succ, List.getElem?_cons_zero]; rfl) (by kernel_rfl) (by kernel_rfl) (by kernel_rfl) (by kernel_rfl) (by exact fun _ _ _ h => h) (Or.inl ⟨by rfl, ?_⟩) (by assumption) ?_
    rotate_left
    · intro w hSw; (try dsimp only at hSw); go_simp; try with_reducible rfl
    try simp only [Act.put, List.setIfInBounds_toArray, List.set_cons_zero, List.set_cons_succ]
    refine anyT_ready (rs := [13]) (by kernel_rfl) (by simp) (ReadyT.cons (by simp only [List.getElem?_toArray, List.getElem?_cons_succ, List.getElem?_cons_zero]; rfl) (fun K hK => ?_) ReadyT.nil)
    go_simp
    go_at_call 19
    (with_reducible refine (law_Like _ _ _ _ _ _ _ _ (h3.to (by with_reducible repeat (first | exact Below.refl _ _ | refine nxa ?_ _ | refine nxd ?_ _ | refine nxw ?_ | refine nx ?_ (by assumption)))) (h5.to (by with_reducible repeat (first | exact Below.refl _ _ | refine nxa ?_ _ | refine nxd ?_ _ | refine nxw ?_ | refine nx ?_ (by assumption)))) (by omega) (by omega)).mono ?_)
    rintro e w15 ⟨rfl, hb15⟩
    go_simp
    refine hK.out _ _ (KP1 _ (by with_reducible repeat (first | exact Below.refl _ _ | refine nxa ?_ _ | refine nxd ?_ _ | refine nxw ?_ | refine nx ?_ (by assumption)))) (fun hHeld => ?_)
    clear hK K
    try simp only [Act.put, List.setIfInBounds_toArray, List.set_cons_zero, List.set_cons_succ]
    refine anyT_take (i := 14) (v := ?_) (by simp only [List.getElem?_toArray, List.getElem?_cons_succ, List.getElem?_cons_zero]; rfl) (by kernel_rfl) (by kernel_rfl) (by kernel_rfl) (by kernel_rfl) (by exact fun _ _ _ h => h) (Or.inl ⟨by rfl, ?_⟩) (by assumption) ?_
    rotate_left
    · intro w hSw; (try dsimp only at hSw); go_simp; try with_reducible rfl
    try simp only [Act.put, List.setIfInBounds_toArray, List.set_cons_zero, List.set_cons_succ]
    refine anyT_take (i := 15) (v := ?_) (by simp only [List.getElem?_toArray, List.getElem?_cons_succ, List.getElem?_cons_zero]; rfl) (by kernel_rfl) (by kernel_rfl) (by kernel_rfl) (by kernel_rfl) (by exact fun _ _ _ h => h) (Or.inl ⟨by rfl, ?_⟩) (by assumption) ?_
    rotate_left
    · intro w hSw; (try dsimp only at hSw); go_simp; try with_reducible rfl
    try simp only [Act.put, List.setIfInBounds_toArray, List.set_cons_zero, List.set_cons_succ]
    refine anyT_done (by kernel_rfl) ?_ _
    go_wp2_with fail
    go_ret
    exact ⟨rfl, (by with_reducible repeat (first | exact Below.refl _ _ | refine nxa ?_ _ | refine nxd ?_ _ | refine nxw ?_ | refine nx ?_ (by assumption)))⟩
end Go.Proofs.Ytfalfbidcebmgaa
