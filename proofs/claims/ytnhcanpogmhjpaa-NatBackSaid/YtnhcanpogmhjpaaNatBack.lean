/- The walk of 'NatBack'. -/
import Derived.Test.YtnhcanpogmhjpaaAwake2
namespace Go.Proofs.Ytnhcanpogmhjpaa
open Go.RowKit
set_option maxRecDepth 100000 in
set_option maxHeartbeats 4000000 in
theorem law_NatBack (A n c x A' n' c' y A'' n'' c'' z) (w : World) (k1 : Dig .u64 W w A n c x) (k2 : Dig .u64 W w A' n' c' y) (k3 : Dig .u64 W w A'' n'' c'' z)
    (r1 : n ≤ 17592186044400) (r2 : n' ≤ 17592186044400) (r3 : n'' ≤ 17592186044400) :
    Calls Try.prog 11 #[.slice A n c, .slice A' n' c', .slice A'' n'' c''] w (Ret w (.bool true)) := by
  go_enter Try.func11, Try.ntmps11
  go_wp2_with fail
  refine (awake2 _).mono ?_
  rintro e w1 ⟨rfl, hb1⟩
  go_wp2_with fail
  refine (nat_Of _ _ _ _ _ (k1.to (by with_reducible repeat (first | exact Below.refl _ _ | refine nxa ?_ _ | refine nxd ?_ _ | refine nxw ?_ | refine nx ?_ (by assumption)))) (by omega)).mono ?_
  rintro e w2 ⟨A2, n2, c2, rfl, h2, hb2, m2⟩
  go_wp2_with fail
  refine (nat_Of _ _ _ _ _ (k2.to (by with_reducible repeat (first | exact Below.refl _ _ | refine nxa ?_ _ | refine nxd ?_ _ | refine nxw ?_ | refine nx ?_ (by assumption)))) (by omega)).mono ?_
  rintro e w3 ⟨A3, n3, c3, rfl, h3, hb3, m3⟩
  go_wp2_with fail
  refine (nat_Of _ _ _ _ _ (k3.to (by with_reducible repeat (first | exact Below.refl _ _ | refine nxa ?_ _ | refine nxd ?_ _ | refine nxw ?_ | refine nx ?_ (by assumption)))) (by omega)).mono ?_
  rintro e w4 ⟨A4, n4, c4, rfl, h4, hb4, m4⟩
  have X1 := Blk1.newAt w4 (w4.heap.size) 43 (.slice A2 n2 c2) (by simp)
  have X2 := Blk1.newAt (w4.alloc (.cells #[.slice A2 n2 c2] 43)) (w4.heap.size + 1) 43 (.slice A3 n3 c3) (by simp)
  have X3 := Blk1.newAt ((w4.alloc (.cells #[.slice A2 n2 c2] 43)).alloc (.cells #[.slice A3 n3 c3] 43)) (w4.heap.size + 1 + 1) 43 (.slice A4 n4 c4) (by simp)
  have d1 := (show Blk1 (((w4.alloc (.cells #[.slice A2 n2 c2] 43)).alloc (.cells #[.slice A3 n3 c3] 43)).alloc (.cells #[.slice A4 n4 c4] 43)) _ _ _ from (X1.to (by with_reducible repeat (first | exact Below.refl _ _ | refine nxa ?_ _ | refine nxd ?_ _ | refine nxw ?_ | refine nx ?_ (by assumption))))).cell
  have d2 := (show Blk1 (((w4.alloc (.cells #[.slice A2 n2 c2] 43)).alloc (.cells #[.slice A3 n3 c3] 43)).alloc (.cells #[.slice A4 n4 c4] 43)) _ _ _ from (X2.to (by with_reducible repeat (first | exact Below.refl _ _ | refine nxa ?_ _ | refine nxd ?_ _ | refine nxw ?_ | refine nx ?_ (by assumption))))).cell
  go_wp2_with fail
  refine (nat_Add _ _ _ _ _ _ _ _ _ (h2.to (by with_reducible repeat (first | exact Below.refl _ _ | refine nxa ?_ _ | refine nxd ?_ _ | refine nxw ?_ | refine nx ?_ (by assumption)))) (h3.to (by with_reducible repeat (first | exact Below.refl _ _ | refine nxa ?_ _ | refine nxd ?_ _ | refine nxw ?_ | refine nx ?_ (by assumption)))) (by omega) (by omega)).mono ?_
  rintro e w5 ⟨A5, n5, c5, rfl, h5, hb5⟩
  have m5 := h5.le_of _ (add_lt h2.lt h3.lt)
  have X5 := Blk1.newAt w5 (w5.heap.size) 43 (.slice A5 n5 c5) (by simp)
  have d3 := (show Blk1 (w5.alloc (.cells #[.slice A5 n5 c5] 43)) _ _ _ from (X5.to (by with_reducible repeat (first | exact Below.refl _ _ | refine nxa ?_ _ | refine nxd ?_ _ | refine nxw ?_ | refine nx ?_ (by assumption))))).cell
  have d4 := (show Blk1 (w5.alloc (.cells #[.slice A5 n5 c5] 43)) _ _ _ from (X2.to (by with_reducible repeat (first | exact Below.refl _ _ | refine nxa ?_ _ | refine nxd ?_ _ | refine nxw ?_ | refine nx ?_ (by assumption))))).cell
  go_wp2_with fail
  refine (nat_Sub _ _ _ _ _ _ _ _ _ (h5.to (by with_reducible repeat (first | exact Below.refl _ _ | refine nxa ?_ _ | refine nxd ?_ _ | refine nxw ?_ | refine nx ?_ (by assumption)))) (h3.to (by with_reducible repeat (first | exact Below.refl _ _ | refine nxa ?_ _ | refine nxd ?_ _ | refine nxw ?_ | refine nx ?_ (by assumption)))) (by omega)).mono ?_
  rw [Nat.add_sub_cancel, show decide (y ≤ x + y) = true from by simp]
  rintro e w6 ⟨A6, n6, c6, rfl, h6, hb6⟩
  have X6 := Blk1.newAt w6 (w6.heap.size) 43 (.slice A6 n6 c6) (by simp)
  obtain ⟨v, hv, hv0⟩ : ∃ v, cmpI (x + y) x = v ∧ decide (v < 0) = false := ⟨_, rfl, by unfold cmpI; repeat' split <;> simp <;> omega⟩
  go_wp2_with fail
  go_region_held3 (fun w' => w'.cell? ⟨w4.heap.size, 0, none⟩ = some (.slice A2 n2 c2) ∧ w'.cell? ⟨w4.heap.size + 1, 0, none⟩ = some (.slice A3 n3 c3) ∧ w'.cell? ⟨w5.heap.size, 0, none⟩ = some (.slice A5 n5 c5) ∧ w'.cell? ⟨w6.heap.size, 0, none⟩ = some (.slice A6 n6 c6)) (first | (exact ⟨((X1.to (by with_reducible repeat (first | exact Below.refl _ _ | refine nxa ?_ _ | refine nxd ?_ _ | refine nxw ?_ | refine nx ?_ (by assumption))))).cell, ((X2.to (by with_reducible repeat (first | exact Below.refl _ _ | refine nxa ?_ _ | refine nxd ?_ _ | refine nxw ?_ | refine nx ?_ (by assumption))))).cell, ((X5.to (by with_reducible repeat (first | exact Below.refl _ _ | refine nxa ?_ _ | refine nxd ?_ _ | refine nxw ?_ | refine nx ?_ (by assumption))))).cell, ((X6.to (by with_reducible repeat (first | exact Below.refl _ _ | refine nxa ?_ _ | refine nxd ?_ _ | refine nxw ?_ | refine nx ?_ (by assumption))))).cell⟩) | go_keep)
    (first | (go_at_call 34; (with_reducible refine (nat_Cmp _ _ _ _ _ _ _ _ _ (h6.to (by with_reducible repeat (first | exact Below.refl _ _ | refine nxa ?_ _ | refine nxd ?_ _ | refine nxw ?_ | refine nx ?_ (by assumption)))) (h2.to (by with_reducible repeat (first | exact Below.refl _ _ | refine nxa ?_ _ | refine nxd ?_ _ | refine nxw ?_ | refine nx ?_ (by assumption))))).mono ?_); rw [cmp_eq]; rintro e w7 ⟨rfl, hb7⟩) | (go_at_call 34; (with_reducible refine (nat_Cmp _ _ _ _ _ _ _ _ _ (h5.to (by with_reducible repeat (first | exact Below.refl _ _ | refine nxa ?_ _ | refine nxd ?_ _ | refine nxw ?_ | refine nx ?_ (by assumption)))) (h2.to (by with_reducible repeat (first | exact Below.refl _ _ | refine nxa ?_ _ | refine nxd ?_ _ | refine nxw ?_ | refine nx ?_ (by assumption))))).mono ?_); rw [hv]; rintro e w8 ⟨rfl, hb8⟩) | (go_at_call 37; (with_reducible refine (nat_Add _ _ _ _ _ _ _ _ _ (h3.to (by with_reducible repeat (first | exact Below.refl _ _ | refine nxa ?_ _ | refine nxd ?_ _ | refine nxw ?_ | refine nx ?_ (by assumption)))) (h2.to (by with_reducible repeat (first | exact Below.refl _ _ | refine nxa ?_ _ | refine nxd ?_ _ | refine nxw ?_ | refine nx ?_ (by assumption)))) (by omega) (by omega)).mono ?_); rw [Nat.add_comm]; rintro e w9 ⟨A9, n9, c9, rfl, h9, hb9⟩) | (go_at_call 34; (with_reducible refine (nat_Cmp _ _ _ _ _ _ _ _ _ (h9.to (by with_reducible repeat (first | exact Below.refl _ _ | refine nxa ?_ _ | refine nxd ?_ _ | refine nxw ?_ | refine nx ?_ (by assumption)))) (h5.to (by with_reducible repeat (first | exact Below.refl _ _ | refine nxa ?_ _ | refine nxd ?_ _ | refine nxw ?_ | refine nx ?_ (by assumption))))).mono ?_); rw [cmp_eq]; rintro e w10 ⟨rfl, hb10⟩))
  go_wp2_with fail
  go_region_held3 (fun w' => w'.cell? ⟨w4.heap.size, 0, none⟩ = some (.slice A2 n2 c2) ∧ w'.cell? ⟨w4.heap.size + 1, 0, none⟩ = some (.slice A3 n3 c3) ∧ w'.cell? ⟨w4.heap.size + 1 + 1, 0, none⟩ = some (.slice A4 n4 c4) ∧ w'.cell? ⟨w5.heap.size, 0, none⟩ = some (.slice A5 n5 c5)) (first | (exact ⟨((X1.to (by with_reducible repeat (first | exact Below.refl _ _ | refine nxa ?_ _ | refine nxd ?_ _ | refine nxw ?_ | refine nx ?_ (by assumption))))).cell, ((X2.to (by with_reducible repeat (first | exact Below.refl _ _ | refine nxa ?_ _ | refine nxd ?_ _ | refine nxw ?_ | refine nx ?_ (by assumption))))).cell, ((X3.to (by with_reducible repeat (first | exact Below.refl _ _ | refine nxa ?_ _ | refine nxd ?_ _ | refine nxw ?_ | refine nx ?_ (by assumption))))).cell, ((X5.to (by with_reducible repeat (first | exact Below.refl _ _ | refine nxa ?_ _ | refine nxd ?_ _ | refine nxw ?_ | refine nx ?_ (by assumption))))).cell⟩) | go_keep)
    (first | (go_at_call 37; (with_reducible refine (nat_Add _ _ _ _ _ _ _ _ _ (h5.to (by with_reducible repeat (first | exact Below.refl _ _ | refine nxa ?_ _ | refine nxd ?_ _ | refine nxw ?_ | refine nx ?_ (by assumption)))) (h4.to (by with_reducible repeat (first | exact Below.refl _ _ | refine nxa ?_ _ | refine nxd ?_ _ | refine nxw ?_ | refine nx ?_ (by assumption)))) (by omega) (by omega)).mono ?_); rintro e w11 ⟨A11, n11, c11, rfl, h11, hb11⟩) | (go_at_call 37; (with_reducible refine (nat_Add _ _ _ _ _ _ _ _ _ (h3.to (by with_reducible repeat (first | exact Below.refl _ _ | refine nxa ?_ _ | refine nxd ?_ _ | refine nxw ?_ | refine nx ?_ (by assumption)))) (h4.to (by with_reducible repeat (first | exact Below.refl _ _ | refine nxa ?_ _ | refine nxd ?_ _ | refine nxw ?_ | refine nx ?_ (by assumption)))) (by omega) (by omega)).mono ?_); rintro e w12 ⟨A12, n12, c12, rfl, h12, hb12⟩; have m12 := h12.le_of _ (add_lt h3.lt h4.lt)) | (go_at_call 37; (with_reducible refine (nat_Add _ _ _ _ _ _ _ _ _ (h2.to (by with_reducible repeat (first | exact Below.refl _ _ | refine nxa ?_ _ | refine nxd ?_ _ | refine nxw ?_ | refine nx ?_ (by assumption)))) (h12.to (by with_reducible repeat (first | exact Below.refl _ _ | refine nxa ?_ _ | refine nxd ?_ _ | refine nxw ?_ | refine nx ?_ (by assumption)))) (by omega) (by omega)).mono ?_); rintro e w13 ⟨A13, n13, c13, rfl, h13, hb13⟩) | (go_at_call 34; (with_reducible refine (nat_Cmp _ _ _ _ _ _ _ _ _ (h11.to (by with_reducible repeat (first | exact Below.refl _ _ | refine nxa ?_ _ | refine nxd ?_ _ | refine nxw ?_ | refine nx ?_ (by assumption)))) (h13.to (by with_reducible repeat (first | exact Below.refl _ _ | refine nxa ?_ _ | refine nxd ?_ _ | refine nxw ?_ | refine nx ?_ (by assumption))))).mono ?_); rw [Nat.add_assoc, cmp_eq]; rintro e w14 ⟨rfl, hb14⟩))
  go_wp2_with fail
  go_ret
  exact ⟨rfl, (by with_reducible repeat (first | exact Below.refl _ _ | refine nxa ?_ _ | refine nxd ?_ _ | refine nxw ?_ | refine nx ?_ (by assumption)))⟩
end Go.Proofs.Ytnhcanpogmhjpaa
