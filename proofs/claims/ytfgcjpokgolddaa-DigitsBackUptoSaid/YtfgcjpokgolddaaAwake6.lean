/- The document's examples of layer 6. -/
import Derived.Test.YtfgcjpokgolddaaDig5
set_option linter.unusedVariables false
set_option linter.unusedSimpArgs false
namespace Go.Proofs.Ytfgcjpokgolddaa
open Go.RowKit
set_option maxRecDepth 100000
theorem tx_one : tx 18446744073709551616 = [49, 56, 52, 52, 54, 55, 52, 52, 48, 55, 51, 55, 48, 57, 53, 53, 49, 54, 49, 54] := by decide +kernel
set_option maxHeartbeats 4000000 in
theorem awake6 (w : World) :
    Calls Try.prog 9 #[] w (Ret w (.bool true)) := by
  go_enter Try.func9, Try.ntmps9
  go_wp2_with fail
  refine (digits_Parse_lit [0, 1] _ _ _ (by first | rfl | simp) (by decide) (by decide)).mono ?_
  rw [decide_eq_false (show ¬ okb (List.length [0, 1]) (val 256 [0, 1]) from by decide)]
  rintro e w1 ⟨A1, n1, c1, rfl, h1, hb1⟩
  go_wp2_with fail
  have X1 := Blk1.newAt w1 (w1.heap.size) 25 (.slice A1 n1 c1) (by first | rfl | simp)
  have hbwe1 : Below w1.heap.size w1 (w1.alloc (.cells #[.slice A1 n1 c1] 25)) := (by with_reducible repeat (first | exact Below.refl _ _ | refine nxa ?_ _ | refine nxd ?_ _ | refine nxw ?_ | refine nx ?_ (by assumption)))
  generalize (w1.alloc (.cells #[.slice A1 n1 c1] 25)) = we1 at X1 hbwe1  ⊢
  refine (digits_Read ⟨#[48, 48, 55]⟩ _ (by decide)).mono ?_
  rw [decide_eq_false (show ¬ okd ⟨#[48, 48, 55]⟩ from by decide)]
  rintro e w2 ⟨A2, n2, c2, rfl, h2, hb2⟩
  have q2 := h2.le_of _ (rdv_words ⟨#[48, 48, 55]⟩)
  go_wp2_with fail
  have X2 := Blk1.newAt w2 (w2.heap.size) 25 (.slice A2 n2 c2) (by first | rfl | simp)
  have hbwe2 : Below w2.heap.size w2 (w2.alloc (.cells #[.slice A2 n2 c2] 25)) := (by with_reducible repeat (first | exact Below.refl _ _ | refine nxa ?_ _ | refine nxd ?_ _ | refine nxw ?_ | refine nx ?_ (by assumption)))
  generalize (w2.alloc (.cells #[.slice A2 n2 c2] 25)) = we2 at X2 hbwe2  ⊢
  refine (digits_Read ⟨#[]⟩ _ (by decide)).mono ?_
  rw [decide_eq_false (show ¬ okd ⟨#[]⟩ from by decide)]
  rintro e w3 ⟨A3, n3, c3, rfl, h3, hb3⟩
  have q3 := h3.le_of _ (rdv_words ⟨#[]⟩)
  go_wp2_with fail
  have X3 := Blk1.newAt w3 (w3.heap.size) 25 (.slice A3 n3 c3) (by first | rfl | simp)
  have hbwe3 : Below w3.heap.size w3 (w3.alloc (.cells #[.slice A3 n3 c3] 25)) := (by with_reducible repeat (first | exact Below.refl _ _ | refine nxa ?_ _ | refine nxd ?_ _ | refine nxw ?_ | refine nx ?_ (by assumption)))
  have HSwe3 := Lib.hid (show (w3.alloc (.cells #[.slice A3 n3 c3] 25)).heap.size = w3.heap.size + 1 by first | rfl | simp)
  generalize (w3.alloc (.cells #[.slice A3 n3 c3] 25)) = we3 at X3 hbwe3 HSwe3 ⊢
  refine (nat_Of_lit [256] _ _ _ (by first | rfl | exact HSwe3.out | simp) (by decide) (by decide)).mono ?_
  rintro e w4 ⟨A4, n4, c4, rfl, h4, hb4, m4⟩
  have q4 : n4 ≤ 1 := m4
  rw [show val W [256] = 256 from by decide] at h4
  go_wp2_with fail
  refine (digits_Bytes_dig _ _ _ _ _ (h4.to (by with_reducible repeat (first | exact Below.refl _ _ | refine nxa ?_ _ | refine nxd ?_ _ | refine nxw ?_ | refine nx ?_ (by assumption)))) (by omega)).mono ?_
  rw [show bsize 256 = 2 from by decide, show rv 256 2 256 = 1 from by decide]
  rintro e w5 ⟨A5, c5, rfl, h5, hb5, hf5⟩
  have HB1 : bl 2 1 = [1, 0] := by decide
  have cv1 := conv_dig (show Dig .u8 256 w5 _ _ _ _ from h5.to (by with_reducible repeat (first | exact Below.refl _ _ | refine nxa ?_ _ | refine nxd ?_ _ | refine nxw ?_ | refine nx ?_ (by assumption)))) Try.underlying30 Try.underlying5 Try.underlying9
  go_wp2_with fail
  clear cv1
  refine (nat_Of_lit [0, 1] _ _ _ (by first | rfl | simp) (by decide) (by decide)).mono ?_
  rintro e w6 ⟨A6, n6, c6, rfl, h6, hb6, m6⟩
  have q6 : n6 ≤ 2 := m6
  rw [show val W [0, 1] = 18446744073709551616 from by decide] at h6
  go_wp2_with fail
  refine (digits_Text_any _ _ _ _ _ (h6.to (by with_reducible repeat (first | exact Below.refl _ _ | refine nxa ?_ _ | refine nxd ?_ _ | refine nxw ?_ | refine nx ?_ (by assumption)))) (by omega)).mono ?_
  rw [tx_one]
  rintro e w7 ⟨rfl, hb7⟩
  go_wp2_with fail
  refine (nat_Of none 0 0 0 _ (Dig.nil .u64 W _ none (by decide)) (by decide)).mono ?_
  rintro e w8 ⟨A8, n8, c8, rfl, h8, hb8, m8⟩
  have q8 : n8 ≤ 0 := m8
  go_wp2_with fail
  refine (digits_Text_any _ _ _ _ _ (h8.to (by with_reducible repeat (first | exact Below.refl _ _ | refine nxa ?_ _ | refine nxd ?_ _ | refine nxw ?_ | refine nx ?_ (by assumption)))) (by omega)).mono ?_
  rw [show tx 0 = [48] from rfl]
  rintro e w9 ⟨rfl, hb9⟩
  go_wp2_with fail
  go_ret
  exact ⟨rfl, (by with_reducible repeat (first | exact Below.refl _ _ | refine nxa ?_ _ | refine nxd ?_ _ | refine nxw ?_ | refine nx ?_ (by assumption)))⟩
end Go.Proofs.Ytfgcjpokgolddaa
