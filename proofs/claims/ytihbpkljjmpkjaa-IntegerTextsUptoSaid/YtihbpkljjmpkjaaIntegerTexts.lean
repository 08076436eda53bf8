/- The walk of 'IntegerTexts'. -/
import Derived.Test.YtihbpkljjmpkjaaAwake7
import Derived.Test.YtihbpkljjmpkjaaTxtLaw3
set_option linter.unusedVariables false
set_option linter.unusedSimpArgs false
namespace Go.Proofs.Ytihbpkljjmpkjaa
open Go.RowKit
set_option maxRecDepth 100000
set_option maxHeartbeats 8000000 in
theorem law_IntegerTexts (b A n c u) (s : ByteArray) (w : World) (k1 : Dig .u64 W w A n c u) (r1 : n ≤ 1048576) (r2 : s.size ≤ 1048576) :
    Calls Try.prog 5 #[.agg #[.bool b, .slice A n c], .string s] w (Ret w (.bool true)) := by
  obtain ⟨x, hx⟩ : ∃ x : Int, x = sg b u := ⟨_, rfl⟩
  have HSx := Lib.hid hx
  have ltx : x.natAbs < W ^ n := by rw [hx, sg_abs]; exact k1.lt
  have rtx : x.natAbs < 65536 ^ (4 * n) := by rw [Nat.pow_mul]; exact ltx
  clear hx
  have HF := Lib.hid (show (ByteArray.mk (ztx x).toArray).size ≤ 140737488355328 from ztx_fit ltx (by omega))
  have R9 := Lib.hid (zv_ztx x)
  have K9 := Lib.hid (okz_ztx x)
  by_cases hq : okz s
  · have HQ := Lib.hid hq
    clear hq
    go_enter Try.func5, Try.ntmps5
    go_wp2_with fail
    have X1 := Blk2.newAt w (w.heap.size) 24 (.bool b) (.slice A n c) (by first | rfl | simp)
    have hbwe1 : Below w.heap.size w (w.alloc (.cells #[.bool b, .slice A n c] 24)) := (by with_reducible repeat (first | exact Below.refl _ _ | refine nxa ?_ _ | refine nxd ?_ _ | refine nxw ?_ | refine nx ?_ (by assumption)))
    generalize (w.alloc (.cells #[.bool b, .slice A n c] 24)) = we1 at X1 hbwe1  ⊢
    refine (awake7 _).mono ?_
    rintro e w1 ⟨rfl, hb1⟩
    have d1 := (show Blk2 w1 _ _ _ _ from X1.to (by with_reducible repeat (first | exact Below.refl _ _ | refine nxa ?_ _ | refine nxd ?_ _ | refine nxw ?_ | refine nx ?_ (by assumption)))).cell
    have d1' := (show Blk2 w1 _ _ _ _ from X1.to (by with_reducible repeat (first | exact Below.refl _ _ | refine nxa ?_ _ | refine nxd ?_ _ | refine nxw ?_ | refine nx ?_ (by assumption)))).cell1
    go_wp2_with fail
    clear d1 d1'
    refine (law7_Make b _ _ _ u _ (k1.to (by with_reducible repeat (first | exact Below.refl _ _ | refine nxa ?_ _ | refine nxd ?_ _ | refine nxw ?_ | refine nx ?_ (by assumption)))) (by omega)).mono ?_
    rw [← HSx.out]
    rintro e w2 ⟨A2, n2, c2, rfl, h2, hb2⟩
    have q2 := h2.le_of _ (ltx)
    go_wp2_with fail
    have X2 := Blk2.newAt w2 (w2.heap.size) 29 (.bool (bz x)) (.slice A2 n2 c2) (by first | rfl | simp)
    have hbwe2 : Below w2.heap.size w2 (w2.alloc (.cells #[.bool (bz x), .slice A2 n2 c2] 29)) := (by with_reducible repeat (first | exact Below.refl _ _ | refine nxa ?_ _ | refine nxd ?_ _ | refine nxw ?_ | refine nx ?_ (by assumption)))
    generalize (w2.alloc (.cells #[.bool (bz x), .slice A2 n2 c2] 29)) = we2 at X2 hbwe2  ⊢
    refine (integer_Text _ _ _ x _ (h2.to (by with_reducible repeat (first | exact Below.refl _ _ | refine nxa ?_ _ | refine nxd ?_ _ | refine nxw ?_ | refine nx ?_ (by assumption)))) (by omega)).mono ?_
    rintro e w3 ⟨rfl, hb3⟩
    go_wp2_with fail
    have h9r := integer_Read ⟨(ztx x).toArray⟩ w3 HF.out
    rw [R9.out, decide_eq_true K9.out] at h9r
    refine (h9r).mono ?_
    rintro e w4 ⟨A4, n4, c4, rfl, h4, hb4⟩
    have q4 := h4.le_of _ (ltx)
    go_wp2_with fail
    have X3 := Blk2.newAt w4 (w4.heap.size) 29 (.bool (bz x)) (.slice A4 n4 c4) (by first | rfl | simp)
    have hbwe3 : Below w4.heap.size w4 (w4.alloc (.cells #[.bool (bz x), .slice A4 n4 c4] 29)) := (by with_reducible repeat (first | exact Below.refl _ _ | refine nxa ?_ _ | refine nxd ?_ _ | refine nxw ?_ | refine nx ?_ (by assumption)))
    generalize (w4.alloc (.cells #[.bool (bz x), .slice A4 n4 c4] 29)) = we3 at X3 hbwe3  ⊢
    refine (integer_Read s _ (by omega)).mono ?_
    rw [decide_eq_true (HQ.out)]
    rintro e w5 ⟨A5, n5, c5, rfl, h5, hb5⟩
    have q5 := h5.le_of _ (zv_words s)
    have d2 := (show Blk2 (w5.alloc (.cells #[.bool (bz (zv s)), .slice A5 n5 c5] 29)) _ _ _ _ from X2.to (by with_reducible repeat (first | exact Below.refl _ _ | refine nxa ?_ _ | refine nxd ?_ _ | refine nxw ?_ | refine nx ?_ (by assumption)))).cell
    have d2' := (show Blk2 (w5.alloc (.cells #[.bool (bz (zv s)), .slice A5 n5 c5] 29)) _ _ _ _ from X2.to (by with_reducible repeat (first | exact Below.refl _ _ | refine nxa ?_ _ | refine nxd ?_ _ | refine nxw ?_ | refine nx ?_ (by assumption)))).cell1
    have d3 := (show Blk2 (w5.alloc (.cells #[.bool (bz (zv s)), .slice A5 n5 c5] 29)) _ _ _ _ from X3.to (by with_reducible repeat (first | exact Below.refl _ _ | refine nxa ?_ _ | refine nxd ?_ _ | refine nxw ?_ | refine nx ?_ (by assumption)))).cell
    have d3' := (show Blk2 (w5.alloc (.cells #[.bool (bz (zv s)), .slice A5 n5 c5] 29)) _ _ _ _ from X3.to (by with_reducible repeat (first | exact Below.refl _ _ | refine nxa ?_ _ | refine nxd ?_ _ | refine nxw ?_ | refine nx ?_ (by assumption)))).cell1
    go_wp2_with fail
    clear d2 d2' d3 d3'
    have X4 := Blk2.newAt w5 (w5.heap.size) 29 (.bool (bz (zv s))) (.slice A5 n5 c5) (by first | rfl | simp)
    have hbwe4 : Below w5.heap.size w5 (w5.alloc (.cells #[.bool (bz (zv s)), .slice A5 n5 c5] 29)) := (by with_reducible repeat (first | exact Below.refl _ _ | refine nxa ?_ _ | refine nxd ?_ _ | refine nxw ?_ | refine nx ?_ (by assumption)))
    generalize (w5.alloc (.cells #[.bool (bz (zv s)), .slice A5 n5 c5] 29)) = we4 at X4 hbwe4  ⊢
    refine (integer_Cmp _ _ _ x _ _ _ x _ (h2.to (by with_reducible repeat (first | exact Below.refl _ _ | refine nxa ?_ _ | refine nxd ?_ _ | refine nxw ?_ | refine nx ?_ (by assumption)))) (h4.to (by with_reducible repeat (first | exact Below.refl _ _ | refine nxa ?_ _ | refine nxd ?_ _ | refine nxw ?_ | refine nx ?_ (by assumption))))).mono ?_
    rw [cmpZ_eq rfl]
    rintro e w6 ⟨rfl, hb6⟩
    have d4 := (show Blk2 w6 _ _ _ _ from X4.to (by with_reducible repeat (first | exact Below.refl _ _ | refine nxa ?_ _ | refine nxd ?_ _ | refine nxw ?_ | refine nx ?_ (by assumption)))).cell
    have d4' := (show Blk2 w6 _ _ _ _ from X4.to (by with_reducible repeat (first | exact Below.refl _ _ | refine nxa ?_ _ | refine nxd ?_ _ | refine nxw ?_ | refine nx ?_ (by assumption)))).cell1
    go_wp2_with fail
    clear d4 d4'
    refine (integer_Text_as s _ _ _ (zv s) _ (h5.to (by with_reducible repeat (first | exact Below.refl _ _ | refine nxa ?_ _ | refine nxd ?_ _ | refine nxw ?_ | refine nx ?_ (by assumption)))) (ztx_zv HQ.out) (by omega)).mono ?_
    rintro e w7 ⟨rfl, hb7⟩
    go_wp2_with fail
    go_ret
    exact ⟨rfl, (by with_reducible repeat (first | exact Below.refl _ _ | refine nxa ?_ _ | refine nxd ?_ _ | refine nxw ?_ | refine nx ?_ (by assumption)))⟩
  · have HQ := Lib.hid hq
    clear hq
    go_enter Try.func5, Try.ntmps5
    go_wp2_with fail
    have X1 := Blk2.newAt w (w.heap.size) 24 (.bool b) (.slice A n c) (by first | rfl | simp)
    have hbwe1 : Below w.heap.size w (w.alloc (.cells #[.bool b, .slice A n c] 24)) := (by with_reducible repeat (first | exact Below.refl _ _ | refine nxa ?_ _ | refine nxd ?_ _ | refine nxw ?_ | refine nx ?_ (by assumption)))
    generalize (w.alloc (.cells #[.bool b, .slice A n c] 24)) = we1 at X1 hbwe1  ⊢
    refine (awake7 _).mono ?_
    rintro e w1 ⟨rfl, hb1⟩
    have d1 := (show Blk2 w1 _ _ _ _ from X1.to (by with_reducible repeat (first | exact Below.refl _ _ | refine nxa ?_ _ | refine nxd ?_ _ | refine nxw ?_ | refine nx ?_ (by assumption)))).cell
    have d1' := (show Blk2 w1 _ _ _ _ from X1.to (by with_reducible repeat (first | exact Below.refl _ _ | refine nxa ?_ _ | refine nxd ?_ _ | refine nxw ?_ | refine nx ?_ (by assumption)))).cell1
    go_wp2_with fail
    clear d1 d1'
    refine (law7_Make b _ _ _ u _ (k1.to (by with_reducible repeat (first | exact Below.refl _ _ | refine nxa ?_ _ | refine nxd ?_ _ | refine nxw ?_ | refine nx ?_ (by assumption)))) (by omega)).mono ?_
    rw [← HSx.out]
    rintro e w2 ⟨A2, n2, c2, rfl, h2, hb2⟩
    have q2 := h2.le_of _ (ltx)
    go_wp2_with fail
    have X2 := Blk2.newAt w2 (w2.heap.size) 29 (.bool (bz x)) (.slice A2 n2 c2) (by first | rfl | simp)
    have hbwe2 : Below w2.heap.size w2 (w2.alloc (.cells #[.bool (bz x), .slice A2 n2 c2] 29)) := (by with_reducible repeat (first | exact Below.refl _ _ | refine nxa ?_ _ | refine nxd ?_ _ | refine nxw ?_ | refine nx ?_ (by assumption)))
    generalize (w2.alloc (.cells #[.bool (bz x), .slice A2 n2 c2] 29)) = we2 at X2 hbwe2  ⊢
    refine (integer_Text _ _ _ x _ (h2.to (by with_reducible repeat (first | exact Below.refl _ _ | refine nxa ?_ _ | refine nxd ?_ _ | refine nxw ?_ | refine nx ?_ (by assumption)))) (by omega)).mono ?_
    rintro e w3 ⟨rfl, hb3⟩
    go_wp2_with fail
    have h9r := integer_Read ⟨(ztx x).toArray⟩ w3 HF.out
    rw [R9.out, decide_eq_true K9.out] at h9r
    refine (h9r).mono ?_
    rintro e w4 ⟨A4, n4, c4, rfl, h4, hb4⟩
    have q4 := h4.le_of _ (ltx)
    go_wp2_with fail
    have X3 := Blk2.newAt w4 (w4.heap.size) 29 (.bool (bz x)) (.slice A4 n4 c4) (by first | rfl | simp)
    have hbwe3 : Below w4.heap.size w4 (w4.alloc (.cells #[.bool (bz x), .slice A4 n4 c4] 29)) := (by with_reducible repeat (first | exact Below.refl _ _ | refine nxa ?_ _ | refine nxd ?_ _ | refine nxw ?_ | refine nx ?_ (by assumption)))
    generalize (w4.alloc (.cells #[.bool (bz x), .slice A4 n4 c4] 29)) = we3 at X3 hbwe3  ⊢
    refine (integer_Read s _ (by omega)).mono ?_
    rw [decide_eq_false (HQ.out)]
    rintro e w5 ⟨A5, n5, c5, rfl, h5, hb5⟩
    have q5 := h5.le_of _ (zv_words s)
    have d2 := (show Blk2 (w5.alloc (.cells #[.bool (bz (zv s)), .slice A5 n5 c5] 29)) _ _ _ _ from X2.to (by with_reducible repeat (first | exact Below.refl _ _ | refine nxa ?_ _ | refine nxd ?_ _ | refine nxw ?_ | refine nx ?_ (by assumption)))).cell
    have d2' := (show Blk2 (w5.alloc (.cells #[.bool (bz (zv s)), .slice A5 n5 c5] 29)) _ _ _ _ from X2.to (by with_reducible repeat (first | exact Below.refl _ _ | refine nxa ?_ _ | refine nxd ?_ _ | refine nxw ?_ | refine nx ?_ (by assumption)))).cell1
    have d3 := (show Blk2 (w5.alloc (.cells #[.bool (bz (zv s)), .slice A5 n5 c5] 29)) _ _ _ _ from X3.to (by with_reducible repeat (first | exact Below.refl _ _ | refine nxa ?_ _ | refine nxd ?_ _ | refine nxw ?_ | refine nx ?_ (by assumption)))).cell
    have d3' := (show Blk2 (w5.alloc (.cells #[.bool (bz (zv s)), .slice A5 n5 c5] 29)) _ _ _ _ from X3.to (by with_reducible repeat (first | exact Below.refl _ _ | refine nxa ?_ _ | refine nxd ?_ _ | refine nxw ?_ | refine nx ?_ (by assumption)))).cell1
    go_wp2_with fail
    clear d2 d2' d3 d3'
    have X4 := Blk2.newAt w5 (w5.heap.size) 29 (.bool (bz (zv s))) (.slice A5 n5 c5) (by first | rfl | simp)
    have hbwe4 : Below w5.heap.size w5 (w5.alloc (.cells #[.bool (bz (zv s)), .slice A5 n5 c5] 29)) := (by with_reducible repeat (first | exact Below.refl _ _ | refine nxa ?_ _ | refine nxd ?_ _ | refine nxw ?_ | refine nx ?_ (by assumption)))
    generalize (w5.alloc (.cells #[.bool (bz (zv s)), .slice A5 n5 c5] 29)) = we4 at X4 hbwe4  ⊢
    refine (integer_Cmp _ _ _ x _ _ _ x _ (h2.to (by with_reducible repeat (first | exact Below.refl _ _ | refine nxa ?_ _ | refine nxd ?_ _ | refine nxw ?_ | refine nx ?_ (by assumption)))) (h4.to (by with_reducible repeat (first | exact Below.refl _ _ | refine nxa ?_ _ | refine nxd ?_ _ | refine nxw ?_ | refine nx ?_ (by assumption))))).mono ?_
    rw [cmpZ_eq rfl]
    rintro e w6 ⟨rfl, hb6⟩
    go_wp2_with fail
    go_ret
    exact ⟨rfl, (by with_reducible repeat (first | exact Below.refl _ _ | refine nxa ?_ _ | refine nxd ?_ _ | refine nxw ?_ | refine nx ?_ (by assumption)))⟩
end Go.Proofs.Ytihbpkljjmpkjaa
