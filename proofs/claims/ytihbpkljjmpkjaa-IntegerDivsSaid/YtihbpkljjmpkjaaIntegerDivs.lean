/- The walk of 'IntegerDivs'. -/
import Derived.Test.YtihbpkljjmpkjaaAwake7
import Derived.Test.YtihbpkljjmpkjaaLaw7b
import Derived.Test.YtihbpkljjmpkjaaRef7d
set_option linter.unusedVariables false
set_option linter.unusedSimpArgs false
namespace Go.Proofs.Ytihbpkljjmpkjaa
open Go.RowKit
set_option maxRecDepth 100000
set_option maxHeartbeats 8000000 in
theorem law_IntegerDivs (b A n c u) (b' A' n' c' v) (w : World) (k1 : Dig .u64 W w A n c u) (k2 : Dig .u64 W w A' n' c' v)  :
    Calls Try.prog 3 #[.agg #[.bool b, .slice A n c], .agg #[.bool b', .slice A' n' c']] w (Ret w (.bool true)) := by
  obtain ⟨x, hx⟩ : ∃ x : Int, x = sg b u := ⟨_, rfl⟩
  have HSx := Lib.hid hx
  have ltx : x.natAbs < W ^ n := by rw [hx, sg_abs]; exact k1.lt
  have rtx : x.natAbs < 65536 ^ (4 * n) := by rw [Nat.pow_mul]; exact ltx
  obtain ⟨y, hy⟩ : ∃ y : Int, y = sg b' v := ⟨_, rfl⟩
  have HSy := Lib.hid hy
  have lty : y.natAbs < W ^ n' := by rw [hy, sg_abs]; exact k2.lt
  have rty : y.natAbs < 65536 ^ (4 * n') := by rw [Nat.pow_mul]; exact lty
  clear hx hy
  rcases Nat.lt_or_ge 20 n with ha | ha
  · have hI : (20 : Int) < (n : Int) := by omega
    go_enter Try.func3, Try.ntmps3
    go_wp2_with fail
    have X1 := Blk2.newAt w (w.heap.size) 24 (.bool b) (.slice A n c) (by first | rfl | simp)
    have X2 := Blk2.newAt (w.alloc (.cells #[.bool b, .slice A n c] 24)) (w.heap.size + 1) 24 (.bool b') (.slice A' n' c') (by first | rfl | simp)
    replace X1 := (show Blk2 ((w.alloc (.cells #[.bool b, .slice A n c] 24)).alloc (.cells #[.bool b', .slice A' n' c'] 24)) _ _ _ _ from X1.to bW)
    have hbwe1 : Below w.heap.size w ((w.alloc (.cells #[.bool b, .slice A n c] 24)).alloc (.cells #[.bool b', .slice A' n' c'] 24)) := bW
    generalize ((w.alloc (.cells #[.bool b, .slice A n c] 24)).alloc (.cells #[.bool b', .slice A' n' c'] 24)) = we1 at X1 X2 hbwe1  ⊢
    refine (awake7 _).mono ?_
    rintro e w1 ⟨rfl, hb1⟩
    have d1 := (show Blk2 w1 _ _ _ _ from X1.to bW).cell
    have d1' := (show Blk2 w1 _ _ _ _ from X1.to bW).cell1
    go_wp2_with fail
    clear d1 d1'
    go_ret
    exact ⟨rfl, bW⟩
  have hI : ¬ (20 : Int) < (n : Int) := by omega
  rcases Nat.lt_or_ge 20 n' with hb | hb
  · have hJ : (20 : Int) < (n' : Int) := by omega
    go_enter Try.func3, Try.ntmps3
    go_wp2_with fail
    have X1 := Blk2.newAt w (w.heap.size) 24 (.bool b) (.slice A n c) (by first | rfl | simp)
    have X2 := Blk2.newAt (w.alloc (.cells #[.bool b, .slice A n c] 24)) (w.heap.size + 1) 24 (.bool b') (.slice A' n' c') (by first | rfl | simp)
    replace X1 := (show Blk2 ((w.alloc (.cells #[.bool b, .slice A n c] 24)).alloc (.cells #[.bool b', .slice A' n' c'] 24)) _ _ _ _ from X1.to bW)
    have hbwe1 : Below w.heap.size w ((w.alloc (.cells #[.bool b, .slice A n c] 24)).alloc (.cells #[.bool b', .slice A' n' c'] 24)) := bW
    generalize ((w.alloc (.cells #[.bool b, .slice A n c] 24)).alloc (.cells #[.bool b', .slice A' n' c'] 24)) = we1 at X1 X2 hbwe1  ⊢
    refine (awake7 _).mono ?_
    rintro e w1 ⟨rfl, hb1⟩
    have d1 := (show Blk2 w1 _ _ _ _ from X1.to bW).cell
    have d1' := (show Blk2 w1 _ _ _ _ from X1.to bW).cell1
    have d2 := (show Blk2 w1 _ _ _ _ from X2.to bW).cell
    have d2' := (show Blk2 w1 _ _ _ _ from X2.to bW).cell1
    go_wp2_with fail
    clear d1 d1' d2 d2'
    go_ret
    exact ⟨rfl, bW⟩
  have hJ : ¬ (20 : Int) < (n' : Int) := by omega
  by_cases hy : y = 0
  · have HY := Lib.hid hy
    clear hy
    go_enter Try.func3, Try.ntmps3
    go_wp2_with fail
    have X1 := Blk2.newAt w (w.heap.size) 24 (.bool b) (.slice A n c) (by first | rfl | simp)
    have X2 := Blk2.newAt (w.alloc (.cells #[.bool b, .slice A n c] 24)) (w.heap.size + 1) 24 (.bool b') (.slice A' n' c') (by first | rfl | simp)
    replace X1 := (show Blk2 ((w.alloc (.cells #[.bool b, .slice A n c] 24)).alloc (.cells #[.bool b', .slice A' n' c'] 24)) _ _ _ _ from X1.to bW)
    have hbwe1 : Below w.heap.size w ((w.alloc (.cells #[.bool b, .slice A n c] 24)).alloc (.cells #[.bool b', .slice A' n' c'] 24)) := bW
    generalize ((w.alloc (.cells #[.bool b, .slice A n c] 24)).alloc (.cells #[.bool b', .slice A' n' c'] 24)) = we1 at X1 X2 hbwe1  ⊢
    refine (awake7 _).mono ?_
    rintro e w1 ⟨rfl, hb1⟩
    have d1 := (show Blk2 w1 _ _ _ _ from X1.to bW).cell
    have d1' := (show Blk2 w1 _ _ _ _ from X1.to bW).cell1
    have d2 := (show Blk2 w1 _ _ _ _ from X2.to bW).cell
    have d2' := (show Blk2 w1 _ _ _ _ from X2.to bW).cell1
    go_wp2_with fail
    clear d1 d1' d2 d2'
    have CX1 := (show Blk2 w1 _ _ _ _ from X1.to bW).cell
    have CX1' := (show Blk2 w1 _ _ _ _ from X1.to bW).cell1
    have CX2 := (show Blk2 w1 _ _ _ _ from X2.to bW).cell
    have CX2' := (show Blk2 w1 _ _ _ _ from X2.to bW).cell1
    refine wp_regionE [(8, 5, 29, #[.bool false, .slice none 0 0]), (9, 6, 29, #[.bool false, .slice none 0 0]), (10, 7, 34, #[.bool false, .slice none 0 0]), (11, 8, 34, #[.bool false, .slice none 0 0])] kR kR (mk_cons (mk_int gO rfl rfl rfl) (mk_cons (mk_int gO rfl rfl rfl) (mk_cons (mk_z gO rfl rfl rfl) (mk_cons (mk_z gO rfl rfl rfl) (mk_nil))))) (by exact fun _ _ _ _ _ h => h) (by exact fun _ _ _ _ _ h => h) (f := 12) (by rfl) ?_
    have hbdE1 : Below w1.heap.size w1 w1.drew := nxw (Below.refl _ _)
    generalize w1.drew = wdE1 at hbdE1 ⊢
    replace CX1 := cellB hbdE1 CX1
    replace CX1' := cellB hbdE1 CX1'
    replace CX2 := cellB hbdE1 CX2
    replace CX2' := cellB hbdE1 CX2'
    have hH := Lib.hid (Below.refl wdE1.heap.size wdE1)
    refine anyE_take (i := 0) (v := ?_) gO kR (by exact fun _ _ _ h => h) (Or.inl ⟨by rfl, ?_⟩) hH.out ?_
    rotate_left
    · intro w hSw; have c := cellB hSw CX1; have c' := cellB hSw CX1'; go_simp; try with_reducible rfl
    try simp only [Act.put, sX, sY, sZ]
    refine anyE_take (i := 2) (v := ?_) gO kR (by exact fun _ _ _ h => h) (Or.inl ⟨by rfl, ?_⟩) hH.out ?_
    rotate_left
    · intro w hSw; have c := cellB hSw CX2; have c' := cellB hSw CX2'; go_simp; try with_reducible rfl
    try simp only [Act.put, sX, sY, sZ]
    refine anyE_take (i := 4) (v := ?_) gO kR (by exact fun _ _ _ h => h) (Or.inl ⟨by rfl, ?_⟩) hH.out ?_
    rotate_left
    · intro w hSw; have c := cellB hSw CX1; have c' := cellB hSw CX1'; go_simp; try with_reducible rfl
    try simp only [Act.put, sX, sY, sZ]
    refine anyE_take (i := 6) (v := ?_) gO kR (by exact fun _ _ _ h => h) (Or.inl ⟨by rfl, ?_⟩) hH.out ?_
    rotate_left
    · intro w hSw; have c := cellB hSw CX2; have c' := cellB hSw CX2'; go_simp; try with_reducible rfl
    try simp only [Act.put, sX, sY, sZ]
    refine anyE_one (i := 1) gO kR (fun wi1_1 hbwi1_1 K hK => ?_)
    go_simp
    go_at_call 12
    refine (law7_Make b _ _ _ u _ (k1.to bW) (by omega)).mono ?_
    rw [← HSx.out]
    rintro e w2 ⟨A2, n2, c2, rfl, h2, hb2⟩
    have q2 := h2.le_of _ (ltx)
    go_simp
    refine hK.out _ _ (show Below wi1_1.heap.size wi1_1 w2 from bW) ?_
    clear hK K
    replace hH := Lib.hid (nx hH.out (show Below wdE1.heap.size wdE1 w2 from bW))
    try simp only [Act.put, sX, sY, sZ]
    refine anyE_one (i := 3) gO kR (fun wi1_3 hbwi1_3 K hK => ?_)
    go_simp
    go_at_call 12
    refine (law7_Make b' _ _ _ v _ (k2.to bW) (by omega)).mono ?_
    rw [← HSy.out]
    rintro e w3 ⟨A3, n3, c3, rfl, h3, hb3⟩
    have q3 := h3.le_of _ (lty)
    go_simp
    refine hK.out _ _ (show Below wi1_3.heap.size wi1_3 w3 from bW) ?_
    clear hK K
    replace hH := Lib.hid (nx hH.out (show Below w2.heap.size w2 w3 from bW))
    try simp only [Act.put, sX, sY, sZ]
    refine anyE_one (i := 5) gO kR (fun wi1_5 hbwi1_5 K hK => ?_)
    go_simp
    go_at_call 13
    refine (law7_Ref b _ _ _ u _ (k1.to bW) (by omega)).mono ?_
    rw [← HSx.out]
    rintro e w4 ⟨A4, n4, c4, rfl, h4, hb4⟩
    have l4 := h4.le_of (by decide) _ (rtx)
    go_simp
    refine hK.out _ _ (show Below wi1_5.heap.size wi1_5 w4 from bW) ?_
    clear hK K
    replace hH := Lib.hid (nx hH.out (show Below w3.heap.size w3 w4 from bW))
    try simp only [Act.put, sX, sY, sZ]
    refine anyE_one (i := 7) gO kR (fun wi1_7 hbwi1_7 K hK => ?_)
    go_simp
    go_at_call 13
    refine (law7_Ref b' _ _ _ v _ (k2.to bW) (by omega)).mono ?_
    rw [← HSy.out]
    rintro e w5 ⟨A5, n5, c5, rfl, h5, hb5⟩
    have l5 := h5.le_of (by decide) _ (rty)
    go_simp
    refine hK.out _ _ (show Below wi1_7.heap.size wi1_7 w5 from bW) ?_
    clear hK K
    replace hH := Lib.hid (nx hH.out (show Below w4.heap.size w4 w5 from bW))
    try simp only [Act.put, sX, sY, sZ]
    refine anyE_done kR (fun wzE1 hbzE1 => ?_)
    refine FinD_cons (fun gEX3 X3 hgEX3 hnEX3 => ?_)
    replace X3 : Blk2 wzE1 _ _ _ _ := X3
    clear hnEX3
    refine FinD_cons (fun gEX4 X4 hgEX4 hnEX4 => ?_)
    replace X4 : Blk2 wzE1 _ _ _ _ := X4
    have nEX4X3 : gEX4 ≠ gEX3 := fun e => hnEX4 (by simp [e])
    clear hnEX4
    refine FinD_cons (fun gEX5 X5 hgEX5 hnEX5 => ?_)
    replace X5 : Blk2 wzE1 _ _ _ _ := X5
    have nEX5X3 : gEX5 ≠ gEX3 := fun e => hnEX5 (by simp [e])
    have nEX5X4 : gEX5 ≠ gEX4 := fun e => hnEX5 (by simp [e])
    clear hnEX5
    refine FinD_cons (fun gEX6 X6 hgEX6 hnEX6 => ?_)
    replace X6 : Blk2 wzE1 _ _ _ _ := X6
    have nEX6X3 : gEX6 ≠ gEX3 := fun e => hnEX6 (by simp [e])
    have nEX6X4 : gEX6 ≠ gEX4 := fun e => hnEX6 (by simp [e])
    have nEX6X5 : gEX6 ≠ gEX5 := fun e => hnEX6 (by simp [e])
    clear hnEX6
    refine FinD_nil ?_
    try simp only [Act.put, sX, sY, sZ]
    replace h2 := (show NatAt wzE1 _ _ _ _ from h2.to bW)
    replace h3 := (show NatAt wzE1 _ _ _ _ from h3.to bW)
    replace h4 := (show NumAt _ _ wzE1 _ _ _ _ from h4.to bW)
    replace h5 := (show NumAt _ _ wzE1 _ _ _ _ from h5.to bW)
    have hbtE1 := Lib.hid (show Below w1.heap.size w1 wzE1 from nx hbdE1 (nx hH.out hbzE1))
    clear hH
    refine anyT_ready (rs := [12]) kR (by simp) (ReadyT.cons gO (fun K hK => ?_) ReadyT.nil)
    rw [if_pos (by rfl)]
    refine wp_store_int _ _ rfl rfl rfl X3 ?_
    replace X4 := X4.off2 (g := gEX3) nEX4X3 (.bool (bz x)) (.slice A2 n2 c2)
    replace X5 := X5.off2 (g := gEX3) nEX5X3 (.bool (bz x)) (.slice A2 n2 c2)
    replace X6 := X6.off2 (g := gEX3) nEX6X3 (.bool (bz x)) (.slice A2 n2 c2)
    replace h2 := h2.put2 X3 (.bool (bz x)) (.slice A2 n2 c2)
    replace h3 := h3.put2 X3 (.bool (bz x)) (.slice A2 n2 c2)
    replace h4 := h4.put2 X3 (.bool (bz x)) (.slice A2 n2 c2)
    replace h5 := h5.put2 X3 (.bool (bz x)) (.slice A2 n2 c2)
    replace hbtE1 := below_put2 hbtE1.out (g := gEX3) (Nat.le_trans hbdE1.size hgEX3) (.bool (bz x)) (.slice A2 n2 c2)
    replace X3 := X3.put2 (.bool (bz x)) (.slice A2 n2 c2)
    generalize put2 wzE1 gEX3 (.bool (bz x)) (.slice A2 n2 c2) = wsE2 at X3 X4 X5 X6 h2 h3 h4 h5 hbtE1 ⊢
    refine hK.out _ _ trivial (fun _ => ?_)
    clear hK K
    try simp only [Act.put, sX, sY, sZ]
    refine anyT_ready (rs := [13]) kR (by simp) (ReadyT.cons gO (fun K hK => ?_) ReadyT.nil)
    rw [if_pos (by rfl)]
    refine wp_store_int _ _ rfl rfl rfl X4 ?_
    replace X3 := X3.off2 (g := gEX4) (Ne.symm nEX4X3) (.bool (bz y)) (.slice A3 n3 c3)
    replace X5 := X5.off2 (g := gEX4) nEX5X4 (.bool (bz y)) (.slice A3 n3 c3)
    replace X6 := X6.off2 (g := gEX4) nEX6X4 (.bool (bz y)) (.slice A3 n3 c3)
    replace h2 := h2.put2 X4 (.bool (bz y)) (.slice A3 n3 c3)
    replace h3 := h3.put2 X4 (.bool (bz y)) (.slice A3 n3 c3)
    replace h4 := h4.put2 X4 (.bool (bz y)) (.slice A3 n3 c3)
    replace h5 := h5.put2 X4 (.bool (bz y)) (.slice A3 n3 c3)
    replace hbtE1 := below_put2 hbtE1 (g := gEX4) (Nat.le_trans hbdE1.size hgEX4) (.bool (bz y)) (.slice A3 n3 c3)
    replace X4 := X4.put2 (.bool (bz y)) (.slice A3 n3 c3)
    generalize put2 wsE2 gEX4 (.bool (bz y)) (.slice A3 n3 c3) = wsE3 at X4 X3 X5 X6 h2 h3 h4 h5 hbtE1 ⊢
    refine hK.out _ _ trivial (fun _ => ?_)
    clear hK K
    try simp only [Act.put, sX, sY, sZ]
    refine anyT_ready (rs := [14]) kR (by simp) (ReadyT.cons gO (fun K hK => ?_) ReadyT.nil)
    rw [if_pos (by rfl)]
    refine wp_store_z _ _ rfl rfl rfl X5 ?_
    replace X3 := X3.off2 (g := gEX5) (Ne.symm nEX5X3) (.bool (bz x)) (.slice A4 n4 c4)
    replace X4 := X4.off2 (g := gEX5) (Ne.symm nEX5X4) (.bool (bz x)) (.slice A4 n4 c4)
    replace X6 := X6.off2 (g := gEX5) nEX6X5 (.bool (bz x)) (.slice A4 n4 c4)
    replace h2 := h2.put2 X5 (.bool (bz x)) (.slice A4 n4 c4)
    replace h3 := h3.put2 X5 (.bool (bz x)) (.slice A4 n4 c4)
    replace h4 := h4.put2 X5 (.bool (bz x)) (.slice A4 n4 c4)
    replace h5 := h5.put2 X5 (.bool (bz x)) (.slice A4 n4 c4)
    replace hbtE1 := below_put2 hbtE1 (g := gEX5) (Nat.le_trans hbdE1.size hgEX5) (.bool (bz x)) (.slice A4 n4 c4)
    replace X5 := X5.put2 (.bool (bz x)) (.slice A4 n4 c4)
    generalize put2 wsE3 gEX5 (.bool (bz x)) (.slice A4 n4 c4) = wsE4 at X5 X3 X4 X6 h2 h3 h4 h5 hbtE1 ⊢
    refine hK.out _ _ trivial (fun _ => ?_)
    clear hK K
    try simp only [Act.put, sX, sY, sZ]
    refine anyT_ready (rs := [15]) kR (by simp) (ReadyT.cons gO (fun K hK => ?_) ReadyT.nil)
    rw [if_pos (by rfl)]
    refine wp_store_z _ _ rfl rfl rfl X6 ?_
    replace X3 := X3.off2 (g := gEX6) (Ne.symm nEX6X3) (.bool (bz y)) (.slice A5 n5 c5)
    replace X4 := X4.off2 (g := gEX6) (Ne.symm nEX6X4) (.bool (bz y)) (.slice A5 n5 c5)
    replace X5 := X5.off2 (g := gEX6) (Ne.symm nEX6X5) (.bool (bz y)) (.slice A5 n5 c5)
    replace h2 := h2.put2 X6 (.bool (bz y)) (.slice A5 n5 c5)
    replace h3 := h3.put2 X6 (.bool (bz y)) (.slice A5 n5 c5)
    replace h4 := h4.put2 X6 (.bool (bz y)) (.slice A5 n5 c5)
    replace h5 := h5.put2 X6 (.bool (bz y)) (.slice A5 n5 c5)
    replace hbtE1 := below_put2 hbtE1 (g := gEX6) (Nat.le_trans hbdE1.size hgEX6) (.bool (bz y)) (.slice A5 n5 c5)
    replace X6 := X6.put2 (.bool (bz y)) (.slice A5 n5 c5)
    generalize put2 wsE4 gEX6 (.bool (bz y)) (.slice A5 n5 c5) = wsE5 at X6 X3 X4 X5 h2 h3 h4 h5 hbtE1 ⊢
    refine hK.out _ _ trivial (fun _ => ?_)
    clear hK K
    try simp only [Act.put, sX, sY, sZ]
    refine anyT_done kR ?_ _
    clear CX1 CX1' CX2 CX2'
    have d3 := (show Blk2 wsE5 _ _ _ _ from X3.to bW).cell
    have d3' := (show Blk2 wsE5 _ _ _ _ from X3.to bW).cell1
    have d4 := (show Blk2 wsE5 _ _ _ _ from X4.to bW).cell
    have d4' := (show Blk2 wsE5 _ _ _ _ from X4.to bW).cell1
    go_wp2_with fail
    clear d3 d3' d4 d4'
    refine (integer_Div_zero _ _ _ x _ _ _ y _ (h2.to bW) (h3.to bW) (by omega) HY.out).mono ?_
    rintro e w6 ⟨A6, n6, c6, A6', n6', c6', rfl, h6, h6', hb6⟩
    have zn : (((n5 : Nat) : Int) == 0) = true := by have := (h5.zero_iff (by decide)).1 (by rw [HY.out]; rfl); simp; omega
    have d5 := (show Blk2 ((w6.alloc (.cells #[.bool (bz 0), .slice A6 n6 c6] 29)).alloc (.cells #[.bool (bz 0), .slice A6' n6' c6'] 29)) _ _ _ _ from X6.to bW).cell
    have d5' := (show Blk2 ((w6.alloc (.cells #[.bool (bz 0), .slice A6 n6 c6] 29)).alloc (.cells #[.bool (bz 0), .slice A6' n6' c6'] 29)) _ _ _ _ from X6.to bW).cell1
    go_wp2_with fail
    clear d5 d5'
    have X7 := Blk2.newAt w6 (w6.heap.size) 29 (.bool (bz 0)) (.slice A6 n6 c6) (by first | rfl | simp)
    have X8 := Blk2.newAt (w6.alloc (.cells #[.bool (bz 0), .slice A6 n6 c6] 29)) (w6.heap.size + 1) 29 (.bool (bz 0)) (.slice A6' n6' c6') (by first | rfl | simp)
    replace X7 := (show Blk2 ((w6.alloc (.cells #[.bool (bz 0), .slice A6 n6 c6] 29)).alloc (.cells #[.bool (bz 0), .slice A6' n6' c6'] 29)) _ _ _ _ from X7.to bW)
    have hbwe6 : Below w6.heap.size w6 ((w6.alloc (.cells #[.bool (bz 0), .slice A6 n6 c6] 29)).alloc (.cells #[.bool (bz 0), .slice A6' n6' c6'] 29)) := bW
    generalize ((w6.alloc (.cells #[.bool (bz 0), .slice A6 n6 c6] 29)).alloc (.cells #[.bool (bz 0), .slice A6' n6' c6'] 29)) = we6 at X7 X8 hbwe6  ⊢
    refine (integer_Sign _ _ _ 0 _ (h6.to bW)).mono ?_
    rw [show sgn 0 = 0 from cmpZ_eq rfl]
    rintro e w7 ⟨rfl, hb7⟩
    have d6 := (show Blk2 w7 _ _ _ _ from X8.to bW).cell
    have d6' := (show Blk2 w7 _ _ _ _ from X8.to bW).cell1
    go_wp2_with fail
    clear d6 d6'
    refine (integer_Sign _ _ _ 0 _ (h6'.to bW)).mono ?_
    rw [show sgn 0 = 0 from cmpZ_eq rfl]
    rintro e w8 ⟨rfl, hb8⟩
    go_wp2_with fail
    go_ret
    exact ⟨rfl, bW⟩
  · have HP := Lib.hid (show 0 < y.natAbs by omega)
    clear hy
    go_enter Try.func3, Try.ntmps3
    go_wp2_with fail
    have X1 := Blk2.newAt w (w.heap.size) 24 (.bool b) (.slice A n c) (by first | rfl | simp)
    have X2 := Blk2.newAt (w.alloc (.cells #[.bool b, .slice A n c] 24)) (w.heap.size + 1) 24 (.bool b') (.slice A' n' c') (by first | rfl | simp)
    replace X1 := (show Blk2 ((w.alloc (.cells #[.bool b, .slice A n c] 24)).alloc (.cells #[.bool b', .slice A' n' c'] 24)) _ _ _ _ from X1.to bW)
    have hbwe1 : Below w.heap.size w ((w.alloc (.cells #[.bool b, .slice A n c] 24)).alloc (.cells #[.bool b', .slice A' n' c'] 24)) := bW
    generalize ((w.alloc (.cells #[.bool b, .slice A n c] 24)).alloc (.cells #[.bool b', .slice A' n' c'] 24)) = we1 at X1 X2 hbwe1  ⊢
    refine (awake7 _).mono ?_
    rintro e w1 ⟨rfl, hb1⟩
    have d1 := (show Blk2 w1 _ _ _ _ from X1.to bW).cell
    have d1' := (show Blk2 w1 _ _ _ _ from X1.to bW).cell1
    have d2 := (show Blk2 w1 _ _ _ _ from X2.to bW).cell
    have d2' := (show Blk2 w1 _ _ _ _ from X2.to bW).cell1
    go_wp2_with fail
    clear d1 d1' d2 d2'
    have CX1 := (show Blk2 w1 _ _ _ _ from X1.to bW).cell
    have CX1' := (show Blk2 w1 _ _ _ _ from X1.to bW).cell1
    have CX2 := (show Blk2 w1 _ _ _ _ from X2.to bW).cell
    have CX2' := (show Blk2 w1 _ _ _ _ from X2.to bW).cell1
    refine wp_regionE [(8, 5, 29, #[.bool false, .slice none 0 0]), (9, 6, 29, #[.bool false, .slice none 0 0]), (10, 7, 34, #[.bool false, .slice none 0 0]), (11, 8, 34, #[.bool false, .slice none 0 0])] kR kR (mk_cons (mk_int gO rfl rfl rfl) (mk_cons (mk_int gO rfl rfl rfl) (mk_cons (mk_z gO rfl rfl rfl) (mk_cons (mk_z gO rfl rfl rfl) (mk_nil))))) (by exact fun _ _ _ _ _ h => h) (by exact fun _ _ _ _ _ h => h) (f := 12) (by rfl) ?_
    have hbdE1 : Below w1.heap.size w1 w1.drew := nxw (Below.refl _ _)
    generalize w1.drew = wdE1 at hbdE1 ⊢
    replace CX1 := cellB hbdE1 CX1
    replace CX1' := cellB hbdE1 CX1'
    replace CX2 := cellB hbdE1 CX2
    replace CX2' := cellB hbdE1 CX2'
    have hH := Lib.hid (Below.refl wdE1.heap.size wdE1)
    refine anyE_take (i := 0) (v := ?_) gO kR (by exact fun _ _ _ h => h) (Or.inl ⟨by rfl, ?_⟩) hH.out ?_
    rotate_left
    · intro w hSw; have c := cellB hSw CX1; have c' := cellB hSw CX1'; go_simp; try with_reducible rfl
    try simp only [Act.put, sX, sY, sZ]
    refine anyE_take (i := 2) (v := ?_) gO kR (by exact fun _ _ _ h => h) (Or.inl ⟨by rfl, ?_⟩) hH.out ?_
    rotate_left
    · intro w hSw; have c := cellB hSw CX2; have c' := cellB hSw CX2'; go_simp; try with_reducible rfl
    try simp only [Act.put, sX, sY, sZ]
    refine anyE_take (i := 4) (v := ?_) gO kR (by exact fun _ _ _ h => h) (Or.inl ⟨by rfl, ?_⟩) hH.out ?_
    rotate_left
    · intro w hSw; have c := cellB hSw CX1; have c' := cellB hSw CX1'; go_simp; try with_reducible rfl
    try simp only [Act.put, sX, sY, sZ]
    refine anyE_take (i := 6) (v := ?_) gO kR (by exact fun _ _ _ h => h) (Or.inl ⟨by rfl, ?_⟩) hH.out ?_
    rotate_left
    · intro w hSw; have c := cellB hSw CX2; have c' := cellB hSw CX2'; go_simp; try with_reducible rfl
    try simp only [Act.put, sX, sY, sZ]
    refine anyE_one (i := 1) gO kR (fun wi1_1 hbwi1_1 K hK => ?_)
    go_simp
    go_at_call 12
    refine (law7_Make b _ _ _ u _ (k1.to bW) (by omega)).mono ?_
    rw [← HSx.out]
    rintro e w2 ⟨A2, n2, c2, rfl, h2, hb2⟩
    have q2 := h2.le_of _ (ltx)
    go_simp
    refine hK.out _ _ (show Below wi1_1.heap.size wi1_1 w2 from bW) ?_
    clear hK K
    replace hH := Lib.hid (nx hH.out (show Below wdE1.heap.size wdE1 w2 from bW))
    try simp only [Act.put, sX, sY, sZ]
    refine anyE_one (i := 3) gO kR (fun wi1_3 hbwi1_3 K hK => ?_)
    go_simp
    go_at_call 12
    refine (law7_Make b' _ _ _ v _ (k2.to bW) (by omega)).mono ?_
    rw [← HSy.out]
    rintro e w3 ⟨A3, n3, c3, rfl, h3, hb3⟩
    have q3 := h3.le_of _ (lty)
    go_simp
    refine hK.out _ _ (show Below wi1_3.heap.size wi1_3 w3 from bW) ?_
    clear hK K
    replace hH := Lib.hid (nx hH.out (show Below w2.heap.size w2 w3 from bW))
    try simp only [Act.put, sX, sY, sZ]
    refine anyE_one (i := 5) gO kR (fun wi1_5 hbwi1_5 K hK => ?_)
    go_simp
    go_at_call 13
    refine (law7_Ref b _ _ _ u _ (k1.to bW) (by omega)).mono ?_
    rw [← HSx.out]
    rintro e w4 ⟨A4, n4, c4, rfl, h4, hb4⟩
    have l4 := h4.le_of (by decide) _ (rtx)
    go_simp
    refine hK.out _ _ (show Below wi1_5.heap.size wi1_5 w4 from bW) ?_
    clear hK K
    replace hH := Lib.hid (nx hH.out (show Below w3.heap.size w3 w4 from bW))
    try simp only [Act.put, sX, sY, sZ]
    refine anyE_one (i := 7) gO kR (fun wi1_7 hbwi1_7 K hK => ?_)
    go_simp
    go_at_call 13
    refine (law7_Ref b' _ _ _ v _ (k2.to bW) (by omega)).mono ?_
    rw [← HSy.out]
    rintro e w5 ⟨A5, n5, c5, rfl, h5, hb5⟩
    have l5 := h5.le_of (by decide) _ (rty)
    go_simp
    refine hK.out _ _ (show Below wi1_7.heap.size wi1_7 w5 from bW) ?_
    clear hK K
    replace hH := Lib.hid (nx hH.out (show Below w4.heap.size w4 w5 from bW))
    try simp only [Act.put, sX, sY, sZ]
    refine anyE_done kR (fun wzE1 hbzE1 => ?_)
    refine FinD_cons (fun gEX3 X3 hgEX3 hnEX3 => ?_)
    replace X3 : Blk2 wzE1 _ _ _ _ := X3
    clear hnEX3
    refine FinD_cons (fun gEX4 X4 hgEX4 hnEX4 => ?_)
    replace X4 : Blk2 wzE1 _ _ _ _ := X4
    have nEX4X3 : gEX4 ≠ gEX3 := fun e => hnEX4 (by simp [e])
    clear hnEX4
    refine FinD_cons (fun gEX5 X5 hgEX5 hnEX5 => ?_)
    replace X5 : Blk2 wzE1 _ _ _ _ := X5
    have nEX5X3 : gEX5 ≠ gEX3 := fun e => hnEX5 (by simp [e])
    have nEX5X4 : gEX5 ≠ gEX4 := fun e => hnEX5 (by simp [e])
    clear hnEX5
    refine FinD_cons (fun gEX6 X6 hgEX6 hnEX6 => ?_)
    replace X6 : Blk2 wzE1 _ _ _ _ := X6
    have nEX6X3 : gEX6 ≠ gEX3 := fun e => hnEX6 (by simp [e])
    have nEX6X4 : gEX6 ≠ gEX4 := fun e => hnEX6 (by simp [e])
    have nEX6X5 : gEX6 ≠ gEX5 := fun e => hnEX6 (by simp [e])
    clear hnEX6
    refine FinD_nil ?_
    try simp only [Act.put, sX, sY, sZ]
    replace h2 := (show NatAt wzE1 _ _ _ _ from h2.to bW)
    replace h3 := (show NatAt wzE1 _ _ _ _ from h3.to bW)
    replace h4 := (show NumAt _ _ wzE1 _ _ _ _ from h4.to bW)
    replace h5 := (show NumAt _ _ wzE1 _ _ _ _ from h5.to bW)
    have hbtE1 := Lib.hid (show Below w1.heap.size w1 wzE1 from nx hbdE1 (nx hH.out hbzE1))
    clear hH
    refine anyT_ready (rs := [12]) kR (by simp) (ReadyT.cons gO (fun K hK => ?_) ReadyT.nil)
    rw [if_pos (by rfl)]
    refine wp_store_int _ _ rfl rfl rfl X3 ?_
    replace X4 := X4.off2 (g := gEX3) nEX4X3 (.bool (bz x)) (.slice A2 n2 c2)
    replace X5 := X5.off2 (g := gEX3) nEX5X3 (.bool (bz x)) (.slice A2 n2 c2)
    replace X6 := X6.off2 (g := gEX3) nEX6X3 (.bool (bz x)) (.slice A2 n2 c2)
    replace h2 := h2.put2 X3 (.bool (bz x)) (.slice A2 n2 c2)
    replace h3 := h3.put2 X3 (.bool (bz x)) (.slice A2 n2 c2)
    replace h4 := h4.put2 X3 (.bool (bz x)) (.slice A2 n2 c2)
    replace h5 := h5.put2 X3 (.bool (bz x)) (.slice A2 n2 c2)
    replace hbtE1 := below_put2 hbtE1.out (g := gEX3) (Nat.le_trans hbdE1.size hgEX3) (.bool (bz x)) (.slice A2 n2 c2)
    replace X3 := X3.put2 (.bool (bz x)) (.slice A2 n2 c2)
    generalize put2 wzE1 gEX3 (.bool (bz x)) (.slice A2 n2 c2) = wsE2 at X3 X4 X5 X6 h2 h3 h4 h5 hbtE1 ⊢
    refine hK.out _ _ trivial (fun _ => ?_)
    clear hK K
    try simp only [Act.put, sX, sY, sZ]
    refine anyT_ready (rs := [13]) kR (by simp) (ReadyT.cons gO (fun K hK => ?_) ReadyT.nil)
    rw [if_pos (by rfl)]
    refine wp_store_int _ _ rfl rfl rfl X4 ?_
    replace X3 := X3.off2 (g := gEX4) (Ne.symm nEX4X3) (.bool (bz y)) (.slice A3 n3 c3)
    replace X5 := X5.off2 (g := gEX4) nEX5X4 (.bool (bz y)) (.slice A3 n3 c3)
    replace X6 := X6.off2 (g := gEX4) nEX6X4 (.bool (bz y)) (.slice A3 n3 c3)
    replace h2 := h2.put2 X4 (.bool (bz y)) (.slice A3 n3 c3)
    replace h3 := h3.put2 X4 (.bool (bz y)) (.slice A3 n3 c3)
    replace h4 := h4.put2 X4 (.bool (bz y)) (.slice A3 n3 c3)
    replace h5 := h5.put2 X4 (.bool (bz y)) (.slice A3 n3 c3)
    replace hbtE1 := below_put2 hbtE1 (g := gEX4) (Nat.le_trans hbdE1.size hgEX4) (.bool (bz y)) (.slice A3 n3 c3)
    replace X4 := X4.put2 (.bool (bz y)) (.slice A3 n3 c3)
    generalize put2 wsE2 gEX4 (.bool (bz y)) (.slice A3 n3 c3) = wsE3 at X4 X3 X5 X6 h2 h3 h4 h5 hbtE1 ⊢
    refine hK.out _ _ trivial (fun _ => ?_)
    clear hK K
    try simp only [Act.put, sX, sY, sZ]
    refine anyT_ready (rs := [14]) kR (by simp) (ReadyT.cons gO (fun K hK => ?_) ReadyT.nil)
    rw [if_pos (by rfl)]
    refine wp_store_z _ _ rfl rfl rfl X5 ?_
    replace X3 := X3.off2 (g := gEX5) (Ne.symm nEX5X3) (.bool (bz x)) (.slice A4 n4 c4)
    replace X4 := X4.off2 (g := gEX5) (Ne.symm nEX5X4) (.bool (bz x)) (.slice A4 n4 c4)
    replace X6 := X6.off2 (g := gEX5) nEX6X5 (.bool (bz x)) (.slice A4 n4 c4)
    replace h2 := h2.put2 X5 (.bool (bz x)) (.slice A4 n4 c4)
    replace h3 := h3.put2 X5 (.bool (bz x)) (.slice A4 n4 c4)
    replace h4 := h4.put2 X5 (.bool (bz x)) (.slice A4 n4 c4)
    replace h5 := h5.put2 X5 (.bool (bz x)) (.slice A4 n4 c4)
    replace hbtE1 := below_put2 hbtE1 (g := gEX5) (Nat.le_trans hbdE1.size hgEX5) (.bool (bz x)) (.slice A4 n4 c4)
    replace X5 := X5.put2 (.bool (bz x)) (.slice A4 n4 c4)
    generalize put2 wsE3 gEX5 (.bool (bz x)) (.slice A4 n4 c4) = wsE4 at X5 X3 X4 X6 h2 h3 h4 h5 hbtE1 ⊢
    refine hK.out _ _ trivial (fun _ => ?_)
    clear hK K
    try simp only [Act.put, sX, sY, sZ]
    refine anyT_ready (rs := [15]) kR (by simp) (ReadyT.cons gO (fun K hK => ?_) ReadyT.nil)
    rw [if_pos (by rfl)]
    refine wp_store_z _ _ rfl rfl rfl X6 ?_
    replace X3 := X3.off2 (g := gEX6) (Ne.symm nEX6X3) (.bool (bz y)) (.slice A5 n5 c5)
    replace X4 := X4.off2 (g := gEX6) (Ne.symm nEX6X4) (.bool (bz y)) (.slice A5 n5 c5)
    replace X5 := X5.off2 (g := gEX6) (Ne.symm nEX6X5) (.bool (bz y)) (.slice A5 n5 c5)
    replace h2 := h2.put2 X6 (.bool (bz y)) (.slice A5 n5 c5)
    replace h3 := h3.put2 X6 (.bool (bz y)) (.slice A5 n5 c5)
    replace h4 := h4.put2 X6 (.bool (bz y)) (.slice A5 n5 c5)
    replace h5 := h5.put2 X6 (.bool (bz y)) (.slice A5 n5 c5)
    replace hbtE1 := below_put2 hbtE1 (g := gEX6) (Nat.le_trans hbdE1.size hgEX6) (.bool (bz y)) (.slice A5 n5 c5)
    replace X6 := X6.put2 (.bool (bz y)) (.slice A5 n5 c5)
    generalize put2 wsE4 gEX6 (.bool (bz y)) (.slice A5 n5 c5) = wsE5 at X6 X3 X4 X5 h2 h3 h4 h5 hbtE1 ⊢
    refine hK.out _ _ trivial (fun _ => ?_)
    clear hK K
    try simp only [Act.put, sX, sY, sZ]
    refine anyT_done kR ?_ _
    clear CX1 CX1' CX2 CX2'
    have d3 := (show Blk2 wsE5 _ _ _ _ from X3.to bW).cell
    have d3' := (show Blk2 wsE5 _ _ _ _ from X3.to bW).cell1
    have d4 := (show Blk2 wsE5 _ _ _ _ from X4.to bW).cell
    have d4' := (show Blk2 wsE5 _ _ _ _ from X4.to bW).cell1
    go_wp2_with fail
    clear d3 d3' d4 d4'
    refine (integer_Div_pos _ _ _ x _ _ _ y _ (h2.to bW) (h3.to bW) (by omega) (by omega) HP.out).mono ?_
    rintro e w6 ⟨A6, n6, c6, A6', n6', c6', rfl, h6, h6', hb6⟩
    have q6 := h6.le_of _ (Nat.lt_of_le_of_lt (dq_le _ _) h2.lt)
    have q6' := h6'.le_of _ (Nat.lt_trans (dr_lt HP.out) h3.lt)
    have zn : (((n5 : Nat) : Int) == 0) = false := by have : n5 ≠ 0 := (fun e => by have := (h5.zero_iff (by decide)).2 e; have := HP.out; omega); simp; omega
    have d5 := (show Blk2 ((w6.alloc (.cells #[.bool (bz (dq x y)), .slice A6 n6 c6] 29)).alloc (.cells #[.bool (bz (dr x y)), .slice A6' n6' c6'] 29)) _ _ _ _ from X6.to bW).cell
    have d5' := (show Blk2 ((w6.alloc (.cells #[.bool (bz (dq x y)), .slice A6 n6 c6] 29)).alloc (.cells #[.bool (bz (dr x y)), .slice A6' n6' c6'] 29)) _ _ _ _ from X6.to bW).cell1
    have d6 := (show Blk2 ((w6.alloc (.cells #[.bool (bz (dq x y)), .slice A6 n6 c6] 29)).alloc (.cells #[.bool (bz (dr x y)), .slice A6' n6' c6'] 29)) _ _ _ _ from X5.to bW).cell
    have d6' := (show Blk2 ((w6.alloc (.cells #[.bool (bz (dq x y)), .slice A6 n6 c6] 29)).alloc (.cells #[.bool (bz (dr x y)), .slice A6' n6' c6'] 29)) _ _ _ _ from X5.to bW).cell1
    have d7 := (show Blk2 ((w6.alloc (.cells #[.bool (bz (dq x y)), .slice A6 n6 c6] 29)).alloc (.cells #[.bool (bz (dr x y)), .slice A6' n6' c6'] 29)) _ _ _ _ from X6.to bW).cell
    have d7' := (show Blk2 ((w6.alloc (.cells #[.bool (bz (dq x y)), .slice A6 n6 c6] 29)).alloc (.cells #[.bool (bz (dr x y)), .slice A6' n6' c6'] 29)) _ _ _ _ from X6.to bW).cell1
    go_wp2_with fail
    clear d5 d5' d6 d6' d7 d7'
    have X7 := Blk2.newAt w6 (w6.heap.size) 29 (.bool (bz (dq x y))) (.slice A6 n6 c6) (by first | rfl | simp)
    have X8 := Blk2.newAt (w6.alloc (.cells #[.bool (bz (dq x y)), .slice A6 n6 c6] 29)) (w6.heap.size + 1) 29 (.bool (bz (dr x y))) (.slice A6' n6' c6') (by first | rfl | simp)
    replace X7 := (show Blk2 ((w6.alloc (.cells #[.bool (bz (dq x y)), .slice A6 n6 c6] 29)).alloc (.cells #[.bool (bz (dr x y)), .slice A6' n6' c6'] 29)) _ _ _ _ from X7.to bW)
    have hbwe6 : Below w6.heap.size w6 ((w6.alloc (.cells #[.bool (bz (dq x y)), .slice A6 n6 c6] 29)).alloc (.cells #[.bool (bz (dr x y)), .slice A6' n6' c6'] 29)) := bW
    generalize ((w6.alloc (.cells #[.bool (bz (dq x y)), .slice A6 n6 c6] 29)).alloc (.cells #[.bool (bz (dr x y)), .slice A6' n6' c6'] 29)) = we6 at X7 X8 hbwe6  ⊢
    refine (ref7_Div _ _ _ x _ _ _ y _ (h4.to bW) (h5.to bW) (by omega) (by omega) HP.out).mono ?_
    rintro e w7 ⟨A7, n7, c7, A7', n7', c7', rfl, h7, h7', hb7⟩
    have l7 := h7.le_of (by decide) _ (Nat.lt_of_le_of_lt (dq_le _ _) h4.lt)
    have l7' := h7'.le_of (by decide) _ (Nat.lt_trans (dr_lt HP.out) h5.lt)
    have d8 := (show Blk2 ((w7.alloc (.cells #[.bool (bz (dq x y)), .slice A7 n7 c7] 34)).alloc (.cells #[.bool (bz (dr x y)), .slice A7' n7' c7'] 34)) _ _ _ _ from X7.to bW).cell
    have d8' := (show Blk2 ((w7.alloc (.cells #[.bool (bz (dq x y)), .slice A7 n7 c7] 34)).alloc (.cells #[.bool (bz (dr x y)), .slice A7' n7' c7'] 34)) _ _ _ _ from X7.to bW).cell1
    go_wp2_with fail
    clear d8 d8'
    have X9 := Blk2.newAt w7 (w7.heap.size) 34 (.bool (bz (dq x y))) (.slice A7 n7 c7) (by first | rfl | simp)
    have X10 := Blk2.newAt (w7.alloc (.cells #[.bool (bz (dq x y)), .slice A7 n7 c7] 34)) (w7.heap.size + 1) 34 (.bool (bz (dr x y))) (.slice A7' n7' c7') (by first | rfl | simp)
    replace X9 := (show Blk2 ((w7.alloc (.cells #[.bool (bz (dq x y)), .slice A7 n7 c7] 34)).alloc (.cells #[.bool (bz (dr x y)), .slice A7' n7' c7'] 34)) _ _ _ _ from X9.to bW)
    have hbwe7 : Below w7.heap.size w7 ((w7.alloc (.cells #[.bool (bz (dq x y)), .slice A7 n7 c7] 34)).alloc (.cells #[.bool (bz (dr x y)), .slice A7' n7' c7'] 34)) := bW
    generalize ((w7.alloc (.cells #[.bool (bz (dq x y)), .slice A7 n7 c7] 34)).alloc (.cells #[.bool (bz (dr x y)), .slice A7' n7' c7'] 34)) = we7 at X9 X10 hbwe7  ⊢
    refine (law7_Like _ _ _ _ _ _ (dq x y) _ (h6.to bW) (h7.to bW) (by omega) (by omega)).mono ?_
    rintro e w8 ⟨rfl, hb8⟩
    have d9 := (show Blk2 w8 _ _ _ _ from X8.to bW).cell
    have d9' := (show Blk2 w8 _ _ _ _ from X8.to bW).cell1
    have d10 := (show Blk2 w8 _ _ _ _ from X10.to bW).cell
    have d10' := (show Blk2 w8 _ _ _ _ from X10.to bW).cell1
    go_wp2_with fail
    clear d9 d9' d10 d10'
    refine (law7_Like _ _ _ _ _ _ (dr x y) _ (h6'.to bW) (h7'.to bW) (by omega) (by omega)).mono ?_
    rintro e w9 ⟨rfl, hb9⟩
    go_wp2_with fail
    go_ret
    exact ⟨rfl, bW⟩
end Go.Proofs.Ytihbpkljjmpkjaa
