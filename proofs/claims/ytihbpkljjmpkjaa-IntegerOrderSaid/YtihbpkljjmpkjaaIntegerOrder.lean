/- The walk of 'IntegerOrder'. -/
import Derived.Test.YtihbpkljjmpkjaaAwake7
import Derived.Test.YtihbpkljjmpkjaaTxtLaw3
set_option linter.unusedVariables false
set_option linter.unusedSimpArgs false
namespace Go.Proofs.Ytihbpkljjmpkjaa
open Go.RowKit
set_option maxRecDepth 100000
set_option maxHeartbeats 8000000 in
theorem law_IntegerOrder (b A n c u) (b' A' n' c' v) (b'' A'' n'' c'' t) (w : World) (k1 : Dig .u64 W w A n c u) (k2 : Dig .u64 W w A' n' c' v) (k3 : Dig .u64 W w A'' n'' c'' t) (r1 : n ≤ 17592186043904) (r2 : n' ≤ 17592186043904) (r3 : n'' ≤ 17592186043904) :
    Calls Try.prog 6 #[.agg #[.bool b, .slice A n c], .agg #[.bool b', .slice A' n' c'], .agg #[.bool b'', .slice A'' n'' c'']] w (Ret w (.bool true)) := by
  obtain ⟨x, hx⟩ : ∃ x : Int, x = sg b u := ⟨_, rfl⟩
  have HSx := Lib.hid hx
  have ltx : x.natAbs < W ^ n := by rw [hx, sg_abs]; exact k1.lt
  have rtx : x.natAbs < 65536 ^ (4 * n) := by rw [Nat.pow_mul]; exact ltx
  obtain ⟨y, hy⟩ : ∃ y : Int, y = sg b' v := ⟨_, rfl⟩
  have HSy := Lib.hid hy
  have lty : y.natAbs < W ^ n' := by rw [hy, sg_abs]; exact k2.lt
  have rty : y.natAbs < 65536 ^ (4 * n') := by rw [Nat.pow_mul]; exact lty
  obtain ⟨z, hz⟩ : ∃ z : Int, z = sg b'' t := ⟨_, rfl⟩
  have HSz := Lib.hid hz
  have ltz : z.natAbs < W ^ n'' := by rw [hz, sg_abs]; exact k3.lt
  have rtz : z.natAbs < 65536 ^ (4 * n'') := by rw [Nat.pow_mul]; exact ltz
  clear hx hy hz
  rcases Int.lt_trichotomy y x with hxy | hxy | hxy
  · have HV := Lib.hid (cmpZ_gt hxy)
    clear hxy
    go_enter Try.func6, Try.ntmps6
    go_wp2_with fail
    have X1 := Blk2.newAt w (w.heap.size) 24 (.bool b) (.slice A n c) (by first | rfl | simp)
    have X2 := Blk2.newAt (w.alloc (.cells #[.bool b, .slice A n c] 24)) (w.heap.size + 1) 24 (.bool b') (.slice A' n' c') (by first | rfl | simp)
    have X3 := Blk2.newAt ((w.alloc (.cells #[.bool b, .slice A n c] 24)).alloc (.cells #[.bool b', .slice A' n' c'] 24)) (w.heap.size + 1 + 1) 24 (.bool b'') (.slice A'' n'' c'') (by first | rfl | simp)
    replace X1 := (show Blk2 (((w.alloc (.cells #[.bool b, .slice A n c] 24)).alloc (.cells #[.bool b', .slice A' n' c'] 24)).alloc (.cells #[.bool b'', .slice A'' n'' c''] 24)) _ _ _ _ from X1.to bW)
    replace X2 := (show Blk2 (((w.alloc (.cells #[.bool b, .slice A n c] 24)).alloc (.cells #[.bool b', .slice A' n' c'] 24)).alloc (.cells #[.bool b'', .slice A'' n'' c''] 24)) _ _ _ _ from X2.to bW)
    have hbwe1 : Below w.heap.size w (((w.alloc (.cells #[.bool b, .slice A n c] 24)).alloc (.cells #[.bool b', .slice A' n' c'] 24)).alloc (.cells #[.bool b'', .slice A'' n'' c''] 24)) := bW
    generalize (((w.alloc (.cells #[.bool b, .slice A n c] 24)).alloc (.cells #[.bool b', .slice A' n' c'] 24)).alloc (.cells #[.bool b'', .slice A'' n'' c''] 24)) = we1 at X1 X2 X3 hbwe1  ⊢
    refine (awake7 _).mono ?_
    rintro e w1 ⟨rfl, hb1⟩
    go_wp2_with fail
    have CX1 := (show Blk2 w1 _ _ _ _ from X1.to bW).cell
    have CX1' := (show Blk2 w1 _ _ _ _ from X1.to bW).cell1
    have CX2 := (show Blk2 w1 _ _ _ _ from X2.to bW).cell
    have CX2' := (show Blk2 w1 _ _ _ _ from X2.to bW).cell1
    have CX3 := (show Blk2 w1 _ _ _ _ from X3.to bW).cell
    have CX3' := (show Blk2 w1 _ _ _ _ from X3.to bW).cell1
    refine wp_regionE [(6, 7, 29, #[.bool false, .slice none 0 0]), (7, 8, 29, #[.bool false, .slice none 0 0]), (8, 9, 29, #[.bool false, .slice none 0 0])] kR kR (mk_cons (mk_int gO rfl rfl rfl) (mk_cons (mk_int gO rfl rfl rfl) (mk_cons (mk_int gO rfl rfl rfl) (mk_nil)))) (by exact fun _ _ _ _ _ h => h) (by exact fun _ _ _ _ _ h => h) (f := 9) (by rfl) ?_
    have hbdE1 : Below w1.heap.size w1 w1.drew := nxw (Below.refl _ _)
    generalize w1.drew = wdE1 at hbdE1 ⊢
    replace CX1 := cellB hbdE1 CX1
    replace CX1' := cellB hbdE1 CX1'
    replace CX2 := cellB hbdE1 CX2
    replace CX2' := cellB hbdE1 CX2'
    replace CX3 := cellB hbdE1 CX3
    replace CX3' := cellB hbdE1 CX3'
    have hH := Lib.hid (Below.refl wdE1.heap.size wdE1)
    refine anyE_take (i := 0) (v := ?_) gO kR (by exact fun _ _ _ h => h) (Or.inl ⟨by rfl, ?_⟩) hH.out ?_
    rotate_left
    · intro w hSw; have c := cellB hSw CX1; have c' := cellB hSw CX1'; go_simp; try with_reducible rfl
    try simp only [Act.put, sX, sY, sZ]
    refine anyE_take (i := 2) (v := ?_) gO kR (by exact fun _ _ _ h => h) (Or.inl ⟨by rfl, ?_⟩) hH.out ?_
    rotate_left
    · intro w hSw; have c := cellB hSw CX2; have c' := cellB hSw CX2'; go_simp; try with_reducible rfl
    try simp only [Act.put, sX, sY, sZ]
    refine anyE_take (i := 4) (v := ?_) gO kR (by exact fun _ _ _ h => h) (Or.inl ⟨by rfl, ?_⟩) hH.out ?_
    rotate_left
    · intro w hSw; have c := cellB hSw CX3; have c' := cellB hSw CX3'; go_simp; try with_reducible rfl
    try simp only [Act.put, sX, sY, sZ]
    refine anyE_one (i := 1) gO kR (fun wi1_1 hbwi1_1 K hK => ?_)
    go_simp
    go_at_call 12
    refine (law7_Make b _ _ _ u _ (k1.to bW) (by omega)).mono ?_
    rw [← HSx.out]
    rintro e w2 ⟨A2, n2, c2, rfl, h2, hb2⟩
    have q2 := h2.le_of _ (ltx)
    go_simp
    refine hK.out _ _ (show Below wi1_1.heap.size wi1_1 w2 from bW) ?_
    clear hK K
    replace hH := Lib.hid (nx hH.out (show Below wdE1.heap.size wdE1 w2 from bW))
    try simp only [Act.put, sX, sY, sZ]
    refine anyE_one (i := 3) gO kR (fun wi1_3 hbwi1_3 K hK => ?_)
    go_simp
    go_at_call 12
    refine (law7_Make b' _ _ _ v _ (k2.to bW) (by omega)).mono ?_
    rw [← HSy.out]
    rintro e w3 ⟨A3, n3, c3, rfl, h3, hb3⟩
    have q3 := h3.le_of _ (lty)
    go_simp
    refine hK.out _ _ (show Below wi1_3.heap.size wi1_3 w3 from bW) ?_
    clear hK K
    replace hH := Lib.hid (nx hH.out (show Below w2.heap.size w2 w3 from bW))
    try simp only [Act.put, sX, sY, sZ]
    refine anyE_one (i := 5) gO kR (fun wi1_5 hbwi1_5 K hK => ?_)
    go_simp
    go_at_call 12
    refine (law7_Make b'' _ _ _ t _ (k3.to bW) (by omega)).mono ?_
    rw [← HSz.out]
    rintro e w4 ⟨A4, n4, c4, rfl, h4, hb4⟩
    have q4 := h4.le_of _ (ltz)
    go_simp
    refine hK.out _ _ (show Below wi1_5.heap.size wi1_5 w4 from bW) ?_
    clear hK K
    replace hH := Lib.hid (nx hH.out (show Below w3.heap.size w3 w4 from bW))
    try simp only [Act.put, sX, sY, sZ]
    refine anyE_done kR (fun wzE1 hbzE1 => ?_)
    refine FinD_cons (fun gEX4 X4 hgEX4 hnEX4 => ?_)
    replace X4 : Blk2 wzE1 _ _ _ _ := X4
    clear hnEX4
    refine FinD_cons (fun gEX5 X5 hgEX5 hnEX5 => ?_)
    replace X5 : Blk2 wzE1 _ _ _ _ := X5
    have nEX5X4 : gEX5 ≠ gEX4 := fun e => hnEX5 (by simp [e])
    clear hnEX5
    refine FinD_cons (fun gEX6 X6 hgEX6 hnEX6 => ?_)
    replace X6 : Blk2 wzE1 _ _ _ _ := X6
    have nEX6X4 : gEX6 ≠ gEX4 := fun e => hnEX6 (by simp [e])
    have nEX6X5 : gEX6 ≠ gEX5 := fun e => hnEX6 (by simp [e])
    clear hnEX6
    refine FinD_nil ?_
    try simp only [Act.put, sX, sY, sZ]
    replace h2 := (show NatAt wzE1 _ _ _ _ from h2.to bW)
    replace h3 := (show NatAt wzE1 _ _ _ _ from h3.to bW)
    replace h4 := (show NatAt wzE1 _ _ _ _ from h4.to bW)
    have hbtE1 := Lib.hid (show Below w1.heap.size w1 wzE1 from nx hbdE1 (nx hH.out hbzE1))
    clear hH
    refine anyT_ready (rs := [9]) kR (by simp) (ReadyT.cons gO (fun K hK => ?_) ReadyT.nil)
    rw [if_pos (by rfl)]
    refine wp_store_int _ _ rfl rfl rfl X4 ?_
    replace X5 := X5.off2 (g := gEX4) nEX5X4 (.bool (bz x)) (.slice A2 n2 c2)
    replace X6 := X6.off2 (g := gEX4) nEX6X4 (.bool (bz x)) (.slice A2 n2 c2)
    replace h2 := h2.put2 X4 (.bool (bz x)) (.slice A2 n2 c2)
    replace h3 := h3.put2 X4 (.bool (bz x)) (.slice A2 n2 c2)
    replace h4 := h4.put2 X4 (.bool (bz x)) (.slice A2 n2 c2)
    replace hbtE1 := below_put2 hbtE1.out (g := gEX4) (Nat.le_trans hbdE1.size hgEX4) (.bool (bz x)) (.slice A2 n2 c2)
    replace X4 := X4.put2 (.bool (bz x)) (.slice A2 n2 c2)
    generalize put2 wzE1 gEX4 (.bool (bz x)) (.slice A2 n2 c2) = wsE2 at X4 X5 X6 h2 h3 h4 hbtE1 ⊢
    refine hK.out _ _ trivial (fun _ => ?_)
    clear hK K
    try simp only [Act.put, sX, sY, sZ]
    refine anyT_ready (rs := [10]) kR (by simp) (ReadyT.cons gO (fun K hK => ?_) ReadyT.nil)
    rw [if_pos (by rfl)]
    refine wp_store_int _ _ rfl rfl rfl X5 ?_
    replace X4 := X4.off2 (g := gEX5) (Ne.symm nEX5X4) (.bool (bz y)) (.slice A3 n3 c3)
    replace X6 := X6.off2 (g := gEX5) nEX6X5 (.bool (bz y)) (.slice A3 n3 c3)
    replace h2 := h2.put2 X5 (.bool (bz y)) (.slice A3 n3 c3)
    replace h3 := h3.put2 X5 (.bool (bz y)) (.slice A3 n3 c3)
    replace h4 := h4.put2 X5 (.bool (bz y)) (.slice A3 n3 c3)
    replace hbtE1 := below_put2 hbtE1 (g := gEX5) (Nat.le_trans hbdE1.size hgEX5) (.bool (bz y)) (.slice A3 n3 c3)
    replace X5 := X5.put2 (.bool (bz y)) (.slice A3 n3 c3)
    generalize put2 wsE2 gEX5 (.bool (bz y)) (.slice A3 n3 c3) = wsE3 at X5 X4 X6 h2 h3 h4 hbtE1 ⊢
    refine hK.out _ _ trivial (fun _ => ?_)
    clear hK K
    try simp only [Act.put, sX, sY, sZ]
    refine anyT_ready (rs := [11]) kR (by simp) (ReadyT.cons gO (fun K hK => ?_) ReadyT.nil)
    rw [if_pos (by rfl)]
    refine wp_store_int _ _ rfl rfl rfl X6 ?_
    replace X4 := X4.off2 (g := gEX6) (Ne.symm nEX6X4) (.bool (bz z)) (.slice A4 n4 c4)
    replace X5 := X5.off2 (g := gEX6) (Ne.symm nEX6X5) (.bool (bz z)) (.slice A4 n4 c4)
    replace h2 := h2.put2 X6 (.bool (bz z)) (.slice A4 n4 c4)
    replace h3 := h3.put2 X6 (.bool (bz z)) (.slice A4 n4 c4)
    replace h4 := h4.put2 X6 (.bool (bz z)) (.slice A4 n4 c4)
    replace hbtE1 := below_put2 hbtE1 (g := gEX6) (Nat.le_trans hbdE1.size hgEX6) (.bool (bz z)) (.slice A4 n4 c4)
    replace X6 := X6.put2 (.bool (bz z)) (.slice A4 n4 c4)
    generalize put2 wsE3 gEX6 (.bool (bz z)) (.slice A4 n4 c4) = wsE4 at X6 X4 X5 h2 h3 h4 hbtE1 ⊢
    refine hK.out _ _ trivial (fun _ => ?_)
    clear hK K
    try simp only [Act.put, sX, sY, sZ]
    refine anyT_done kR ?_ _
    clear CX1 CX1' CX2 CX2' CX3 CX3'
    have d1 := (show Blk2 wsE4 _ _ _ _ from X4.to bW).cell
    have d1' := (show Blk2 wsE4 _ _ _ _ from X4.to bW).cell1
    have d2 := (show Blk2 wsE4 _ _ _ _ from X5.to bW).cell
    have d2' := (show Blk2 wsE4 _ _ _ _ from X5.to bW).cell1
    go_wp2_with fail
    clear d1 d1' d2 d2'
    refine (integer_Cmp _ _ _ x _ _ _ y _ (h2.to bW) (h3.to bW)).mono ?_
    rw [HV.out]
    rintro e w5 ⟨rfl, hb5⟩
    have d3 := (show Blk2 w5 _ _ _ _ from X5.to bW).cell
    have d3' := (show Blk2 w5 _ _ _ _ from X5.to bW).cell1
    have d4 := (show Blk2 w5 _ _ _ _ from X4.to bW).cell
    have d4' := (show Blk2 w5 _ _ _ _ from X4.to bW).cell1
    go_wp2_with fail
    clear d3 d3' d4 d4'
    refine (integer_Cmp _ _ _ y _ _ _ x _ (h3.to bW) (h2.to bW)).mono ?_
    rw [cmpZ_swap x y, HV.out]
    rintro e w6 ⟨rfl, hb6⟩
    go_wp2_with fail
    have CX4 := (show Blk2 w6 _ _ _ _ from X4.to bW).cell
    have CX4' := (show Blk2 w6 _ _ _ _ from X4.to bW).cell1
    have CX6 := (show Blk2 w6 _ _ _ _ from X6.to bW).cell
    have CX6' := (show Blk2 w6 _ _ _ _ from X6.to bW).cell1
    have CX5 := (show Blk2 w6 _ _ _ _ from X5.to bW).cell
    have CX5' := (show Blk2 w6 _ _ _ _ from X5.to bW).cell1
    refine wp_regionE [] kR kR (mk_nil) (by exact fun _ _ _ _ _ h => h) (by exact fun _ _ _ _ _ h => h) (f := 20) (by rfl) ?_
    have hbdE2 : Below w6.heap.size w6 w6.drew := nxw (Below.refl _ _)
    generalize w6.drew = wdE2 at hbdE2 ⊢
    replace CX4 := cellB hbdE2 CX4
    replace CX4' := cellB hbdE2 CX4'
    replace CX6 := cellB hbdE2 CX6
    replace CX6' := cellB hbdE2 CX6'
    replace CX5 := cellB hbdE2 CX5
    replace CX5' := cellB hbdE2 CX5'
    have hH := Lib.hid (Below.refl wdE2.heap.size wdE2)
    refine anyE_take (i := 0) (v := ?_) gO kR (by exact fun _ _ _ h => h) (Or.inl ⟨by rfl, ?_⟩) hH.out ?_
    rotate_left
    · intro w hSw; have c := cellB hSw CX4; have c' := cellB hSw CX4'; go_simp; try with_reducible rfl
    try simp only [Act.put, sX, sY, sZ]
    refine anyE_take (i := 1) (v := ?_) gO kR (by exact fun _ _ _ h => h) (Or.inl ⟨by rfl, ?_⟩) hH.out ?_
    rotate_left
    · intro w hSw; have c := cellB hSw CX6; have c' := cellB hSw CX6'; go_simp; try with_reducible rfl
    try simp only [Act.put, sX, sY, sZ]
    refine anyE_take (i := 3) (v := ?_) gO kR (by exact fun _ _ _ h => h) (Or.inl ⟨by rfl, ?_⟩) hH.out ?_
    rotate_left
    · intro w hSw; have c := cellB hSw CX5; have c' := cellB hSw CX5'; go_simp; try with_reducible rfl
    try simp only [Act.put, sX, sY, sZ]
    refine anyE_take (i := 4) (v := ?_) gO kR (by exact fun _ _ _ h => h) (Or.inl ⟨by rfl, ?_⟩) hH.out ?_
    rotate_left
    · intro w hSw; have c := cellB hSw CX6; have c' := cellB hSw CX6'; go_simp; try with_reducible rfl
    try simp only [Act.put, sX, sY, sZ]
    refine anyE_take (i := 7) (v := ?_) gO kR (by exact fun _ _ _ h => h) (Or.inl ⟨by rfl, ?_⟩) hH.out ?_
    rotate_left
    · intro w hSw; go_simp; try with_reducible rfl
    try simp only [Act.put, sX, sY, sZ]
    refine anyE_one (i := 2) gO kR (fun wi2_2 hbwi2_2 K hK => ?_)
    go_simp
    go_at_call 24
    refine (integer_Add _ _ _ x _ _ _ z _ (h2.to bW) (h4.to bW) (by omega) (by omega)).mono ?_
    rintro e w7 ⟨A7, n7, c7, rfl, h7, hb7⟩
    have q7 := h7.le_of _ (zadd_lt h2.lt h4.lt)
    go_simp
    refine hK.out _ _ (show Below wi2_2.heap.size wi2_2 w7 from bW) ?_
    clear hK K
    replace hH := Lib.hid (nx hH.out (show Below wdE2.heap.size wdE2 w7 from bW))
    try simp only [Act.put, sX, sY, sZ]
    refine anyE_one (i := 5) gO kR (fun wi2_5 hbwi2_5 K hK => ?_)
    go_simp
    go_at_call 24
    refine (integer_Add _ _ _ y _ _ _ z _ (h3.to bW) (h4.to bW) (by omega) (by omega)).mono ?_
    rintro e w8 ⟨A8, n8, c8, rfl, h8, hb8⟩
    have q8 := h8.le_of _ (zadd_lt h3.lt h4.lt)
    go_simp
    refine hK.out _ _ (show Below wi2_5.heap.size wi2_5 w8 from bW) ?_
    clear hK K
    replace hH := Lib.hid (nx hH.out (show Below w7.heap.size w7 w8 from bW))
    try simp only [Act.put, sX, sY, sZ]
    refine anyE_one (i := 6) gO kR (fun wi2_6 hbwi2_6 K hK => ?_)
    go_simp
    go_at_call 23
    refine (integer_Cmp _ _ _ (x + z) _ _ _ (y + z) _ (h7.to bW) (h8.to bW)).mono ?_
    rw [cmpZ_add, HV.out]
    rintro e w9 ⟨rfl, hb9⟩
    go_simp
    refine hK.out _ _ (show Below wi2_6.heap.size wi2_6 w9 from bW) ?_
    clear hK K
    replace hH := Lib.hid (nx hH.out (show Below w8.heap.size w8 w9 from bW))
    try simp only [Act.put, sX, sY, sZ]
    refine anyE_take (i := 8) (v := ?_) gO kR (by exact fun _ _ _ h => h) (Or.inl ⟨by rfl, ?_⟩) hH.out ?_
    rotate_left
    · intro w hSw; go_simp; try with_reducible rfl
    try simp only [Act.put, sX, sY, sZ]
    refine anyE_take (i := 9) (v := ?_) gO kR (by exact fun _ _ _ h => h) (Or.inl ⟨by rfl, ?_⟩) hH.out ?_
    rotate_left
    · intro w hSw; go_simp; try with_reducible rfl
    try simp only [Act.put, sX, sY, sZ]
    refine anyE_take (i := 10) (v := ?_) gO kR (by exact fun _ _ _ h => h) (Or.inl ⟨by rfl, ?_⟩) hH.out ?_
    rotate_left
    · intro w hSw; have c := cellB hSw CX4; have c' := cellB hSw CX4'; go_simp; try with_reducible rfl
    try simp only [Act.put, sX, sY, sZ]
    refine anyE_take (i := 12) (v := ?_) gO kR (by exact fun _ _ _ h => h) (Or.inl ⟨by rfl, ?_⟩) hH.out ?_
    rotate_left
    · intro w hSw; have c := cellB hSw CX5; have c' := cellB hSw CX5'; go_simp; try with_reducible rfl
    try simp only [Act.put, sX, sY, sZ]
    refine anyE_take (i := 15) (v := ?_) gO kR (by exact fun _ _ _ h => h) (Or.inl ⟨by rfl, ?_⟩) hH.out ?_
    rotate_left
    · intro w hSw; go_simp; try with_reducible rfl
    try simp only [Act.put, sX, sY, sZ]
    refine anyE_take (i := 16) (v := ?_) gO kR (by exact fun _ _ _ h => h) (Or.inl ⟨by rfl, ?_⟩) hH.out ?_
    rotate_left
    · intro w hSw; go_simp; try with_reducible rfl
    try simp only [Act.put, sX, sY, sZ]
    refine anyE_one (i := 11) gO kR (fun wi2_11 hbwi2_11 K hK => ?_)
    go_simp
    go_at_call 25
    refine (integer_Neg _ _ _ x _ (h2.to bW)).mono ?_
    rintro e w10 ⟨A10, n10, c10, rfl, h10, hb10⟩
    have q10 := h10.le_of _ (show (-x).natAbs < _ by rw [Int.natAbs_neg]; exact h2.lt)
    go_simp
    refine hK.out _ _ (show Below wi2_11.heap.size wi2_11 w10 from bW) ?_
    clear hK K
    replace hH := Lib.hid (nx hH.out (show Below w9.heap.size w9 w10 from bW))
    try simp only [Act.put, sX, sY, sZ]
    refine anyE_one (i := 13) gO kR (fun wi2_13 hbwi2_13 K hK => ?_)
    go_simp
    go_at_call 25
    refine (integer_Neg _ _ _ y _ (h3.to bW)).mono ?_
    rintro e w11 ⟨A11, n11, c11, rfl, h11, hb11⟩
    have q11 := h11.le_of _ (show (-y).natAbs < _ by rw [Int.natAbs_neg]; exact h3.lt)
    go_simp
    refine hK.out _ _ (show Below wi2_13.heap.size wi2_13 w11 from bW) ?_
    clear hK K
    replace hH := Lib.hid (nx hH.out (show Below w10.heap.size w10 w11 from bW))
    try simp only [Act.put, sX, sY, sZ]
    refine anyE_one (i := 14) gO kR (fun wi2_14 hbwi2_14 K hK => ?_)
    go_simp
    go_at_call 23
    refine (integer_Cmp _ _ _ (-x) _ _ _ (-y) _ (h10.to bW) (h11.to bW)).mono ?_
    rw [cmpZ_neg, HV.out]
    rintro e w12 ⟨rfl, hb12⟩
    go_simp
    refine hK.out _ _ (show Below wi2_14.heap.size wi2_14 w12 from bW) ?_
    clear hK K
    replace hH := Lib.hid (nx hH.out (show Below w11.heap.size w11 w12 from bW))
    try simp only [Act.put, sX, sY, sZ]
    refine anyE_take (i := 17) (v := ?_) gO kR (by exact fun _ _ _ h => h) (Or.inl ⟨by rfl, ?_⟩) hH.out ?_
    rotate_left
    · intro w hSw; go_simp; try with_reducible rfl
    try simp only [Act.put, sX, sY, sZ]
    refine anyE_take (i := 18) (v := ?_) gO kR (by exact fun _ _ _ h => h) (Or.inl ⟨by rfl, ?_⟩) hH.out ?_
    rotate_left
    · intro w hSw; go_simp; try with_reducible rfl
    try simp only [Act.put, sX, sY, sZ]
    refine anyE_take (i := 19) (v := ?_) gO kR (by exact fun _ _ _ h => h) (Or.inl ⟨by rfl, ?_⟩) hH.out ?_
    rotate_left
    · intro w hSw; go_simp; try with_reducible rfl
    try simp only [Act.put, sX, sY, sZ]
    refine anyE_done kR (fun wzE2 hbzE2 => ?_)
    refine FinD_nil ?_
    try simp only [Act.put, sX, sY, sZ]
    have hbtE2 := Lib.hid (show Below w6.heap.size w6 wzE2 from nx hbdE2 (nx hH.out hbzE2))
    clear hH
    refine anyT_done kR ?_ _
    clear CX4 CX4' CX6 CX6' CX5 CX5'
    go_wp2_with fail
    go_ret
    exact ⟨rfl, bW⟩
  · have HV := Lib.hid (cmpZ_eq hxy.symm)
    by_cases h1 : y ≤ z
    rotate_left
    · have HY := Lib.hid (cmpZ_gt (show z < y by omega))
      clear hxy h1
      go_enter Try.func6, Try.ntmps6
      go_wp2_with fail
      have X1 := Blk2.newAt w (w.heap.size) 24 (.bool b) (.slice A n c) (by first | rfl | simp)
      have X2 := Blk2.newAt (w.alloc (.cells #[.bool b, .slice A n c] 24)) (w.heap.size + 1) 24 (.bool b') (.slice A' n' c') (by first | rfl | simp)
      have X3 := Blk2.newAt ((w.alloc (.cells #[.bool b, .slice A n c] 24)).alloc (.cells #[.bool b', .slice A' n' c'] 24)) (w.heap.size + 1 + 1) 24 (.bool b'') (.slice A'' n'' c'') (by first | rfl | simp)
      replace X1 := (show Blk2 (((w.alloc (.cells #[.bool b, .slice A n c] 24)).alloc (.cells #[.bool b', .slice A' n' c'] 24)).alloc (.cells #[.bool b'', .slice A'' n'' c''] 24)) _ _ _ _ from X1.to bW)
      replace X2 := (show Blk2 (((w.alloc (.cells #[.bool b, .slice A n c] 24)).alloc (.cells #[.bool b', .slice A' n' c'] 24)).alloc (.cells #[.bool b'', .slice A'' n'' c''] 24)) _ _ _ _ from X2.to bW)
      have hbwe1 : Below w.heap.size w (((w.alloc (.cells #[.bool b, .slice A n c] 24)).alloc (.cells #[.bool b', .slice A' n' c'] 24)).alloc (.cells #[.bool b'', .slice A'' n'' c''] 24)) := bW
      generalize (((w.alloc (.cells #[.bool b, .slice A n c] 24)).alloc (.cells #[.bool b', .slice A' n' c'] 24)).alloc (.cells #[.bool b'', .slice A'' n'' c''] 24)) = we1 at X1 X2 X3 hbwe1  ⊢
      refine (awake7 _).mono ?_
      rintro e w1 ⟨rfl, hb1⟩
      go_wp2_with fail
      have CX1 := (show Blk2 w1 _ _ _ _ from X1.to bW).cell
      have CX1' := (show Blk2 w1 _ _ _ _ from X1.to bW).cell1
      have CX2 := (show Blk2 w1 _ _ _ _ from X2.to bW).cell
      have CX2' := (show Blk2 w1 _ _ _ _ from X2.to bW).cell1
      have CX3 := (show Blk2 w1 _ _ _ _ from X3.to bW).cell
      have CX3' := (show Blk2 w1 _ _ _ _ from X3.to bW).cell1
      refine wp_regionE [(6, 7, 29, #[.bool false, .slice none 0 0]), (7, 8, 29, #[.bool false, .slice none 0 0]), (8, 9, 29, #[.bool false, .slice none 0 0])] kR kR (mk_cons (mk_int gO rfl rfl rfl) (mk_cons (mk_int gO rfl rfl rfl) (mk_cons (mk_int gO rfl rfl rfl) (mk_nil)))) (by exact fun _ _ _ _ _ h => h) (by exact fun _ _ _ _ _ h => h) (f := 9) (by rfl) ?_
      have hbdE1 : Below w1.heap.size w1 w1.drew := nxw (Below.refl _ _)
      generalize w1.drew = wdE1 at hbdE1 ⊢
      replace CX1 := cellB hbdE1 CX1
      replace CX1' := cellB hbdE1 CX1'
      replace CX2 := cellB hbdE1 CX2
      replace CX2' := cellB hbdE1 CX2'
      replace CX3 := cellB hbdE1 CX3
      replace CX3' := cellB hbdE1 CX3'
      have hH := Lib.hid (Below.refl wdE1.heap.size wdE1)
      refine anyE_take (i := 0) (v := ?_) gO kR (by exact fun _ _ _ h => h) (Or.inl ⟨by rfl, ?_⟩) hH.out ?_
      rotate_left
      · intro w hSw; have c := cellB hSw CX1; have c' := cellB hSw CX1'; go_simp; try with_reducible rfl
      try simp only [Act.put, sX, sY, sZ]
      refine anyE_take (i := 2) (v := ?_) gO kR (by exact fun _ _ _ h => h) (Or.inl ⟨by rfl, ?_⟩) hH.out ?_
      rotate_left
      · intro w hSw; have c := cellB hSw CX2; have c' := cellB hSw CX2'; go_simp; try with_reducible rfl
      try simp only [Act.put, sX, sY, sZ]
      refine anyE_take (i := 4) (v := ?_) gO kR (by exact fun _ _ _ h => h) (Or.inl ⟨by rfl, ?_⟩) hH.out ?_
      rotate_left
      · intro w hSw; have c := cellB hSw CX3; have c' := cellB hSw CX3'; go_simp; try with_reducible rfl
      try simp only [Act.put, sX, sY, sZ]
      refine anyE_one (i := 1) gO kR (fun wi1_1 hbwi1_1 K hK => ?_)
      go_simp
      go_at_call 12
      refine (law7_Make b _ _ _ u _ (k1.to bW) (by omega)).mono ?_
      rw [← HSx.out]
      rintro e w2 ⟨A2, n2, c2, rfl, h2, hb2⟩
      have q2 := h2.le_of _ (ltx)
      go_simp
      refine hK.out _ _ (show Below wi1_1.heap.size wi1_1 w2 from bW) ?_
      clear hK K
      replace hH := Lib.hid (nx hH.out (show Below wdE1.heap.size wdE1 w2 from bW))
      try simp only [Act.put, sX, sY, sZ]
      refine anyE_one (i := 3) gO kR (fun wi1_3 hbwi1_3 K hK => ?_)
      go_simp
      go_at_call 12
      refine (law7_Make b' _ _ _ v _ (k2.to bW) (by omega)).mono ?_
      rw [← HSy.out]
      rintro e w3 ⟨A3, n3, c3, rfl, h3, hb3⟩
      have q3 := h3.le_of _ (lty)
      go_simp
      refine hK.out _ _ (show Below wi1_3.heap.size wi1_3 w3 from bW) ?_
      clear hK K
      replace hH := Lib.hid (nx hH.out (show Below w2.heap.size w2 w3 from bW))
      try simp only [Act.put, sX, sY, sZ]
      refine anyE_one (i := 5) gO kR (fun wi1_5 hbwi1_5 K hK => ?_)
      go_simp
      go_at_call 12
      refine (law7_Make b'' _ _ _ t _ (k3.to bW) (by omega)).mono ?_
      rw [← HSz.out]
      rintro e w4 ⟨A4, n4, c4, rfl, h4, hb4⟩
      have q4 := h4.le_of _ (ltz)
      go_simp
      refine hK.out _ _ (show Below wi1_5.heap.size wi1_5 w4 from bW) ?_
      clear hK K
      replace hH := Lib.hid (nx hH.out (show Below w3.heap.size w3 w4 from bW))
      try simp only [Act.put, sX, sY, sZ]
      refine anyE_done kR (fun wzE1 hbzE1 => ?_)
      refine FinD_cons (fun gEX4 X4 hgEX4 hnEX4 => ?_)
      replace X4 : Blk2 wzE1 _ _ _ _ := X4
      clear hnEX4
      refine FinD_cons (fun gEX5 X5 hgEX5 hnEX5 => ?_)
      replace X5 : Blk2 wzE1 _ _ _ _ := X5
      have nEX5X4 : gEX5 ≠ gEX4 := fun e => hnEX5 (by simp [e])
      clear hnEX5
      refine FinD_cons (fun gEX6 X6 hgEX6 hnEX6 => ?_)
      replace X6 : Blk2 wzE1 _ _ _ _ := X6
      have nEX6X4 : gEX6 ≠ gEX4 := fun e => hnEX6 (by simp [e])
      have nEX6X5 : gEX6 ≠ gEX5 := fun e => hnEX6 (by simp [e])
      clear hnEX6
      refine FinD_nil ?_
      try simp only [Act.put, sX, sY, sZ]
      replace h2 := (show NatAt wzE1 _ _ _ _ from h2.to bW)
      replace h3 := (show NatAt wzE1 _ _ _ _ from h3.to bW)
      replace h4 := (show NatAt wzE1 _ _ _ _ from h4.to bW)
      have hbtE1 := Lib.hid (show Below w1.heap.size w1 wzE1 from nx hbdE1 (nx hH.out hbzE1))
      clear hH
      refine anyT_ready (rs := [9]) kR (by simp) (ReadyT.cons gO (fun K hK => ?_) ReadyT.nil)
      rw [if_pos (by rfl)]
      refine wp_store_int _ _ rfl rfl rfl X4 ?_
      replace X5 := X5.off2 (g := gEX4) nEX5X4 (.bool (bz x)) (.slice A2 n2 c2)
      replace X6 := X6.off2 (g := gEX4) nEX6X4 (.bool (bz x)) (.slice A2 n2 c2)
      replace h2 := h2.put2 X4 (.bool (bz x)) (.slice A2 n2 c2)
      replace h3 := h3.put2 X4 (.bool (bz x)) (.slice A2 n2 c2)
      replace h4 := h4.put2 X4 (.bool (bz x)) (.slice A2 n2 c2)
      replace hbtE1 := below_put2 hbtE1.out (g := gEX4) (Nat.le_trans hbdE1.size hgEX4) (.bool (bz x)) (.slice A2 n2 c2)
      replace X4 := X4.put2 (.bool (bz x)) (.slice A2 n2 c2)
      generalize put2 wzE1 gEX4 (.bool (bz x)) (.slice A2 n2 c2) = wsE2 at X4 X5 X6 h2 h3 h4 hbtE1 ⊢
      refine hK.out _ _ trivial (fun _ => ?_)
      clear hK K
      try simp only [Act.put, sX, sY, sZ]
      refine anyT_ready (rs := [10]) kR (by simp) (ReadyT.cons gO (fun K hK => ?_) ReadyT.nil)
      rw [if_pos (by rfl)]
      refine wp_store_int _ _ rfl rfl rfl X5 ?_
      replace X4 := X4.off2 (g := gEX5) (Ne.symm nEX5X4) (.bool (bz y)) (.slice A3 n3 c3)
      replace X6 := X6.off2 (g := gEX5) nEX6X5 (.bool (bz y)) (.slice A3 n3 c3)
      replace h2 := h2.put2 X5 (.bool (bz y)) (.slice A3 n3 c3)
      replace h3 := h3.put2 X5 (.bool (bz y)) (.slice A3 n3 c3)
      replace h4 := h4.put2 X5 (.bool (bz y)) (.slice A3 n3 c3)
      replace hbtE1 := below_put2 hbtE1 (g := gEX5) (Nat.le_trans hbdE1.size hgEX5) (.bool (bz y)) (.slice A3 n3 c3)
      replace X5 := X5.put2 (.bool (bz y)) (.slice A3 n3 c3)
      generalize put2 wsE2 gEX5 (.bool (bz y)) (.slice A3 n3 c3) = wsE3 at X5 X4 X6 h2 h3 h4 hbtE1 ⊢
      refine hK.out _ _ trivial (fun _ => ?_)
      clear hK K
      try simp only [Act.put, sX, sY, sZ]
      refine anyT_ready (rs := [11]) kR (by simp) (ReadyT.cons gO (fun K hK => ?_) ReadyT.nil)
      rw [if_pos (by rfl)]
      refine wp_store_int _ _ rfl rfl rfl X6 ?_
      replace X4 := X4.off2 (g := gEX6) (Ne.symm nEX6X4) (.bool (bz z)) (.slice A4 n4 c4)
      replace X5 := X5.off2 (g := gEX6) (Ne.symm nEX6X5) (.bool (bz z)) (.slice A4 n4 c4)
      replace h2 := h2.put2 X6 (.bool (bz z)) (.slice A4 n4 c4)
      replace h3 := h3.put2 X6 (.bool (bz z)) (.slice A4 n4 c4)
      replace h4 := h4.put2 X6 (.bool (bz z)) (.slice A4 n4 c4)
      replace hbtE1 := below_put2 hbtE1 (g := gEX6) (Nat.le_trans hbdE1.size hgEX6) (.bool (bz z)) (.slice A4 n4 c4)
      replace X6 := X6.put2 (.bool (bz z)) (.slice A4 n4 c4)
      generalize put2 wsE3 gEX6 (.bool (bz z)) (.slice A4 n4 c4) = wsE4 at X6 X4 X5 h2 h3 h4 hbtE1 ⊢
      refine hK.out _ _ trivial (fun _ => ?_)
      clear hK K
      try simp only [Act.put, sX, sY, sZ]
      refine anyT_done kR ?_ _
      clear CX1 CX1' CX2 CX2' CX3 CX3'
      have d1 := (show Blk2 wsE4 _ _ _ _ from X4.to bW).cell
      have d1' := (show Blk2 wsE4 _ _ _ _ from X4.to bW).cell1
      have d2 := (show Blk2 wsE4 _ _ _ _ from X5.to bW).cell
      have d2' := (show Blk2 wsE4 _ _ _ _ from X5.to bW).cell1
      go_wp2_with fail
      clear d1 d1' d2 d2'
      refine (integer_Cmp _ _ _ x _ _ _ y _ (h2.to bW) (h3.to bW)).mono ?_
      rw [HV.out]
      rintro e w5 ⟨rfl, hb5⟩
      have d3 := (show Blk2 w5 _ _ _ _ from X5.to bW).cell
      have d3' := (show Blk2 w5 _ _ _ _ from X5.to bW).cell1
      have d4 := (show Blk2 w5 _ _ _ _ from X4.to bW).cell
      have d4' := (show Blk2 w5 _ _ _ _ from X4.to bW).cell1
      go_wp2_with fail
      clear d3 d3' d4 d4'
      refine (integer_Cmp _ _ _ y _ _ _ x _ (h3.to bW) (h2.to bW)).mono ?_
      rw [cmpZ_swap x y, HV.out]
      rintro e w6 ⟨rfl, hb6⟩
      have d5 := (show Blk2 w6 _ _ _ _ from X5.to bW).cell
      have d5' := (show Blk2 w6 _ _ _ _ from X5.to bW).cell1
      have d6 := (show Blk2 w6 _ _ _ _ from X6.to bW).cell
      have d6' := (show Blk2 w6 _ _ _ _ from X6.to bW).cell1
      go_wp2_with fail
      clear d5 d5' d6 d6'
      refine (integer_Cmp _ _ _ y _ _ _ z _ (h3.to bW) (h4.to bW)).mono ?_
      rw [HY.out]
      rintro e w7 ⟨rfl, hb7⟩
      go_wp2_with fail
      have CX4 := (show Blk2 w7 _ _ _ _ from X4.to bW).cell
      have CX4' := (show Blk2 w7 _ _ _ _ from X4.to bW).cell1
      have CX6 := (show Blk2 w7 _ _ _ _ from X6.to bW).cell
      have CX6' := (show Blk2 w7 _ _ _ _ from X6.to bW).cell1
      have CX5 := (show Blk2 w7 _ _ _ _ from X5.to bW).cell
      have CX5' := (show Blk2 w7 _ _ _ _ from X5.to bW).cell1
      refine wp_regionE [] kR kR (mk_nil) (by exact fun _ _ _ _ _ h => h) (by exact fun _ _ _ _ _ h => h) (f := 20) (by rfl) ?_
      have hbdE2 : Below w7.heap.size w7 w7.drew := nxw (Below.refl _ _)
      generalize w7.drew = wdE2 at hbdE2 ⊢
      replace CX4 := cellB hbdE2 CX4
      replace CX4' := cellB hbdE2 CX4'
      replace CX6 := cellB hbdE2 CX6
      replace CX6' := cellB hbdE2 CX6'
      replace CX5 := cellB hbdE2 CX5
      replace CX5' := cellB hbdE2 CX5'
      have hH := Lib.hid (Below.refl wdE2.heap.size wdE2)
      refine anyE_take (i := 0) (v := ?_) gO kR (by exact fun _ _ _ h => h) (Or.inl ⟨by rfl, ?_⟩) hH.out ?_
      rotate_left
      · intro w hSw; have c := cellB hSw CX4; have c' := cellB hSw CX4'; go_simp; try with_reducible rfl
      try simp only [Act.put, sX, sY, sZ]
      refine anyE_take (i := 1) (v := ?_) gO kR (by exact fun _ _ _ h => h) (Or.inl ⟨by rfl, ?_⟩) hH.out ?_
      rotate_left
      · intro w hSw; have c := cellB hSw CX6; have c' := cellB hSw CX6'; go_simp; try with_reducible rfl
      try simp only [Act.put, sX, sY, sZ]
      refine anyE_take (i := 3) (v := ?_) gO kR (by exact fun _ _ _ h => h) (Or.inl ⟨by rfl, ?_⟩) hH.out ?_
      rotate_left
      · intro w hSw; have c := cellB hSw CX5; have c' := cellB hSw CX5'; go_simp; try with_reducible rfl
      try simp only [Act.put, sX, sY, sZ]
      refine anyE_take (i := 4) (v := ?_) gO kR (by exact fun _ _ _ h => h) (Or.inl ⟨by rfl, ?_⟩) hH.out ?_
      rotate_left
      · intro w hSw; have c := cellB hSw CX6; have c' := cellB hSw CX6'; go_simp; try with_reducible rfl
      try simp only [Act.put, sX, sY, sZ]
      refine anyE_take (i := 7) (v := ?_) gO kR (by exact fun _ _ _ h => h) (Or.inl ⟨by rfl, ?_⟩) hH.out ?_
      rotate_left
      · intro w hSw; go_simp; try with_reducible rfl
      try simp only [Act.put, sX, sY, sZ]
      refine anyE_one (i := 2) gO kR (fun wi2_2 hbwi2_2 K hK => ?_)
      go_simp
      go_at_call 24
      refine (integer_Add _ _ _ x _ _ _ z _ (h2.to bW) (h4.to bW) (by omega) (by omega)).mono ?_
      rintro e w8 ⟨A8, n8, c8, rfl, h8, hb8⟩
      have q8 := h8.le_of _ (zadd_lt h2.lt h4.lt)
      go_simp
      refine hK.out _ _ (show Below wi2_2.heap.size wi2_2 w8 from bW) ?_
      clear hK K
      replace hH := Lib.hid (nx hH.out (show Below wdE2.heap.size wdE2 w8 from bW))
      try simp only [Act.put, sX, sY, sZ]
      refine anyE_one (i := 5) gO kR (fun wi2_5 hbwi2_5 K hK => ?_)
      go_simp
      go_at_call 24
      refine (integer_Add _ _ _ y _ _ _ z _ (h3.to bW) (h4.to bW) (by omega) (by omega)).mono ?_
      rintro e w9 ⟨A9, n9, c9, rfl, h9, hb9⟩
      have q9 := h9.le_of _ (zadd_lt h3.lt h4.lt)
      go_simp
      refine hK.out _ _ (show Below wi2_5.heap.size wi2_5 w9 from bW) ?_
      clear hK K
      replace hH := Lib.hid (nx hH.out (show Below w8.heap.size w8 w9 from bW))
      try simp only [Act.put, sX, sY, sZ]
      refine anyE_one (i := 6) gO kR (fun wi2_6 hbwi2_6 K hK => ?_)
      go_simp
      go_at_call 23
      refine (integer_Cmp _ _ _ (x + z) _ _ _ (y + z) _ (h8.to bW) (h9.to bW)).mono ?_
      rw [cmpZ_add, HV.out]
      rintro e w10 ⟨rfl, hb10⟩
      go_simp
      refine hK.out _ _ (show Below wi2_6.heap.size wi2_6 w10 from bW) ?_
      clear hK K
      replace hH := Lib.hid (nx hH.out (show Below w9.heap.size w9 w10 from bW))
      try simp only [Act.put, sX, sY, sZ]
      refine anyE_take (i := 8) (v := ?_) gO kR (by exact fun _ _ _ h => h) (Or.inl ⟨by rfl, ?_⟩) hH.out ?_
      rotate_left
      · intro w hSw; go_simp; try with_reducible rfl
      try simp only [Act.put, sX, sY, sZ]
      refine anyE_take (i := 9) (v := ?_) gO kR (by exact fun _ _ _ h => h) (Or.inl ⟨by rfl, ?_⟩) hH.out ?_
      rotate_left
      · intro w hSw; go_simp; try with_reducible rfl
      try simp only [Act.put, sX, sY, sZ]
      refine anyE_take (i := 10) (v := ?_) gO kR (by exact fun _ _ _ h => h) (Or.inl ⟨by rfl, ?_⟩) hH.out ?_
      rotate_left
      · intro w hSw; have c := cellB hSw CX4; have c' := cellB hSw CX4'; go_simp; try with_reducible rfl
      try simp only [Act.put, sX, sY, sZ]
      refine anyE_take (i := 12) (v := ?_) gO kR (by exact fun _ _ _ h => h) (Or.inl ⟨by rfl, ?_⟩) hH.out ?_
      rotate_left
      · intro w hSw; have c := cellB hSw CX5; have c' := cellB hSw CX5'; go_simp; try with_reducible rfl
      try simp only [Act.put, sX, sY, sZ]
      refine anyE_take (i := 15) (v := ?_) gO kR (by exact fun _ _ _ h => h) (Or.inl ⟨by rfl, ?_⟩) hH.out ?_
      rotate_left
      · intro w hSw; go_simp; try with_reducible rfl
      try simp only [Act.put, sX, sY, sZ]
      refine anyE_take (i := 16) (v := ?_) gO kR (by exact fun _ _ _ h => h) (Or.inl ⟨by rfl, ?_⟩) hH.out ?_
      rotate_left
      · intro w hSw; go_simp; try with_reducible rfl
      try simp only [Act.put, sX, sY, sZ]
      refine anyE_one (i := 11) gO kR (fun wi2_11 hbwi2_11 K hK => ?_)
      go_simp
      go_at_call 25
      refine (integer_Neg _ _ _ x _ (h2.to bW)).mono ?_
      rintro e w11 ⟨A11, n11, c11, rfl, h11, hb11⟩
      have q11 := h11.le_of _ (show (-x).natAbs < _ by rw [Int.natAbs_neg]; exact h2.lt)
      go_simp
      refine hK.out _ _ (show Below wi2_11.heap.size wi2_11 w11 from bW) ?_
      clear hK K
      replace hH := Lib.hid (nx hH.out (show Below w10.heap.size w10 w11 from bW))
      try simp only [Act.put, sX, sY, sZ]
      refine anyE_one (i := 13) gO kR (fun wi2_13 hbwi2_13 K hK => ?_)
      go_simp
      go_at_call 25
      refine (integer_Neg _ _ _ y _ (h3.to bW)).mono ?_
      rintro e w12 ⟨A12, n12, c12, rfl, h12, hb12⟩
      have q12 := h12.le_of _ (show (-y).natAbs < _ by rw [Int.natAbs_neg]; exact h3.lt)
      go_simp
      refine hK.out _ _ (show Below wi2_13.heap.size wi2_13 w12 from bW) ?_
      clear hK K
      replace hH := Lib.hid (nx hH.out (show Below w11.heap.size w11 w12 from bW))
      try simp only [Act.put, sX, sY, sZ]
      refine anyE_one (i := 14) gO kR (fun wi2_14 hbwi2_14 K hK => ?_)
      go_simp
      go_at_call 23
      refine (integer_Cmp _ _ _ (-x) _ _ _ (-y) _ (h11.to bW) (h12.to bW)).mono ?_
      rw [cmpZ_neg, HV.out]
      rintro e w13 ⟨rfl, hb13⟩
      go_simp
      refine hK.out _ _ (show Below wi2_14.heap.size wi2_14 w13 from bW) ?_
      clear hK K
      replace hH := Lib.hid (nx hH.out (show Below w12.heap.size w12 w13 from bW))
      try simp only [Act.put, sX, sY, sZ]
      refine anyE_take (i := 17) (v := ?_) gO kR (by exact fun _ _ _ h => h) (Or.inl ⟨by rfl, ?_⟩) hH.out ?_
      rotate_left
      · intro w hSw; go_simp; try with_reducible rfl
      try simp only [Act.put, sX, sY, sZ]
      refine anyE_take (i := 18) (v := ?_) gO kR (by exact fun _ _ _ h => h) (Or.inl ⟨by rfl, ?_⟩) hH.out ?_
      rotate_left
      · intro w hSw; go_simp; try with_reducible rfl
      try simp only [Act.put, sX, sY, sZ]
      refine anyE_take (i := 19) (v := ?_) gO kR (by exact fun _ _ _ h => h) (Or.inl ⟨by rfl, ?_⟩) hH.out ?_
      rotate_left
      · intro w hSw; go_simp; try with_reducible rfl
      try simp only [Act.put, sX, sY, sZ]
      refine anyE_done kR (fun wzE2 hbzE2 => ?_)
      refine FinD_nil ?_
      try simp only [Act.put, sX, sY, sZ]
      have hbtE2 := Lib.hid (show Below w7.heap.size w7 wzE2 from nx hbdE2 (nx hH.out hbzE2))
      clear hH
      refine anyT_done kR ?_ _
      clear CX4 CX4' CX6 CX6' CX5 CX5'
      go_wp2_with fail
      go_ret
      exact ⟨rfl, bW⟩
    · obtain ⟨a, ha, a0⟩ : ∃ a, cmpZ y z = a ∧ a ≤ 0 := ⟨_, rfl, cmpZ_nonpos.2 h1⟩
      have HA := Lib.hid ha
      obtain ⟨d, hd, d0⟩ : ∃ d, cmpZ x z = d ∧ ¬ 0 < d := ⟨_, rfl, by have h5 : x ≤ y := (by omega); have := cmpZ_nonpos.2 (Int.le_trans h5 h1); omega⟩
      have HD := Lib.hid hd
      clear hxy h1 ha hd
      go_enter Try.func6, Try.ntmps6
      go_wp2_with fail
      have X1 := Blk2.newAt w (w.heap.size) 24 (.bool b) (.slice A n c) (by first | rfl | simp)
      have X2 := Blk2.newAt (w.alloc (.cells #[.bool b, .slice A n c] 24)) (w.heap.size + 1) 24 (.bool b') (.slice A' n' c') (by first | rfl | simp)
      have X3 := Blk2.newAt ((w.alloc (.cells #[.bool b, .slice A n c] 24)).alloc (.cells #[.bool b', .slice A' n' c'] 24)) (w.heap.size + 1 + 1) 24 (.bool b'') (.slice A'' n'' c'') (by first | rfl | simp)
      replace X1 := (show Blk2 (((w.alloc (.cells #[.bool b, .slice A n c] 24)).alloc (.cells #[.bool b', .slice A' n' c'] 24)).alloc (.cells #[.bool b'', .slice A'' n'' c''] 24)) _ _ _ _ from X1.to bW)
      replace X2 := (show Blk2 (((w.alloc (.cells #[.bool b, .slice A n c] 24)).alloc (.cells #[.bool b', .slice A' n' c'] 24)).alloc (.cells #[.bool b'', .slice A'' n'' c''] 24)) _ _ _ _ from X2.to bW)
      have hbwe1 : Below w.heap.size w (((w.alloc (.cells #[.bool b, .slice A n c] 24)).alloc (.cells #[.bool b', .slice A' n' c'] 24)).alloc (.cells #[.bool b'', .slice A'' n'' c''] 24)) := bW
      generalize (((w.alloc (.cells #[.bool b, .slice A n c] 24)).alloc (.cells #[.bool b', .slice A' n' c'] 24)).alloc (.cells #[.bool b'', .slice A'' n'' c''] 24)) = we1 at X1 X2 X3 hbwe1  ⊢
      refine (awake7 _).mono ?_
      rintro e w1 ⟨rfl, hb1⟩
      go_wp2_with fail
      have CX1 := (show Blk2 w1 _ _ _ _ from X1.to bW).cell
      have CX1' := (show Blk2 w1 _ _ _ _ from X1.to bW).cell1
      have CX2 := (show Blk2 w1 _ _ _ _ from X2.to bW).cell
      have CX2' := (show Blk2 w1 _ _ _ _ from X2.to bW).cell1
      have CX3 := (show Blk2 w1 _ _ _ _ from X3.to bW).cell
      have CX3' := (show Blk2 w1 _ _ _ _ from X3.to bW).cell1
      refine wp_regionE [(6, 7, 29, #[.bool false, .slice none 0 0]), (7, 8, 29, #[.bool false, .slice none 0 0]), (8, 9, 29, #[.bool false, .slice none 0 0])] kR kR (mk_cons (mk_int gO rfl rfl rfl) (mk_cons (mk_int gO rfl rfl rfl) (mk_cons (mk_int gO rfl rfl rfl) (mk_nil)))) (by exact fun _ _ _ _ _ h => h) (by exact fun _ _ _ _ _ h => h) (f := 9) (by rfl) ?_
      have hbdE1 : Below w1.heap.size w1 w1.drew := nxw (Below.refl _ _)
      generalize w1.drew = wdE1 at hbdE1 ⊢
      replace CX1 := cellB hbdE1 CX1
      replace CX1' := cellB hbdE1 CX1'
      replace CX2 := cellB hbdE1 CX2
      replace CX2' := cellB hbdE1 CX2'
      replace CX3 := cellB hbdE1 CX3
      replace CX3' := cellB hbdE1 CX3'
      have hH := Lib.hid (Below.refl wdE1.heap.size wdE1)
      refine anyE_take (i := 0) (v := ?_) gO kR (by exact fun _ _ _ h => h) (Or.inl ⟨by rfl, ?_⟩) hH.out ?_
      rotate_left
      · intro w hSw; have c := cellB hSw CX1; have c' := cellB hSw CX1'; go_simp; try with_reducible rfl
      try simp only [Act.put, sX, sY, sZ]
      refine anyE_take (i := 2) (v := ?_) gO kR (by exact fun _ _ _ h => h) (Or.inl ⟨by rfl, ?_⟩) hH.out ?_
      rotate_left
      · intro w hSw; have c := cellB hSw CX2; have c' := cellB hSw CX2'; go_simp; try with_reducible rfl
      try simp only [Act.put, sX, sY, sZ]
      refine anyE_take (i := 4) (v := ?_) gO kR (by exact fun _ _ _ h => h) (Or.inl ⟨by rfl, ?_⟩) hH.out ?_
      rotate_left
      · intro w hSw; have c := cellB hSw CX3; have c' := cellB hSw CX3'; go_simp; try with_reducible rfl
      try simp only [Act.put, sX, sY, sZ]
      refine anyE_one (i := 1) gO kR (fun wi1_1 hbwi1_1 K hK => ?_)
      go_simp
      go_at_call 12
      refine (law7_Make b _ _ _ u _ (k1.to bW) (by omega)).mono ?_
      rw [← HSx.out]
      rintro e w2 ⟨A2, n2, c2, rfl, h2, hb2⟩
      have q2 := h2.le_of _ (ltx)
      go_simp
      refine hK.out _ _ (show Below wi1_1.heap.size wi1_1 w2 from bW) ?_
      clear hK K
      replace hH := Lib.hid (nx hH.out (show Below wdE1.heap.size wdE1 w2 from bW))
      try simp only [Act.put, sX, sY, sZ]
      refine anyE_one (i := 3) gO kR (fun wi1_3 hbwi1_3 K hK => ?_)
      go_simp
      go_at_call 12
      refine (law7_Make b' _ _ _ v _ (k2.to bW) (by omega)).mono ?_
      rw [← HSy.out]
      rintro e w3 ⟨A3, n3, c3, rfl, h3, hb3⟩
      have q3 := h3.le_of _ (lty)
      go_simp
      refine hK.out _ _ (show Below wi1_3.heap.size wi1_3 w3 from bW) ?_
      clear hK K
      replace hH := Lib.hid (nx hH.out (show Below w2.heap.size w2 w3 from bW))
      try simp only [Act.put, sX, sY, sZ]
      refine anyE_one (i := 5) gO kR (fun wi1_5 hbwi1_5 K hK => ?_)
      go_simp
      go_at_call 12
      refine (law7_Make b'' _ _ _ t _ (k3.to bW) (by omega)).mono ?_
      rw [← HSz.out]
      rintro e w4 ⟨A4, n4, c4, rfl, h4, hb4⟩
      have q4 := h4.le_of _ (ltz)
      go_simp
      refine hK.out _ _ (show Below wi1_5.heap.size wi1_5 w4 from bW) ?_
      clear hK K
      replace hH := Lib.hid (nx hH.out (show Below w3.heap.size w3 w4 from bW))
      try simp only [Act.put, sX, sY, sZ]
      refine anyE_done kR (fun wzE1 hbzE1 => ?_)
      refine FinD_cons (fun gEX4 X4 hgEX4 hnEX4 => ?_)
      replace X4 : Blk2 wzE1 _ _ _ _ := X4
      clear hnEX4
      refine FinD_cons (fun gEX5 X5 hgEX5 hnEX5 => ?_)
      replace X5 : Blk2 wzE1 _ _ _ _ := X5
      have nEX5X4 : gEX5 ≠ gEX4 := fun e => hnEX5 (by simp [e])
      clear hnEX5
      refine FinD_cons (fun gEX6 X6 hgEX6 hnEX6 => ?_)
      replace X6 : Blk2 wzE1 _ _ _ _ := X6
      have nEX6X4 : gEX6 ≠ gEX4 := fun e => hnEX6 (by simp [e])
      have nEX6X5 : gEX6 ≠ gEX5 := fun e => hnEX6 (by simp [e])
      clear hnEX6
      refine FinD_nil ?_
      try simp only [Act.put, sX, sY, sZ]
      replace h2 := (show NatAt wzE1 _ _ _ _ from h2.to bW)
      replace h3 := (show NatAt wzE1 _ _ _ _ from h3.to bW)
      replace h4 := (show NatAt wzE1 _ _ _ _ from h4.to bW)
      have hbtE1 := Lib.hid (show Below w1.heap.size w1 wzE1 from nx hbdE1 (nx hH.out hbzE1))
      clear hH
      refine anyT_ready (rs := [9]) kR (by simp) (ReadyT.cons gO (fun K hK => ?_) ReadyT.nil)
      rw [if_pos (by rfl)]
      refine wp_store_int _ _ rfl rfl rfl X4 ?_
      replace X5 := X5.off2 (g := gEX4) nEX5X4 (.bool (bz x)) (.slice A2 n2 c2)
      replace X6 := X6.off2 (g := gEX4) nEX6X4 (.bool (bz x)) (.slice A2 n2 c2)
      replace h2 := h2.put2 X4 (.bool (bz x)) (.slice A2 n2 c2)
      replace h3 := h3.put2 X4 (.bool (bz x)) (.slice A2 n2 c2)
      replace h4 := h4.put2 X4 (.bool (bz x)) (.slice A2 n2 c2)
      replace hbtE1 := below_put2 hbtE1.out (g := gEX4) (Nat.le_trans hbdE1.size hgEX4) (.bool (bz x)) (.slice A2 n2 c2)
      replace X4 := X4.put2 (.bool (bz x)) (.slice A2 n2 c2)
      generalize put2 wzE1 gEX4 (.bool (bz x)) (.slice A2 n2 c2) = wsE2 at X4 X5 X6 h2 h3 h4 hbtE1 ⊢
      refine hK.out _ _ trivial (fun _ => ?_)
      clear hK K
      try simp only [Act.put, sX, sY, sZ]
      refine anyT_ready (rs := [10]) kR (by simp) (ReadyT.cons gO (fun K hK => ?_) ReadyT.nil)
      rw [if_pos (by rfl)]
      refine wp_store_int _ _ rfl rfl rfl X5 ?_
      replace X4 := X4.off2 (g := gEX5) (Ne.symm nEX5X4) (.bool (bz y)) (.slice A3 n3 c3)
      replace X6 := X6.off2 (g := gEX5) nEX6X5 (.bool (bz y)) (.slice A3 n3 c3)
      replace h2 := h2.put2 X5 (.bool (bz y)) (.slice A3 n3 c3)
      replace h3 := h3.put2 X5 (.bool (bz y)) (.slice A3 n3 c3)
      replace h4 := h4.put2 X5 (.bool (bz y)) (.slice A3 n3 c3)
      replace hbtE1 := below_put2 hbtE1 (g := gEX5) (Nat.le_trans hbdE1.size hgEX5) (.bool (bz y)) (.slice A3 n3 c3)
      replace X5 := X5.put2 (.bool (bz y)) (.slice A3 n3 c3)
      generalize put2 wsE2 gEX5 (.bool (bz y)) (.slice A3 n3 c3) = wsE3 at X5 X4 X6 h2 h3 h4 hbtE1 ⊢
      refine hK.out _ _ trivial (fun _ => ?_)
      clear hK K
      try simp only [Act.put, sX, sY, sZ]
      refine anyT_ready (rs := [11]) kR (by simp) (ReadyT.cons gO (fun K hK => ?_) ReadyT.nil)
      rw [if_pos (by rfl)]
      refine wp_store_int _ _ rfl rfl rfl X6 ?_
      replace X4 := X4.off2 (g := gEX6) (Ne.symm nEX6X4) (.bool (bz z)) (.slice A4 n4 c4)
      replace X5 := X5.off2 (g := gEX6) (Ne.symm nEX6X5) (.bool (bz z)) (.slice A4 n4 c4)
      replace h2 := h2.put2 X6 (.bool (bz z)) (.slice A4 n4 c4)
      replace h3 := h3.put2 X6 (.bool (bz z)) (.slice A4 n4 c4)
      replace h4 := h4.put2 X6 (.bool (bz z)) (.slice A4 n4 c4)
      replace hbtE1 := below_put2 hbtE1 (g := gEX6) (Nat.le_trans hbdE1.size hgEX6) (.bool (bz z)) (.slice A4 n4 c4)
      replace X6 := X6.put2 (.bool (bz z)) (.slice A4 n4 c4)
      generalize put2 wsE3 gEX6 (.bool (bz z)) (.slice A4 n4 c4) = wsE4 at X6 X4 X5 h2 h3 h4 hbtE1 ⊢
      refine hK.out _ _ trivial (fun _ => ?_)
      clear hK K
      try simp only [Act.put, sX, sY, sZ]
      refine anyT_done kR ?_ _
      clear CX1 CX1' CX2 CX2' CX3 CX3'
      have d1 := (show Blk2 wsE4 _ _ _ _ from X4.to bW).cell
      have d1' := (show Blk2 wsE4 _ _ _ _ from X4.to bW).cell1
      have d2 := (show Blk2 wsE4 _ _ _ _ from X5.to bW).cell
      have d2' := (show Blk2 wsE4 _ _ _ _ from X5.to bW).cell1
      go_wp2_with fail
      clear d1 d1' d2 d2'
      refine (integer_Cmp _ _ _ x _ _ _ y _ (h2.to bW) (h3.to bW)).mono ?_
      rw [HV.out]
      rintro e w5 ⟨rfl, hb5⟩
      have d3 := (show Blk2 w5 _ _ _ _ from X5.to bW).cell
      have d3' := (show Blk2 w5 _ _ _ _ from X5.to bW).cell1
      have d4 := (show Blk2 w5 _ _ _ _ from X4.to bW).cell
      have d4' := (show Blk2 w5 _ _ _ _ from X4.to bW).cell1
      go_wp2_with fail
      clear d3 d3' d4 d4'
      refine (integer_Cmp _ _ _ y _ _ _ x _ (h3.to bW) (h2.to bW)).mono ?_
      rw [cmpZ_swap x y, HV.out]
      rintro e w6 ⟨rfl, hb6⟩
      have d5 := (show Blk2 w6 _ _ _ _ from X5.to bW).cell
      have d5' := (show Blk2 w6 _ _ _ _ from X5.to bW).cell1
      have d6 := (show Blk2 w6 _ _ _ _ from X6.to bW).cell
      have d6' := (show Blk2 w6 _ _ _ _ from X6.to bW).cell1
      go_wp2_with fail
      clear d5 d5' d6 d6'
      refine (integer_Cmp _ _ _ y _ _ _ z _ (h3.to bW) (h4.to bW)).mono ?_
      rw [HA.out]
      rintro e w7 ⟨rfl, hb7⟩
      have d7 := (show Blk2 w7 _ _ _ _ from X4.to bW).cell
      have d7' := (show Blk2 w7 _ _ _ _ from X4.to bW).cell1
      have d8 := (show Blk2 w7 _ _ _ _ from X6.to bW).cell
      have d8' := (show Blk2 w7 _ _ _ _ from X6.to bW).cell1
      go_wp2_with fail
      clear d7 d7' d8 d8'
      refine (integer_Cmp _ _ _ x _ _ _ z _ (h2.to bW) (h4.to bW)).mono ?_
      rw [HD.out]
      rintro e w8 ⟨rfl, hb8⟩
      go_wp2_with fail
      have CX4 := (show Blk2 w8 _ _ _ _ from X4.to bW).cell
      have CX4' := (show Blk2 w8 _ _ _ _ from X4.to bW).cell1
      have CX6 := (show Blk2 w8 _ _ _ _ from X6.to bW).cell
      have CX6' := (show Blk2 w8 _ _ _ _ from X6.to bW).cell1
      have CX5 := (show Blk2 w8 _ _ _ _ from X5.to bW).cell
      have CX5' := (show Blk2 w8 _ _ _ _ from X5.to bW).cell1
      refine wp_regionE [] kR kR (mk_nil) (by exact fun _ _ _ _ _ h => h) (by exact fun _ _ _ _ _ h => h) (f := 20) (by rfl) ?_
      have hbdE2 : Below w8.heap.size w8 w8.drew := nxw (Below.refl _ _)
      generalize w8.drew = wdE2 at hbdE2 ⊢
      replace CX4 := cellB hbdE2 CX4
      replace CX4' := cellB hbdE2 CX4'
      replace CX6 := cellB hbdE2 CX6
      replace CX6' := cellB hbdE2 CX6'
      replace CX5 := cellB hbdE2 CX5
      replace CX5' := cellB hbdE2 CX5'
      have hH := Lib.hid (Below.refl wdE2.heap.size wdE2)
      refine anyE_take (i := 0) (v := ?_) gO kR (by exact fun _ _ _ h => h) (Or.inl ⟨by rfl, ?_⟩) hH.out ?_
      rotate_left
      · intro w hSw; have c := cellB hSw CX4; have c' := cellB hSw CX4'; go_simp; try with_reducible rfl
      try simp only [Act.put, sX, sY, sZ]
      refine anyE_take (i := 1) (v := ?_) gO kR (by exact fun _ _ _ h => h) (Or.inl ⟨by rfl, ?_⟩) hH.out ?_
      rotate_left
      · intro w hSw; have c := cellB hSw CX6; have c' := cellB hSw CX6'; go_simp; try with_reducible rfl
      try simp only [Act.put, sX, sY, sZ]
      refine anyE_take (i := 3) (v := ?_) gO kR (by exact fun _ _ _ h => h) (Or.inl ⟨by rfl, ?_⟩) hH.out ?_
      rotate_left
      · intro w hSw; have c := cellB hSw CX5; have c' := cellB hSw CX5'; go_simp; try with_reducible rfl
      try simp only [Act.put, sX, sY, sZ]
      refine anyE_take (i := 4) (v := ?_) gO kR (by exact fun _ _ _ h => h) (Or.inl ⟨by rfl, ?_⟩) hH.out ?_
      rotate_left
      · intro w hSw; have c := cellB hSw CX6; have c' := cellB hSw CX6'; go_simp; try with_reducible rfl
      try simp only [Act.put, sX, sY, sZ]
      refine anyE_take (i := 7) (v := ?_) gO kR (by exact fun _ _ _ h => h) (Or.inl ⟨by rfl, ?_⟩) hH.out ?_
      rotate_left
      · intro w hSw; go_simp; try with_reducible rfl
      try simp only [Act.put, sX, sY, sZ]
      refine anyE_one (i := 2) gO kR (fun wi2_2 hbwi2_2 K hK => ?_)
      go_simp
      go_at_call 24
      refine (integer_Add _ _ _ x _ _ _ z _ (h2.to bW) (h4.to bW) (by omega) (by omega)).mono ?_
      rintro e w9 ⟨A9, n9, c9, rfl, h9, hb9⟩
      have q9 := h9.le_of _ (zadd_lt h2.lt h4.lt)
      go_simp
      refine hK.out _ _ (show Below wi2_2.heap.size wi2_2 w9 from bW) ?_
      clear hK K
      replace hH := Lib.hid (nx hH.out (show Below wdE2.heap.size wdE2 w9 from bW))
      try simp only [Act.put, sX, sY, sZ]
      refine anyE_one (i := 5) gO kR (fun wi2_5 hbwi2_5 K hK => ?_)
      go_simp
      go_at_call 24
      refine (integer_Add _ _ _ y _ _ _ z _ (h3.to bW) (h4.to bW) (by omega) (by omega)).mono ?_
      rintro e w10 ⟨A10, n10, c10, rfl, h10, hb10⟩
      have q10 := h10.le_of _ (zadd_lt h3.lt h4.lt)
      go_simp
      refine hK.out _ _ (show Below wi2_5.heap.size wi2_5 w10 from bW) ?_
      clear hK K
      replace hH := Lib.hid (nx hH.out (show Below w9.heap.size w9 w10 from bW))
      try simp only [Act.put, sX, sY, sZ]
      refine anyE_one (i := 6) gO kR (fun wi2_6 hbwi2_6 K hK => ?_)
      go_simp
      go_at_call 23
      refine (integer_Cmp _ _ _ (x + z) _ _ _ (y + z) _ (h9.to bW) (h10.to bW)).mono ?_
      rw [cmpZ_add, HV.out]
      rintro e w11 ⟨rfl, hb11⟩
      go_simp
      refine hK.out _ _ (show Below wi2_6.heap.size wi2_6 w11 from bW) ?_
      clear hK K
      replace hH := Lib.hid (nx hH.out (show Below w10.heap.size w10 w11 from bW))
      try simp only [Act.put, sX, sY, sZ]
      refine anyE_take (i := 8) (v := ?_) gO kR (by exact fun _ _ _ h => h) (Or.inl ⟨by rfl, ?_⟩) hH.out ?_
      rotate_left
      · intro w hSw; go_simp; try with_reducible rfl
      try simp only [Act.put, sX, sY, sZ]
      refine anyE_take (i := 9) (v := ?_) gO kR (by exact fun _ _ _ h => h) (Or.inl ⟨by rfl, ?_⟩) hH.out ?_
      rotate_left
      · intro w hSw; go_simp; try with_reducible rfl
      try simp only [Act.put, sX, sY, sZ]
      refine anyE_take (i := 10) (v := ?_) gO kR (by exact fun _ _ _ h => h) (Or.inl ⟨by rfl, ?_⟩) hH.out ?_
      rotate_left
      · intro w hSw; have c := cellB hSw CX4; have c' := cellB hSw CX4'; go_simp; try with_reducible rfl
      try simp only [Act.put, sX, sY, sZ]
      refine anyE_take (i := 12) (v := ?_) gO kR (by exact fun _ _ _ h => h) (Or.inl ⟨by rfl, ?_⟩) hH.out ?_
      rotate_left
      · intro w hSw; have c := cellB hSw CX5; have c' := cellB hSw CX5'; go_simp; try with_reducible rfl
      try simp only [Act.put, sX, sY, sZ]
      refine anyE_take (i := 15) (v := ?_) gO kR (by exact fun _ _ _ h => h) (Or.inl ⟨by rfl, ?_⟩) hH.out ?_
      rotate_left
      · intro w hSw; go_simp; try with_reducible rfl
      try simp only [Act.put, sX, sY, sZ]
      refine anyE_take (i := 16) (v := ?_) gO kR (by exact fun _ _ _ h => h) (Or.inl ⟨by rfl, ?_⟩) hH.out ?_
      rotate_left
      · intro w hSw; go_simp; try with_reducible rfl
      try simp only [Act.put, sX, sY, sZ]
      refine anyE_one (i := 11) gO kR (fun wi2_11 hbwi2_11 K hK => ?_)
      go_simp
      go_at_call 25
      refine (integer_Neg _ _ _ x _ (h2.to bW)).mono ?_
      rintro e w12 ⟨A12, n12, c12, rfl, h12, hb12⟩
      have q12 := h12.le_of _ (show (-x).natAbs < _ by rw [Int.natAbs_neg]; exact h2.lt)
      go_simp
      refine hK.out _ _ (show Below wi2_11.heap.size wi2_11 w12 from bW) ?_
      clear hK K
      replace hH := Lib.hid (nx hH.out (show Below w11.heap.size w11 w12 from bW))
      try simp only [Act.put, sX, sY, sZ]
      refine anyE_one (i := 13) gO kR (fun wi2_13 hbwi2_13 K hK => ?_)
      go_simp
      go_at_call 25
      refine (integer_Neg _ _ _ y _ (h3.to bW)).mono ?_
      rintro e w13 ⟨A13, n13, c13, rfl, h13, hb13⟩
      have q13 := h13.le_of _ (show (-y).natAbs < _ by rw [Int.natAbs_neg]; exact h3.lt)
      go_simp
      refine hK.out _ _ (show Below wi2_13.heap.size wi2_13 w13 from bW) ?_
      clear hK K
      replace hH := Lib.hid (nx hH.out (show Below w12.heap.size w12 w13 from bW))
      try simp only [Act.put, sX, sY, sZ]
      refine anyE_one (i := 14) gO kR (fun wi2_14 hbwi2_14 K hK => ?_)
      go_simp
      go_at_call 23
      refine (integer_Cmp _ _ _ (-x) _ _ _ (-y) _ (h12.to bW) (h13.to bW)).mono ?_
      rw [cmpZ_neg, HV.out]
      rintro e w14 ⟨rfl, hb14⟩
      go_simp
      refine hK.out _ _ (show Below wi2_14.heap.size wi2_14 w14 from bW) ?_
      clear hK K
      replace hH := Lib.hid (nx hH.out (show Below w13.heap.size w13 w14 from bW))
      try simp only [Act.put, sX, sY, sZ]
      refine anyE_take (i := 17) (v := ?_) gO kR (by exact fun _ _ _ h => h) (Or.inl ⟨by rfl, ?_⟩) hH.out ?_
      rotate_left
      · intro w hSw; go_simp; try with_reducible rfl
      try simp only [Act.put, sX, sY, sZ]
      refine anyE_take (i := 18) (v := ?_) gO kR (by exact fun _ _ _ h => h) (Or.inl ⟨by rfl, ?_⟩) hH.out ?_
      rotate_left
      · intro w hSw; go_simp; try with_reducible rfl
      try simp only [Act.put, sX, sY, sZ]
      refine anyE_take (i := 19) (v := ?_) gO kR (by exact fun _ _ _ h => h) (Or.inl ⟨by rfl, ?_⟩) hH.out ?_
      rotate_left
      · intro w hSw; go_simp; try with_reducible rfl
      try simp only [Act.put, sX, sY, sZ]
      refine anyE_done kR (fun wzE2 hbzE2 => ?_)
      refine FinD_nil ?_
      try simp only [Act.put, sX, sY, sZ]
      have hbtE2 := Lib.hid (show Below w8.heap.size w8 wzE2 from nx hbdE2 (nx hH.out hbzE2))
      clear hH
      refine anyT_done kR ?_ _
      clear CX4 CX4' CX6 CX6' CX5 CX5'
      go_wp2_with fail
      go_ret
      exact ⟨rfl, bW⟩
  · have HV := Lib.hid (cmpZ_lt hxy)
    by_cases h1 : y ≤ z
    rotate_left
    · have HY := Lib.hid (cmpZ_gt (show z < y by omega))
      clear hxy h1
      go_enter Try.func6, Try.ntmps6
      go_wp2_with fail
      have X1 := Blk2.newAt w (w.heap.size) 24 (.bool b) (.slice A n c) (by first | rfl | simp)
      have X2 := Blk2.newAt (w.alloc (.cells #[.bool b, .slice A n c] 24)) (w.heap.size + 1) 24 (.bool b') (.slice A' n' c') (by first | rfl | simp)
      have X3 := Blk2.newAt ((w.alloc (.cells #[.bool b, .slice A n c] 24)).alloc (.cells #[.bool b', .slice A' n' c'] 24)) (w.heap.size + 1 + 1) 24 (.bool b'') (.slice A'' n'' c'') (by first | rfl | simp)
      replace X1 := (show Blk2 (((w.alloc (.cells #[.bool b, .slice A n c] 24)).alloc (.cells #[.bool b', .slice A' n' c'] 24)).alloc (.cells #[.bool b'', .slice A'' n'' c''] 24)) _ _ _ _ from X1.to bW)
      replace X2 := (show Blk2 (((w.alloc (.cells #[.bool b, .slice A n c] 24)).alloc (.cells #[.bool b', .slice A' n' c'] 24)).alloc (.cells #[.bool b'', .slice A'' n'' c''] 24)) _ _ _ _ from X2.to bW)
      have hbwe1 : Below w.heap.size w (((w.alloc (.cells #[.bool b, .slice A n c] 24)).alloc (.cells #[.bool b', .slice A' n' c'] 24)).alloc (.cells #[.bool b'', .slice A'' n'' c''] 24)) := bW
      generalize (((w.alloc (.cells #[.bool b, .slice A n c] 24)).alloc (.cells #[.bool b', .slice A' n' c'] 24)).alloc (.cells #[.bool b'', .slice A'' n'' c''] 24)) = we1 at X1 X2 X3 hbwe1  ⊢
      refine (awake7 _).mono ?_
      rintro e w1 ⟨rfl, hb1⟩
      go_wp2_with fail
      have CX1 := (show Blk2 w1 _ _ _ _ from X1.to bW).cell
      have CX1' := (show Blk2 w1 _ _ _ _ from X1.to bW).cell1
      have CX2 := (show Blk2 w1 _ _ _ _ from X2.to bW).cell
      have CX2' := (show Blk2 w1 _ _ _ _ from X2.to bW).cell1
      have CX3 := (show Blk2 w1 _ _ _ _ from X3.to bW).cell
      have CX3' := (show Blk2 w1 _ _ _ _ from X3.to bW).cell1
      refine wp_regionE [(6, 7, 29, #[.bool false, .slice none 0 0]), (7, 8, 29, #[.bool false, .slice none 0 0]), (8, 9, 29, #[.bool false, .slice none 0 0])] kR kR (mk_cons (mk_int gO rfl rfl rfl) (mk_cons (mk_int gO rfl rfl rfl) (mk_cons (mk_int gO rfl rfl rfl) (mk_nil)))) (by exact fun _ _ _ _ _ h => h) (by exact fun _ _ _ _ _ h => h) (f := 9) (by rfl) ?_
      have hbdE1 : Below w1.heap.size w1 w1.drew := nxw (Below.refl _ _)
      generalize w1.drew = wdE1 at hbdE1 ⊢
      replace CX1 := cellB hbdE1 CX1
      replace CX1' := cellB hbdE1 CX1'
      replace CX2 := cellB hbdE1 CX2
      replace CX2' := cellB hbdE1 CX2'
      replace CX3 := cellB hbdE1 CX3
      replace CX3' := cellB hbdE1 CX3'
      have hH := Lib.hid (Below.refl wdE1.heap.size wdE1)
      refine anyE_take (i := 0) (v := ?_) gO kR (by exact fun _ _ _ h => h) (Or.inl ⟨by rfl, ?_⟩) hH.out ?_
      rotate_left
      · intro w hSw; have c := cellB hSw CX1; have c' := cellB hSw CX1'; go_simp; try with_reducible rfl
      try simp only [Act.put, sX, sY, sZ]
      refine anyE_take (i := 2) (v := ?_) gO kR (by exact fun _ _ _ h => h) (Or.inl ⟨by rfl, ?_⟩) hH.out ?_
      rotate_left
      · intro w hSw; have c := cellB hSw CX2; have c' := cellB hSw CX2'; go_simp; try with_reducible rfl
      try simp only [Act.put, sX, sY, sZ]
      refine anyE_take (i := 4) (v := ?_) gO kR (by exact fun _ _ _ h => h) (Or.inl ⟨by rfl, ?_⟩) hH.out ?_
      rotate_left
      · intro w hSw; have c := cellB hSw CX3; have c' := cellB hSw CX3'; go_simp; try with_reducible rfl
      try simp only [Act.put, sX, sY, sZ]
      refine anyE_one (i := 1) gO kR (fun wi1_1 hbwi1_1 K hK => ?_)
      go_simp
      go_at_call 12
      refine (law7_Make b _ _ _ u _ (k1.to bW) (by omega)).mono ?_
      rw [← HSx.out]
      rintro e w2 ⟨A2, n2, c2, rfl, h2, hb2⟩
      have q2 := h2.le_of _ (ltx)
      go_simp
      refine hK.out _ _ (show Below wi1_1.heap.size wi1_1 w2 from bW) ?_
      clear hK K
      replace hH := Lib.hid (nx hH.out (show Below wdE1.heap.size wdE1 w2 from bW))
      try simp only [Act.put, sX, sY, sZ]
      refine anyE_one (i := 3) gO kR (fun wi1_3 hbwi1_3 K hK => ?_)
      go_simp
      go_at_call 12
      refine (law7_Make b' _ _ _ v _ (k2.to bW) (by omega)).mono ?_
      rw [← HSy.out]
      rintro e w3 ⟨A3, n3, c3, rfl, h3, hb3⟩
      have q3 := h3.le_of _ (lty)
      go_simp
      refine hK.out _ _ (show Below wi1_3.heap.size wi1_3 w3 from bW) ?_
      clear hK K
      replace hH := Lib.hid (nx hH.out (show Below w2.heap.size w2 w3 from bW))
      try simp only [Act.put, sX, sY, sZ]
      refine anyE_one (i := 5) gO kR (fun wi1_5 hbwi1_5 K hK => ?_)
      go_simp
      go_at_call 12
      refine (law7_Make b'' _ _ _ t _ (k3.to bW) (by omega)).mono ?_
      rw [← HSz.out]
      rintro e w4 ⟨A4, n4, c4, rfl, h4, hb4⟩
      have q4 := h4.le_of _ (ltz)
      go_simp
      refine hK.out _ _ (show Below wi1_5.heap.size wi1_5 w4 from bW) ?_
      clear hK K
      replace hH := Lib.hid (nx hH.out (show Below w3.heap.size w3 w4 from bW))
      try simp only [Act.put, sX, sY, sZ]
      refine anyE_done kR (fun wzE1 hbzE1 => ?_)
      refine FinD_cons (fun gEX4 X4 hgEX4 hnEX4 => ?_)
      replace X4 : Blk2 wzE1 _ _ _ _ := X4
      clear hnEX4
      refine FinD_cons (fun gEX5 X5 hgEX5 hnEX5 => ?_)
      replace X5 : Blk2 wzE1 _ _ _ _ := X5
      have nEX5X4 : gEX5 ≠ gEX4 := fun e => hnEX5 (by simp [e])
      clear hnEX5
      refine FinD_cons (fun gEX6 X6 hgEX6 hnEX6 => ?_)
      replace X6 : Blk2 wzE1 _ _ _ _ := X6
      have nEX6X4 : gEX6 ≠ gEX4 := fun e => hnEX6 (by simp [e])
      have nEX6X5 : gEX6 ≠ gEX5 := fun e => hnEX6 (by simp [e])
      clear hnEX6
      refine FinD_nil ?_
      try simp only [Act.put, sX, sY, sZ]
      replace h2 := (show NatAt wzE1 _ _ _ _ from h2.to bW)
      replace h3 := (show NatAt wzE1 _ _ _ _ from h3.to bW)
      replace h4 := (show NatAt wzE1 _ _ _ _ from h4.to bW)
      have hbtE1 := Lib.hid (show Below w1.heap.size w1 wzE1 from nx hbdE1 (nx hH.out hbzE1))
      clear hH
      refine anyT_ready (rs := [9]) kR (by simp) (ReadyT.cons gO (fun K hK => ?_) ReadyT.nil)
      rw [if_pos (by rfl)]
      refine wp_store_int _ _ rfl rfl rfl X4 ?_
      replace X5 := X5.off2 (g := gEX4) nEX5X4 (.bool (bz x)) (.slice A2 n2 c2)
      replace X6 := X6.off2 (g := gEX4) nEX6X4 (.bool (bz x)) (.slice A2 n2 c2)
      replace h2 := h2.put2 X4 (.bool (bz x)) (.slice A2 n2 c2)
      replace h3 := h3.put2 X4 (.bool (bz x)) (.slice A2 n2 c2)
      replace h4 := h4.put2 X4 (.bool (bz x)) (.slice A2 n2 c2)
      replace hbtE1 := below_put2 hbtE1.out (g := gEX4) (Nat.le_trans hbdE1.size hgEX4) (.bool (bz x)) (.slice A2 n2 c2)
      replace X4 := X4.put2 (.bool (bz x)) (.slice A2 n2 c2)
      generalize put2 wzE1 gEX4 (.bool (bz x)) (.slice A2 n2 c2) = wsE2 at X4 X5 X6 h2 h3 h4 hbtE1 ⊢
      refine hK.out _ _ trivial (fun _ => ?_)
      clear hK K
      try simp only [Act.put, sX, sY, sZ]
      refine anyT_ready (rs := [10]) kR (by simp) (ReadyT.cons gO (fun K hK => ?_) ReadyT.nil)
      rw [if_pos (by rfl)]
      refine wp_store_int _ _ rfl rfl rfl X5 ?_
      replace X4 := X4.off2 (g := gEX5) (Ne.symm nEX5X4) (.bool (bz y)) (.slice A3 n3 c3)
      replace X6 := X6.off2 (g := gEX5) nEX6X5 (.bool (bz y)) (.slice A3 n3 c3)
      replace h2 := h2.put2 X5 (.bool (bz y)) (.slice A3 n3 c3)
      replace h3 := h3.put2 X5 (.bool (bz y)) (.slice A3 n3 c3)
      replace h4 := h4.put2 X5 (.bool (bz y)) (.slice A3 n3 c3)
      replace hbtE1 := below_put2 hbtE1 (g := gEX5) (Nat.le_trans hbdE1.size hgEX5) (.bool (bz y)) (.slice A3 n3 c3)
      replace X5 := X5.put2 (.bool (bz y)) (.slice A3 n3 c3)
      generalize put2 wsE2 gEX5 (.bool (bz y)) (.slice A3 n3 c3) = wsE3 at X5 X4 X6 h2 h3 h4 hbtE1 ⊢
      refine hK.out _ _ trivial (fun _ => ?_)
      clear hK K
      try simp only [Act.put, sX, sY, sZ]
      refine anyT_ready (rs := [11]) kR (by simp) (ReadyT.cons gO (fun K hK => ?_) ReadyT.nil)
      rw [if_pos (by rfl)]
      refine wp_store_int _ _ rfl rfl rfl X6 ?_
      replace X4 := X4.off2 (g := gEX6) (Ne.symm nEX6X4) (.bool (bz z)) (.slice A4 n4 c4)
      replace X5 := X5.off2 (g := gEX6) (Ne.symm nEX6X5) (.bool (bz z)) (.slice A4 n4 c4)
      replace h2 := h2.put2 X6 (.bool (bz z)) (.slice A4 n4 c4)
      replace h3 := h3.put2 X6 (.bool (bz z)) (.slice A4 n4 c4)
      replace h4 := h4.put2 X6 (.bool (bz z)) (.slice A4 n4 c4)
      replace hbtE1 := below_put2 hbtE1 (g := gEX6) (Nat.le_trans hbdE1.size hgEX6) (.bool (bz z)) (.slice A4 n4 c4)
      replace X6 := X6.put2 (.bool (bz z)) (.slice A4 n4 c4)
      generalize put2 wsE3 gEX6 (.bool (bz z)) (.slice A4 n4 c4) = wsE4 at X6 X4 X5 h2 h3 h4 hbtE1 ⊢
      refine hK.out _ _ trivial (fun _ => ?_)
      clear hK K
      try simp only [Act.put, sX, sY, sZ]
      refine anyT_done kR ?_ _
      clear CX1 CX1' CX2 CX2' CX3 CX3'
      have d1 := (show Blk2 wsE4 _ _ _ _ from X4.to bW).cell
      have d1' := (show Blk2 wsE4 _ _ _ _ from X4.to bW).cell1
      have d2 := (show Blk2 wsE4 _ _ _ _ from X5.to bW).cell
      have d2' := (show Blk2 wsE4 _ _ _ _ from X5.to bW).cell1
      go_wp2_with fail
      clear d1 d1' d2 d2'
      refine (integer_Cmp _ _ _ x _ _ _ y _ (h2.to bW) (h3.to bW)).mono ?_
      rw [HV.out]
      rintro e w5 ⟨rfl, hb5⟩
      have d3 := (show Blk2 w5 _ _ _ _ from X5.to bW).cell
      have d3' := (show Blk2 w5 _ _ _ _ from X5.to bW).cell1
      have d4 := (show Blk2 w5 _ _ _ _ from X4.to bW).cell
      have d4' := (show Blk2 w5 _ _ _ _ from X4.to bW).cell1
      go_wp2_with fail
      clear d3 d3' d4 d4'
      refine (integer_Cmp _ _ _ y _ _ _ x _ (h3.to bW) (h2.to bW)).mono ?_
      rw [cmpZ_swap x y, HV.out]
      rintro e w6 ⟨rfl, hb6⟩
      have d5 := (show Blk2 w6 _ _ _ _ from X5.to bW).cell
      have d5' := (show Blk2 w6 _ _ _ _ from X5.to bW).cell1
      have d6 := (show Blk2 w6 _ _ _ _ from X6.to bW).cell
      have d6' := (show Blk2 w6 _ _ _ _ from X6.to bW).cell1
      go_wp2_with fail
      clear d5 d5' d6 d6'
      refine (integer_Cmp _ _ _ y _ _ _ z _ (h3.to bW) (h4.to bW)).mono ?_
      rw [HY.out]
      rintro e w7 ⟨rfl, hb7⟩
      go_wp2_with fail
      have CX4 := (show Blk2 w7 _ _ _ _ from X4.to bW).cell
      have CX4' := (show Blk2 w7 _ _ _ _ from X4.to bW).cell1
      have CX6 := (show Blk2 w7 _ _ _ _ from X6.to bW).cell
      have CX6' := (show Blk2 w7 _ _ _ _ from X6.to bW).cell1
      have CX5 := (show Blk2 w7 _ _ _ _ from X5.to bW).cell
      have CX5' := (show Blk2 w7 _ _ _ _ from X5.to bW).cell1
      refine wp_regionE [] kR kR (mk_nil) (by exact fun _ _ _ _ _ h => h) (by exact fun _ _ _ _ _ h => h) (f := 20) (by rfl) ?_
      have hbdE2 : Below w7.heap.size w7 w7.drew := nxw (Below.refl _ _)
      generalize w7.drew = wdE2 at hbdE2 ⊢
      replace CX4 := cellB hbdE2 CX4
      replace CX4' := cellB hbdE2 CX4'
      replace CX6 := cellB hbdE2 CX6
      replace CX6' := cellB hbdE2 CX6'
      replace CX5 := cellB hbdE2 CX5
      replace CX5' := cellB hbdE2 CX5'
      have hH := Lib.hid (Below.refl wdE2.heap.size wdE2)
      refine anyE_take (i := 0) (v := ?_) gO kR (by exact fun _ _ _ h => h) (Or.inl ⟨by rfl, ?_⟩) hH.out ?_
      rotate_left
      · intro w hSw; have c := cellB hSw CX4; have c' := cellB hSw CX4'; go_simp; try with_reducible rfl
      try simp only [Act.put, sX, sY, sZ]
      refine anyE_take (i := 1) (v := ?_) gO kR (by exact fun _ _ _ h => h) (Or.inl ⟨by rfl, ?_⟩) hH.out ?_
      rotate_left
      · intro w hSw; have c := cellB hSw CX6; have c' := cellB hSw CX6'; go_simp; try with_reducible rfl
      try simp only [Act.put, sX, sY, sZ]
      refine anyE_take (i := 3) (v := ?_) gO kR (by exact fun _ _ _ h => h) (Or.inl ⟨by rfl, ?_⟩) hH.out ?_
      rotate_left
      · intro w hSw; have c := cellB hSw CX5; have c' := cellB hSw CX5'; go_simp; try with_reducible rfl
      try simp only [Act.put, sX, sY, sZ]
      refine anyE_take (i := 4) (v := ?_) gO kR (by exact fun _ _ _ h => h) (Or.inl ⟨by rfl, ?_⟩) hH.out ?_
      rotate_left
      · intro w hSw; have c := cellB hSw CX6; have c' := cellB hSw CX6'; go_simp; try with_reducible rfl
      try simp only [Act.put, sX, sY, sZ]
      refine anyE_take (i := 7) (v := ?_) gO kR (by exact fun _ _ _ h => h) (Or.inl ⟨by rfl, ?_⟩) hH.out ?_
      rotate_left
      · intro w hSw; go_simp; try with_reducible rfl
      try simp only [Act.put, sX, sY, sZ]
      refine anyE_one (i := 2) gO kR (fun wi2_2 hbwi2_2 K hK => ?_)
      go_simp
      go_at_call 24
      refine (integer_Add _ _ _ x _ _ _ z _ (h2.to bW) (h4.to bW) (by omega) (by omega)).mono ?_
      rintro e w8 ⟨A8, n8, c8, rfl, h8, hb8⟩
      have q8 := h8.le_of _ (zadd_lt h2.lt h4.lt)
      go_simp
      refine hK.out _ _ (show Below wi2_2.heap.size wi2_2 w8 from bW) ?_
      clear hK K
      replace hH := Lib.hid (nx hH.out (show Below wdE2.heap.size wdE2 w8 from bW))
      try simp only [Act.put, sX, sY, sZ]
      refine anyE_one (i := 5) gO kR (fun wi2_5 hbwi2_5 K hK => ?_)
      go_simp
      go_at_call 24
      refine (integer_Add _ _ _ y _ _ _ z _ (h3.to bW) (h4.to bW) (by omega) (by omega)).mono ?_
      rintro e w9 ⟨A9, n9, c9, rfl, h9, hb9⟩
      have q9 := h9.le_of _ (zadd_lt h3.lt h4.lt)
      go_simp
      refine hK.out _ _ (show Below wi2_5.heap.size wi2_5 w9 from bW) ?_
      clear hK K
      replace hH := Lib.hid (nx hH.out (show Below w8.heap.size w8 w9 from bW))
      try simp only [Act.put, sX, sY, sZ]
      refine anyE_one (i := 6) gO kR (fun wi2_6 hbwi2_6 K hK => ?_)
      go_simp
      go_at_call 23
      refine (integer_Cmp _ _ _ (x + z) _ _ _ (y + z) _ (h8.to bW) (h9.to bW)).mono ?_
      rw [cmpZ_add, HV.out]
      rintro e w10 ⟨rfl, hb10⟩
      go_simp
      refine hK.out _ _ (show Below wi2_6.heap.size wi2_6 w10 from bW) ?_
      clear hK K
      replace hH := Lib.hid (nx hH.out (show Below w9.heap.size w9 w10 from bW))
      try simp only [Act.put, sX, sY, sZ]
      refine anyE_take (i := 8) (v := ?_) gO kR (by exact fun _ _ _ h => h) (Or.inl ⟨by rfl, ?_⟩) hH.out ?_
      rotate_left
      · intro w hSw; go_simp; try with_reducible rfl
      try simp only [Act.put, sX, sY, sZ]
      refine anyE_take (i := 9) (v := ?_) gO kR (by exact fun _ _ _ h => h) (Or.inl ⟨by rfl, ?_⟩) hH.out ?_
      rotate_left
      · intro w hSw; go_simp; try with_reducible rfl
      try simp only [Act.put, sX, sY, sZ]
      refine anyE_take (i := 10) (v := ?_) gO kR (by exact fun _ _ _ h => h) (Or.inl ⟨by rfl, ?_⟩) hH.out ?_
      rotate_left
      · intro w hSw; have c := cellB hSw CX4; have c' := cellB hSw CX4'; go_simp; try with_reducible rfl
      try simp only [Act.put, sX, sY, sZ]
      refine anyE_take (i := 12) (v := ?_) gO kR (by exact fun _ _ _ h => h) (Or.inl ⟨by rfl, ?_⟩) hH.out ?_
      rotate_left
      · intro w hSw; have c := cellB hSw CX5; have c' := cellB hSw CX5'; go_simp; try with_reducible rfl
      try simp only [Act.put, sX, sY, sZ]
      refine anyE_take (i := 15) (v := ?_) gO kR (by exact fun _ _ _ h => h) (Or.inl ⟨by rfl, ?_⟩) hH.out ?_
      rotate_left
      · intro w hSw; go_simp; try with_reducible rfl
      try simp only [Act.put, sX, sY, sZ]
      refine anyE_take (i := 16) (v := ?_) gO kR (by exact fun _ _ _ h => h) (Or.inl ⟨by rfl, ?_⟩) hH.out ?_
      rotate_left
      · intro w hSw; go_simp; try with_reducible rfl
      try simp only [Act.put, sX, sY, sZ]
      refine anyE_one (i := 11) gO kR (fun wi2_11 hbwi2_11 K hK => ?_)
      go_simp
      go_at_call 25
      refine (integer_Neg _ _ _ x _ (h2.to bW)).mono ?_
      rintro e w11 ⟨A11, n11, c11, rfl, h11, hb11⟩
      have q11 := h11.le_of _ (show (-x).natAbs < _ by rw [Int.natAbs_neg]; exact h2.lt)
      go_simp
      refine hK.out _ _ (show Below wi2_11.heap.size wi2_11 w11 from bW) ?_
      clear hK K
      replace hH := Lib.hid (nx hH.out (show Below w10.heap.size w10 w11 from bW))
      try simp only [Act.put, sX, sY, sZ]
      refine anyE_one (i := 13) gO kR (fun wi2_13 hbwi2_13 K hK => ?_)
      go_simp
      go_at_call 25
      refine (integer_Neg _ _ _ y _ (h3.to bW)).mono ?_
      rintro e w12 ⟨A12, n12, c12, rfl, h12, hb12⟩
      have q12 := h12.le_of _ (show (-y).natAbs < _ by rw [Int.natAbs_neg]; exact h3.lt)
      go_simp
      refine hK.out _ _ (show Below wi2_13.heap.size wi2_13 w12 from bW) ?_
      clear hK K
      replace hH := Lib.hid (nx hH.out (show Below w11.heap.size w11 w12 from bW))
      try simp only [Act.put, sX, sY, sZ]
      refine anyE_one (i := 14) gO kR (fun wi2_14 hbwi2_14 K hK => ?_)
      go_simp
      go_at_call 23
      refine (integer_Cmp _ _ _ (-x) _ _ _ (-y) _ (h11.to bW) (h12.to bW)).mono ?_
      rw [cmpZ_neg, HV.out]
      rintro e w13 ⟨rfl, hb13⟩
      go_simp
      refine hK.out _ _ (show Below wi2_14.heap.size wi2_14 w13 from bW) ?_
      clear hK K
      replace hH := Lib.hid (nx hH.out (show Below w12.heap.size w12 w13 from bW))
      try simp only [Act.put, sX, sY, sZ]
      refine anyE_take (i := 17) (v := ?_) gO kR (by exact fun _ _ _ h => h) (Or.inl ⟨by rfl, ?_⟩) hH.out ?_
      rotate_left
      · intro w hSw; go_simp; try with_reducible rfl
      try simp only [Act.put, sX, sY, sZ]
      refine anyE_take (i := 18) (v := ?_) gO kR (by exact fun _ _ _ h => h) (Or.inl ⟨by rfl, ?_⟩) hH.out ?_
      rotate_left
      · intro w hSw; go_simp; try with_reducible rfl
      try simp only [Act.put, sX, sY, sZ]
      refine anyE_take (i := 19) (v := ?_) gO kR (by exact fun _ _ _ h => h) (Or.inl ⟨by rfl, ?_⟩) hH.out ?_
      rotate_left
      · intro w hSw; go_simp; try with_reducible rfl
      try simp only [Act.put, sX, sY, sZ]
      refine anyE_done kR (fun wzE2 hbzE2 => ?_)
      refine FinD_nil ?_
      try simp only [Act.put, sX, sY, sZ]
      have hbtE2 := Lib.hid (show Below w7.heap.size w7 wzE2 from nx hbdE2 (nx hH.out hbzE2))
      clear hH
      refine anyT_done kR ?_ _
      clear CX4 CX4' CX6 CX6' CX5 CX5'
      go_wp2_with fail
      go_ret
      exact ⟨rfl, bW⟩
    · obtain ⟨a, ha, a0⟩ : ∃ a, cmpZ y z = a ∧ a ≤ 0 := ⟨_, rfl, cmpZ_nonpos.2 h1⟩
      have HA := Lib.hid ha
      obtain ⟨d, hd, d0⟩ : ∃ d, cmpZ x z = d ∧ ¬ 0 < d := ⟨_, rfl, by have h5 : x ≤ y := (by omega); have := cmpZ_nonpos.2 (Int.le_trans h5 h1); omega⟩
      have HD := Lib.hid hd
      clear hxy h1 ha hd
      go_enter Try.func6, Try.ntmps6
      go_wp2_with fail
      have X1 := Blk2.newAt w (w.heap.size) 24 (.bool b) (.slice A n c) (by first | rfl | simp)
      have X2 := Blk2.newAt (w.alloc (.cells #[.bool b, .slice A n c] 24)) (w.heap.size + 1) 24 (.bool b') (.slice A' n' c') (by first | rfl | simp)
      have X3 := Blk2.newAt ((w.alloc (.cells #[.bool b, .slice A n c] 24)).alloc (.cells #[.bool b', .slice A' n' c'] 24)) (w.heap.size + 1 + 1) 24 (.bool b'') (.slice A'' n'' c'') (by first | rfl | simp)
      replace X1 := (show Blk2 (((w.alloc (.cells #[.bool b, .slice A n c] 24)).alloc (.cells #[.bool b', .slice A' n' c'] 24)).alloc (.cells #[.bool b'', .slice A'' n'' c''] 24)) _ _ _ _ from X1.to bW)
      replace X2 := (show Blk2 (((w.alloc (.cells #[.bool b, .slice A n c] 24)).alloc (.cells #[.bool b', .slice A' n' c'] 24)).alloc (.cells #[.bool b'', .slice A'' n'' c''] 24)) _ _ _ _ from X2.to bW)
      have hbwe1 : Below w.heap.size w (((w.alloc (.cells #[.bool b, .slice A n c] 24)).alloc (.cells #[.bool b', .slice A' n' c'] 24)).alloc (.cells #[.bool b'', .slice A'' n'' c''] 24)) := bW
      generalize (((w.alloc (.cells #[.bool b, .slice A n c] 24)).alloc (.cells #[.bool b', .slice A' n' c'] 24)).alloc (.cells #[.bool b'', .slice A'' n'' c''] 24)) = we1 at X1 X2 X3 hbwe1  ⊢
      refine (awake7 _).mono ?_
      rintro e w1 ⟨rfl, hb1⟩
      go_wp2_with fail
      have CX1 := (show Blk2 w1 _ _ _ _ from X1.to bW).cell
      have CX1' := (show Blk2 w1 _ _ _ _ from X1.to bW).cell1
      have CX2 := (show Blk2 w1 _ _ _ _ from X2.to bW).cell
      have CX2' := (show Blk2 w1 _ _ _ _ from X2.to bW).cell1
      have CX3 := (show Blk2 w1 _ _ _ _ from X3.to bW).cell
      have CX3' := (show Blk2 w1 _ _ _ _ from X3.to bW).cell1
      refine wp_regionE [(6, 7, 29, #[.bool false, .slice none 0 0]), (7, 8, 29, #[.bool false, .slice none 0 0]), (8, 9, 29, #[.bool false, .slice none 0 0])] kR kR (mk_cons (mk_int gO rfl rfl rfl) (mk_cons (mk_int gO rfl rfl rfl) (mk_cons (mk_int gO rfl rfl rfl) (mk_nil)))) (by exact fun _ _ _ _ _ h => h) (by exact fun _ _ _ _ _ h => h) (f := 9) (by rfl) ?_
      have hbdE1 : Below w1.heap.size w1 w1.drew := nxw (Below.refl _ _)
      generalize w1.drew = wdE1 at hbdE1 ⊢
      replace CX1 := cellB hbdE1 CX1
      replace CX1' := cellB hbdE1 CX1'
      replace CX2 := cellB hbdE1 CX2
      replace CX2' := cellB hbdE1 CX2'
      replace CX3 := cellB hbdE1 CX3
      replace CX3' := cellB hbdE1 CX3'
      have hH := Lib.hid (Below.refl wdE1.heap.size wdE1)
      refine anyE_take (i := 0) (v := ?_) gO kR (by exact fun _ _ _ h => h) (Or.inl ⟨by rfl, ?_⟩) hH.out ?_
      rotate_left
      · intro w hSw; have c := cellB hSw CX1; have c' := cellB hSw CX1'; go_simp; try with_reducible rfl
      try simp only [Act.put, sX, sY, sZ]
      refine anyE_take (i := 2) (v := ?_) gO kR (by exact fun _ _ _ h => h) (Or.inl ⟨by rfl, ?_⟩) hH.out ?_
      rotate_left
      · intro w hSw; have c := cellB hSw CX2; have c' := cellB hSw CX2'; go_simp; try with_reducible rfl
      try simp only [Act.put, sX, sY, sZ]
      refine anyE_take (i := 4) (v := ?_) gO kR (by exact fun _ _ _ h => h) (Or.inl ⟨by rfl, ?_⟩) hH.out ?_
      rotate_left
      · intro w hSw; have c := cellB hSw CX3; have c' := cellB hSw CX3'; go_simp; try with_reducible rfl
      try simp only [Act.put, sX, sY, sZ]
      refine anyE_one (i := 1) gO kR (fun wi1_1 hbwi1_1 K hK => ?_)
      go_simp
      go_at_call 12
      refine (law7_Make b _ _ _ u _ (k1.to bW) (by omega)).mono ?_
      rw [← HSx.out]
      rintro e w2 ⟨A2, n2, c2, rfl, h2, hb2⟩
      have q2 := h2.le_of _ (ltx)
      go_simp
      refine hK.out _ _ (show Below wi1_1.heap.size wi1_1 w2 from bW) ?_
      clear hK K
      replace hH := Lib.hid (nx hH.out (show Below wdE1.heap.size wdE1 w2 from bW))
      try simp only [Act.put, sX, sY, sZ]
      refine anyE_one (i := 3) gO kR (fun wi1_3 hbwi1_3 K hK => ?_)
      go_simp
      go_at_call 12
      refine (law7_Make b' _ _ _ v _ (k2.to bW) (by omega)).mono ?_
      rw [← HSy.out]
      rintro e w3 ⟨A3, n3, c3, rfl, h3, hb3⟩
      have q3 := h3.le_of _ (lty)
      go_simp
      refine hK.out _ _ (show Below wi1_3.heap.size wi1_3 w3 from bW) ?_
      clear hK K
      replace hH := Lib.hid (nx hH.out (show Below w2.heap.size w2 w3 from bW))
      try simp only [Act.put, sX, sY, sZ]
      refine anyE_one (i := 5) gO kR (fun wi1_5 hbwi1_5 K hK => ?_)
      go_simp
      go_at_call 12
      refine (law7_Make b'' _ _ _ t _ (k3.to bW) (by omega)).mono ?_
      rw [← HSz.out]
      rintro e w4 ⟨A4, n4, c4, rfl, h4, hb4⟩
      have q4 := h4.le_of _ (ltz)
      go_simp
      refine hK.out _ _ (show Below wi1_5.heap.size wi1_5 w4 from bW) ?_
      clear hK K
      replace hH := Lib.hid (nx hH.out (show Below w3.heap.size w3 w4 from bW))
      try simp only [Act.put, sX, sY, sZ]
      refine anyE_done kR (fun wzE1 hbzE1 => ?_)
      refine FinD_cons (fun gEX4 X4 hgEX4 hnEX4 => ?_)
      replace X4 : Blk2 wzE1 _ _ _ _ := X4
      clear hnEX4
      refine FinD_cons (fun gEX5 X5 hgEX5 hnEX5 => ?_)
      replace X5 : Blk2 wzE1 _ _ _ _ := X5
      have nEX5X4 : gEX5 ≠ gEX4 := fun e => hnEX5 (by simp [e])
      clear hnEX5
      refine FinD_cons (fun gEX6 X6 hgEX6 hnEX6 => ?_)
      replace X6 : Blk2 wzE1 _ _ _ _ := X6
      have nEX6X4 : gEX6 ≠ gEX4 := fun e => hnEX6 (by simp [e])
      have nEX6X5 : gEX6 ≠ gEX5 := fun e => hnEX6 (by simp [e])
      clear hnEX6
      refine FinD_nil ?_
      try simp only [Act.put, sX, sY, sZ]
      replace h2 := (show NatAt wzE1 _ _ _ _ from h2.to bW)
      replace h3 := (show NatAt wzE1 _ _ _ _ from h3.to bW)
      replace h4 := (show NatAt wzE1 _ _ _ _ from h4.to bW)
      have hbtE1 := Lib.hid (show Below w1.heap.size w1 wzE1 from nx hbdE1 (nx hH.out hbzE1))
      clear hH
      refine anyT_ready (rs := [9]) kR (by simp) (ReadyT.cons gO (fun K hK => ?_) ReadyT.nil)
      rw [if_pos (by rfl)]
      refine wp_store_int _ _ rfl rfl rfl X4 ?_
      replace X5 := X5.off2 (g := gEX4) nEX5X4 (.bool (bz x)) (.slice A2 n2 c2)
      replace X6 := X6.off2 (g := gEX4) nEX6X4 (.bool (bz x)) (.slice A2 n2 c2)
      replace h2 := h2.put2 X4 (.bool (bz x)) (.slice A2 n2 c2)
      replace h3 := h3.put2 X4 (.bool (bz x)) (.slice A2 n2 c2)
      replace h4 := h4.put2 X4 (.bool (bz x)) (.slice A2 n2 c2)
      replace hbtE1 := below_put2 hbtE1.out (g := gEX4) (Nat.le_trans hbdE1.size hgEX4) (.bool (bz x)) (.slice A2 n2 c2)
      replace X4 := X4.put2 (.bool (bz x)) (.slice A2 n2 c2)
      generalize put2 wzE1 gEX4 (.bool (bz x)) (.slice A2 n2 c2) = wsE2 at X4 X5 X6 h2 h3 h4 hbtE1 ⊢
      refine hK.out _ _ trivial (fun _ => ?_)
      clear hK K
      try simp only [Act.put, sX, sY, sZ]
      refine anyT_ready (rs := [10]) kR (by simp) (ReadyT.cons gO (fun K hK => ?_) ReadyT.nil)
      rw [if_pos (by rfl)]
      refine wp_store_int _ _ rfl rfl rfl X5 ?_
      replace X4 := X4.off2 (g := gEX5) (Ne.symm nEX5X4) (.bool (bz y)) (.slice A3 n3 c3)
      replace X6 := X6.off2 (g := gEX5) nEX6X5 (.bool (bz y)) (.slice A3 n3 c3)
      replace h2 := h2.put2 X5 (.bool (bz y)) (.slice A3 n3 c3)
      replace h3 := h3.put2 X5 (.bool (bz y)) (.slice A3 n3 c3)
      replace h4 := h4.put2 X5 (.bool (bz y)) (.slice A3 n3 c3)
      replace hbtE1 := below_put2 hbtE1 (g := gEX5) (Nat.le_trans hbdE1.size hgEX5) (.bool (bz y)) (.slice A3 n3 c3)
      replace X5 := X5.put2 (.bool (bz y)) (.slice A3 n3 c3)
      generalize put2 wsE2 gEX5 (.bool (bz y)) (.slice A3 n3 c3) = wsE3 at X5 X4 X6 h2 h3 h4 hbtE1 ⊢
      refine hK.out _ _ trivial (fun _ => ?_)
      clear hK K
      try simp only [Act.put, sX, sY, sZ]
      refine anyT_ready (rs := [11]) kR (by simp) (ReadyT.cons gO (fun K hK => ?_) ReadyT.nil)
      rw [if_pos (by rfl)]
      refine wp_store_int _ _ rfl rfl rfl X6 ?_
      replace X4 := X4.off2 (g := gEX6) (Ne.symm nEX6X4) (.bool (bz z)) (.slice A4 n4 c4)
      replace X5 := X5.off2 (g := gEX6) (Ne.symm nEX6X5) (.bool (bz z)) (.slice A4 n4 c4)
      replace h2 := h2.put2 X6 (.bool (bz z)) (.slice A4 n4 c4)
      replace h3 := h3.put2 X6 (.bool (bz z)) (.slice A4 n4 c4)
      replace h4 := h4.put2 X6 (.bool (bz z)) (.slice A4 n4 c4)
      replace hbtE1 := below_put2 hbtE1 (g := gEX6) (Nat.le_trans hbdE1.size hgEX6) (.bool (bz z)) (.slice A4 n4 c4)
      replace X6 := X6.put2 (.bool (bz z)) (.slice A4 n4 c4)
      generalize put2 wsE3 gEX6 (.bool (bz z)) (.slice A4 n4 c4) = wsE4 at X6 X4 X5 h2 h3 h4 hbtE1 ⊢
      refine hK.out _ _ trivial (fun _ => ?_)
      clear hK K
      try simp only [Act.put, sX, sY, sZ]
      refine anyT_done kR ?_ _
      clear CX1 CX1' CX2 CX2' CX3 CX3'
      have d1 := (show Blk2 wsE4 _ _ _ _ from X4.to bW).cell
      have d1' := (show Blk2 wsE4 _ _ _ _ from X4.to bW).cell1
      have d2 := (show Blk2 wsE4 _ _ _ _ from X5.to bW).cell
      have d2' := (show Blk2 wsE4 _ _ _ _ from X5.to bW).cell1
      go_wp2_with fail
      clear d1 d1' d2 d2'
      refine (integer_Cmp _ _ _ x _ _ _ y _ (h2.to bW) (h3.to bW)).mono ?_
      rw [HV.out]
      rintro e w5 ⟨rfl, hb5⟩
      have d3 := (show Blk2 w5 _ _ _ _ from X5.to bW).cell
      have d3' := (show Blk2 w5 _ _ _ _ from X5.to bW).cell1
      have d4 := (show Blk2 w5 _ _ _ _ from X4.to bW).cell
      have d4' := (show Blk2 w5 _ _ _ _ from X4.to bW).cell1
      go_wp2_with fail
      clear d3 d3' d4 d4'
      refine (integer_Cmp _ _ _ y _ _ _ x _ (h3.to bW) (h2.to bW)).mono ?_
      rw [cmpZ_swap x y, HV.out]
      rintro e w6 ⟨rfl, hb6⟩
      have d5 := (show Blk2 w6 _ _ _ _ from X5.to bW).cell
      have d5' := (show Blk2 w6 _ _ _ _ from X5.to bW).cell1
      have d6 := (show Blk2 w6 _ _ _ _ from X6.to bW).cell
      have d6' := (show Blk2 w6 _ _ _ _ from X6.to bW).cell1
      go_wp2_with fail
      clear d5 d5' d6 d6'
      refine (integer_Cmp _ _ _ y _ _ _ z _ (h3.to bW) (h4.to bW)).mono ?_
      rw [HA.out]
      rintro e w7 ⟨rfl, hb7⟩
      have d7 := (show Blk2 w7 _ _ _ _ from X4.to bW).cell
      have d7' := (show Blk2 w7 _ _ _ _ from X4.to bW).cell1
      have d8 := (show Blk2 w7 _ _ _ _ from X6.to bW).cell
      have d8' := (show Blk2 w7 _ _ _ _ from X6.to bW).cell1
      go_wp2_with fail
      clear d7 d7' d8 d8'
      refine (integer_Cmp _ _ _ x _ _ _ z _ (h2.to bW) (h4.to bW)).mono ?_
      rw [HD.out]
      rintro e w8 ⟨rfl, hb8⟩
      go_wp2_with fail
      have CX4 := (show Blk2 w8 _ _ _ _ from X4.to bW).cell
      have CX4' := (show Blk2 w8 _ _ _ _ from X4.to bW).cell1
      have CX6 := (show Blk2 w8 _ _ _ _ from X6.to bW).cell
      have CX6' := (show Blk2 w8 _ _ _ _ from X6.to bW).cell1
      have CX5 := (show Blk2 w8 _ _ _ _ from X5.to bW).cell
      have CX5' := (show Blk2 w8 _ _ _ _ from X5.to bW).cell1
      refine wp_regionE [] kR kR (mk_nil) (by exact fun _ _ _ _ _ h => h) (by exact fun _ _ _ _ _ h => h) (f := 20) (by rfl) ?_
      have hbdE2 : Below w8.heap.size w8 w8.drew := nxw (Below.refl _ _)
      generalize w8.drew = wdE2 at hbdE2 ⊢
      replace CX4 := cellB hbdE2 CX4
      replace CX4' := cellB hbdE2 CX4'
      replace CX6 := cellB hbdE2 CX6
      replace CX6' := cellB hbdE2 CX6'
      replace CX5 := cellB hbdE2 CX5
      replace CX5' := cellB hbdE2 CX5'
      have hH := Lib.hid (Below.refl wdE2.heap.size wdE2)
      refine anyE_take (i := 0) (v := ?_) gO kR (by exact fun _ _ _ h => h) (Or.inl ⟨by rfl, ?_⟩) hH.out ?_
      rotate_left
      · intro w hSw; have c := cellB hSw CX4; have c' := cellB hSw CX4'; go_simp; try with_reducible rfl
      try simp only [Act.put, sX, sY, sZ]
      refine anyE_take (i := 1) (v := ?_) gO kR (by exact fun _ _ _ h => h) (Or.inl ⟨by rfl, ?_⟩) hH.out ?_
      rotate_left
      · intro w hSw; have c := cellB hSw CX6; have c' := cellB hSw CX6'; go_simp; try with_reducible rfl
      try simp only [Act.put, sX, sY, sZ]
      refine anyE_take (i := 3) (v := ?_) gO kR (by exact fun _ _ _ h => h) (Or.inl ⟨by rfl, ?_⟩) hH.out ?_
      rotate_left
      · intro w hSw; have c := cellB hSw CX5; have c' := cellB hSw CX5'; go_simp; try with_reducible rfl
      try simp only [Act.put, sX, sY, sZ]
      refine anyE_take (i := 4) (v := ?_) gO kR (by exact fun _ _ _ h => h) (Or.inl ⟨by rfl, ?_⟩) hH.out ?_
      rotate_left
      · intro w hSw; have c := cellB hSw CX6; have c' := cellB hSw CX6'; go_simp; try with_reducible rfl
      try simp only [Act.put, sX, sY, sZ]
      refine anyE_take (i := 7) (v := ?_) gO kR (by exact fun _ _ _ h => h) (Or.inl ⟨by rfl, ?_⟩) hH.out ?_
      rotate_left
      · intro w hSw; go_simp; try with_reducible rfl
      try simp only [Act.put, sX, sY, sZ]
      refine anyE_one (i := 2) gO kR (fun wi2_2 hbwi2_2 K hK => ?_)
      go_simp
      go_at_call 24
      refine (integer_Add _ _ _ x _ _ _ z _ (h2.to bW) (h4.to bW) (by omega) (by omega)).mono ?_
      rintro e w9 ⟨A9, n9, c9, rfl, h9, hb9⟩
      have q9 := h9.le_of _ (zadd_lt h2.lt h4.lt)
      go_simp
      refine hK.out _ _ (show Below wi2_2.heap.size wi2_2 w9 from bW) ?_
      clear hK K
      replace hH := Lib.hid (nx hH.out (show Below wdE2.heap.size wdE2 w9 from bW))
      try simp only [Act.put, sX, sY, sZ]
      refine anyE_one (i := 5) gO kR (fun wi2_5 hbwi2_5 K hK => ?_)
      go_simp
      go_at_call 24
      refine (integer_Add _ _ _ y _ _ _ z _ (h3.to bW) (h4.to bW) (by omega) (by omega)).mono ?_
      rintro e w10 ⟨A10, n10, c10, rfl, h10, hb10⟩
      have q10 := h10.le_of _ (zadd_lt h3.lt h4.lt)
      go_simp
      refine hK.out _ _ (show Below wi2_5.heap.size wi2_5 w10 from bW) ?_
      clear hK K
      replace hH := Lib.hid (nx hH.out (show Below w9.heap.size w9 w10 from bW))
      try simp only [Act.put, sX, sY, sZ]
      refine anyE_one (i := 6) gO kR (fun wi2_6 hbwi2_6 K hK => ?_)
      go_simp
      go_at_call 23
      refine (integer_Cmp _ _ _ (x + z) _ _ _ (y + z) _ (h9.to bW) (h10.to bW)).mono ?_
      rw [cmpZ_add, HV.out]
      rintro e w11 ⟨rfl, hb11⟩
      go_simp
      refine hK.out _ _ (show Below wi2_6.heap.size wi2_6 w11 from bW) ?_
      clear hK K
      replace hH := Lib.hid (nx hH.out (show Below w10.heap.size w10 w11 from bW))
      try simp only [Act.put, sX, sY, sZ]
      refine anyE_take (i := 8) (v := ?_) gO kR (by exact fun _ _ _ h => h) (Or.inl ⟨by rfl, ?_⟩) hH.out ?_
      rotate_left
      · intro w hSw; go_simp; try with_reducible rfl
      try simp only [Act.put, sX, sY, sZ]
      refine anyE_take (i := 9) (v := ?_) gO kR (by exact fun _ _ _ h => h) (Or.inl ⟨by rfl, ?_⟩) hH.out ?_
      rotate_left
      · intro w hSw; go_simp; try with_reducible rfl
      try simp only [Act.put, sX, sY, sZ]
      refine anyE_take (i := 10) (v := ?_) gO kR (by exact fun _ _ _ h => h) (Or.inl ⟨by rfl, ?_⟩) hH.out ?_
      rotate_left
      · intro w hSw; have c := cellB hSw CX4; have c' := cellB hSw CX4'; go_simp; try with_reducible rfl
      try simp only [Act.put, sX, sY, sZ]
      refine anyE_take (i := 12) (v := ?_) gO kR (by exact fun _ _ _ h => h) (Or.inl ⟨by rfl, ?_⟩) hH.out ?_
      rotate_left
      · intro w hSw; have c := cellB hSw CX5; have c' := cellB hSw CX5'; go_simp; try with_reducible rfl
      try simp only [Act.put, sX, sY, sZ]
      refine anyE_take (i := 15) (v := ?_) gO kR (by exact fun _ _ _ h => h) (Or.inl ⟨by rfl, ?_⟩) hH.out ?_
      rotate_left
      · intro w hSw; go_simp; try with_reducible rfl
      try simp only [Act.put, sX, sY, sZ]
      refine anyE_take (i := 16) (v := ?_) gO kR (by exact fun _ _ _ h => h) (Or.inl ⟨by rfl, ?_⟩) hH.out ?_
      rotate_left
      · intro w hSw; go_simp; try with_reducible rfl
      try simp only [Act.put, sX, sY, sZ]
      refine anyE_one (i := 11) gO kR (fun wi2_11 hbwi2_11 K hK => ?_)
      go_simp
      go_at_call 25
      refine (integer_Neg _ _ _ x _ (h2.to bW)).mono ?_
      rintro e w12 ⟨A12, n12, c12, rfl, h12, hb12⟩
      have q12 := h12.le_of _ (show (-x).natAbs < _ by rw [Int.natAbs_neg]; exact h2.lt)
      go_simp
      refine hK.out _ _ (show Below wi2_11.heap.size wi2_11 w12 from bW) ?_
      clear hK K
      replace hH := Lib.hid (nx hH.out (show Below w11.heap.size w11 w12 from bW))
      try simp only [Act.put, sX, sY, sZ]
      refine anyE_one (i := 13) gO kR (fun wi2_13 hbwi2_13 K hK => ?_)
      go_simp
      go_at_call 25
      refine (integer_Neg _ _ _ y _ (h3.to bW)).mono ?_
      rintro e w13 ⟨A13, n13, c13, rfl, h13, hb13⟩
      have q13 := h13.le_of _ (show (-y).natAbs < _ by rw [Int.natAbs_neg]; exact h3.lt)
      go_simp
      refine hK.out _ _ (show Below wi2_13.heap.size wi2_13 w13 from bW) ?_
      clear hK K
      replace hH := Lib.hid (nx hH.out (show Below w12.heap.size w12 w13 from bW))
      try simp only [Act.put, sX, sY, sZ]
      refine anyE_one (i := 14) gO kR (fun wi2_14 hbwi2_14 K hK => ?_)
      go_simp
      go_at_call 23
      refine (integer_Cmp _ _ _ (-x) _ _ _ (-y) _ (h12.to bW) (h13.to bW)).mono ?_
      rw [cmpZ_neg, HV.out]
      rintro e w14 ⟨rfl, hb14⟩
      go_simp
      refine hK.out _ _ (show Below wi2_14.heap.size wi2_14 w14 from bW) ?_
      clear hK K
      replace hH := Lib.hid (nx hH.out (show Below w13.heap.size w13 w14 from bW))
      try simp only [Act.put, sX, sY, sZ]
      refine anyE_take (i := 17) (v := ?_) gO kR (by exact fun _ _ _ h => h) (Or.inl ⟨by rfl, ?_⟩) hH.out ?_
      rotate_left
      · intro w hSw; go_simp; try with_reducible rfl
      try simp only [Act.put, sX, sY, sZ]
      refine anyE_take (i := 18) (v := ?_) gO kR (by exact fun _ _ _ h => h) (Or.inl ⟨by rfl, ?_⟩) hH.out ?_
      rotate_left
      · intro w hSw; go_simp; try with_reducible rfl
      try simp only [Act.put, sX, sY, sZ]
      refine anyE_take (i := 19) (v := ?_) gO kR (by exact fun _ _ _ h => h) (Or.inl ⟨by rfl, ?_⟩) hH.out ?_
      rotate_left
      · intro w hSw; go_simp; try with_reducible rfl
      try simp only [Act.put, sX, sY, sZ]
      refine anyE_done kR (fun wzE2 hbzE2 => ?_)
      refine FinD_nil ?_
      try simp only [Act.put, sX, sY, sZ]
      have hbtE2 := Lib.hid (show Below w8.heap.size w8 wzE2 from nx hbdE2 (nx hH.out hbzE2))
      clear hH
      refine anyT_done kR ?_ _
      clear CX4 CX4' CX6 CX6' CX5 CX5'
      go_wp2_with fail
      go_ret
      exact ⟨rfl, bW⟩
end Go.Proofs.Ytihbpkljjmpkjaa
