/- The walk of 'IntegerRing'. -/
import Derived.Test.YtihbpkljjmpkjaaAwake7
import Derived.Test.YtihbpkljjmpkjaaTxtLaw3
set_option linter.unusedVariables false
set_option linter.unusedSimpArgs false
namespace Go.Proofs.Ytihbpkljjmpkjaa
open Go.RowKit
set_option maxRecDepth 100000
set_option maxHeartbeats 8000000 in
theorem law_IntegerRing (b A n c u) (b' A' n' c' v) (b'' A'' n'' c'' t) (w : World) (k1 : Dig .u64 W w A n c u) (k2 : Dig .u64 W w A' n' c' v) (k3 : Dig .u64 W w A'' n'' c'' t) (r1 : n ≤ 1048576) (r2 : n' ≤ 1048576) (r3 : n'' ≤ 1048576) :
    Calls Try.prog 8 #[.agg #[.bool b, .slice A n c], .agg #[.bool b', .slice A' n' c'], .agg #[.bool b'', .slice A'' n'' c'']] w (Ret w (.bool true)) := by
  obtain ⟨x, hx⟩ : ∃ x : Int, x = sg b u := ⟨_, rfl⟩
  have HSx := Lib.hid hx
  have ltx : x.natAbs < W ^ n := by rw [hx, sg_abs]; exact k1.lt
  have rtx : x.natAbs < 65536 ^ (4 * n) := by rw [Nat.pow_mul]; exact ltx
  obtain ⟨y, hy⟩ : ∃ y : Int, y = sg b' v := ⟨_, rfl⟩
  have HSy := Lib.hid hy
  have lty : y.natAbs < W ^ n' := by rw [hy, sg_abs]; exact k2.lt
  have rty : y.natAbs < 65536 ^ (4 * n') := by rw [Nat.pow_mul]; exact lty
  obtain ⟨z, hz⟩ : ∃ z : Int, z = sg b'' t := ⟨_, rfl⟩
  have HSz := Lib.hid hz
  have ltz : z.natAbs < W ^ n'' := by rw [hz, sg_abs]; exact k3.lt
  have rtz : z.natAbs < 65536 ^ (4 * n'') := by rw [Nat.pow_mul]; exact ltz
  clear hx hy hz
  go_enter Try.func8, Try.ntmps8
  go_wp2_with fail
  have X1 := Blk2.newAt w (w.heap.size) 24 (.bool b) (.slice A n c) (by first | rfl | simp)
  have X2 := Blk2.newAt (w.alloc (.cells #[.bool b, .slice A n c] 24)) (w.heap.size + 1) 24 (.bool b') (.slice A' n' c') (by first | rfl | simp)
  have X3 := Blk2.newAt ((w.alloc (.cells #[.bool b, .slice A n c] 24)).alloc (.cells #[.bool b', .slice A' n' c'] 24)) (w.heap.size + 1 + 1) 24 (.bool b'') (.slice A'' n'' c'') (by first | rfl | simp)
  replace X1 := (show Blk2 (((w.alloc (.cells #[.bool b, .slice A n c] 24)).alloc (.cells #[.bool b', .slice A' n' c'] 24)).alloc (.cells #[.bool b'', .slice A'' n'' c''] 24)) _ _ _ _ from X1.to bW)
  replace X2 := (show Blk2 (((w.alloc (.cells #[.bool b, .slice A n c] 24)).alloc (.cells #[.bool b', .slice A' n' c'] 24)).alloc (.cells #[.bool b'', .slice A'' n'' c''] 24)) _ _ _ _ from X2.to bW)
  have hbwe1 : Below w.heap.size w (((w.alloc (.cells #[.bool b, .slice A n c] 24)).alloc (.cells #[.bool b', .slice A' n' c'] 24)).alloc (.cells #[.bool b'', .slice A'' n'' c''] 24)) := bW
  generalize (((w.alloc (.cells #[.bool b, .slice A n c] 24)).alloc (.cells #[.bool b', .slice A' n' c'] 24)).alloc (.cells #[.bool b'', .slice A'' n'' c''] 24)) = we1 at X1 X2 X3 hbwe1  ⊢
  refine (awake7 _).mono ?_
  rintro e w1 ⟨rfl, hb1⟩
  go_wp2_with fail
  have CX1 := (show Blk2 w1 _ _ _ _ from X1.to bW).cell
  have CX1' := (show Blk2 w1 _ _ _ _ from X1.to bW).cell1
  have CX2 := (show Blk2 w1 _ _ _ _ from X2.to bW).cell
  have CX2' := (show Blk2 w1 _ _ _ _ from X2.to bW).cell1
  have CX3 := (show Blk2 w1 _ _ _ _ from X3.to bW).cell
  have CX3' := (show Blk2 w1 _ _ _ _ from X3.to bW).cell1
  refine wp_regionE [(6, 7, 29, #[.bool false, .slice none 0 0]), (7, 8, 29, #[.bool false, .slice none 0 0]), (8, 9, 29, #[.bool false, .slice none 0 0])] kR kR (mk_cons (mk_int gO rfl rfl rfl) (mk_cons (mk_int gO rfl rfl rfl) (mk_cons (mk_int gO rfl rfl rfl) (mk_nil)))) (by exact fun _ _ _ _ _ h => h) (by exact fun _ _ _ _ _ h => h) (f := 9) (by rfl) ?_
  have hbdE1 : Below w1.heap.size w1 w1.drew := nxw (Below.refl _ _)
  generalize w1.drew = wdE1 at hbdE1 ⊢
  replace CX1 := cellB hbdE1 CX1
  replace CX1' := cellB hbdE1 CX1'
  replace CX2 := cellB hbdE1 CX2
  replace CX2' := cellB hbdE1 CX2'
  replace CX3 := cellB hbdE1 CX3
  replace CX3' := cellB hbdE1 CX3'
  have hH := Lib.hid (Below.refl wdE1.heap.size wdE1)
  refine anyE_take (i := 0) (v := ?_) gO kR (by exact fun _ _ _ h => h) (Or.inl ⟨by rfl, ?_⟩) hH.out ?_
  rotate_left
  · intro w hSw; have c := cellB hSw CX1; have c' := cellB hSw CX1'; go_simp; try with_reducible rfl
  try simp only [Act.put, sX, sY, sZ]
  refine anyE_take (i := 2) (v := ?_) gO kR (by exact fun _ _ _ h => h) (Or.inl ⟨by rfl, ?_⟩) hH.out ?_
  rotate_left
  · intro w hSw; have c := cellB hSw CX2; have c' := cellB hSw CX2'; go_simp; try with_reducible rfl
  try simp only [Act.put, sX, sY, sZ]
  refine anyE_take (i := 4) (v := ?_) gO kR (by exact fun _ _ _ h => h) (Or.inl ⟨by rfl, ?_⟩) hH.out ?_
  rotate_left
  · intro w hSw; have c := cellB hSw CX3; have c' := cellB hSw CX3'; go_simp; try with_reducible rfl
  try simp only [Act.put, sX, sY, sZ]
  refine anyE_one (i := 1) gO kR (fun wi1_1 hbwi1_1 K hK => ?_)
  go_simp
  go_at_call 12
  refine (law7_Make b _ _ _ u _ (k1.to bW) (by omega)).mono ?_
  rw [← HSx.out]
  rintro e w2 ⟨A2, n2, c2, rfl, h2, hb2⟩
  have q2 : n2 ≤ 1048576 := by have := h2.le_of _ (ltx); omega
  go_simp
  refine hK.out _ _ (show Below wi1_1.heap.size wi1_1 w2 from bW) ?_
  clear hK K
  replace hH := Lib.hid (nx hH.out (show Below wdE1.heap.size wdE1 w2 from bW))
  try simp only [Act.put, sX, sY, sZ]
  refine anyE_one (i := 3) gO kR (fun wi1_3 hbwi1_3 K hK => ?_)
  go_simp
  go_at_call 12
  refine (law7_Make b' _ _ _ v _ (k2.to bW) (by omega)).mono ?_
  rw [← HSy.out]
  rintro e w3 ⟨A3, n3, c3, rfl, h3, hb3⟩
  have q3 : n3 ≤ 1048576 := by have := h3.le_of _ (lty); omega
  go_simp
  refine hK.out _ _ (show Below wi1_3.heap.size wi1_3 w3 from bW) ?_
  clear hK K
  replace hH := Lib.hid (nx hH.out (show Below w2.heap.size w2 w3 from bW))
  try simp only [Act.put, sX, sY, sZ]
  refine anyE_one (i := 5) gO kR (fun wi1_5 hbwi1_5 K hK => ?_)
  go_simp
  go_at_call 12
  refine (law7_Make b'' _ _ _ t _ (k3.to bW) (by omega)).mono ?_
  rw [← HSz.out]
  rintro e w4 ⟨A4, n4, c4, rfl, h4, hb4⟩
  have q4 : n4 ≤ 1048576 := by have := h4.le_of _ (ltz); omega
  go_simp
  refine hK.out _ _ (show Below wi1_5.heap.size wi1_5 w4 from bW) ?_
  clear hK K
  replace hH := Lib.hid (nx hH.out (show Below w3.heap.size w3 w4 from bW))
  try simp only [Act.put, sX, sY, sZ]
  refine anyE_done kR (fun wzE1 hbzE1 => ?_)
  refine FinD_cons (fun gEX4 X4 hgEX4 hnEX4 => ?_)
  replace X4 : Blk2 wzE1 _ _ _ _ := X4
  clear hnEX4
  refine FinD_cons (fun gEX5 X5 hgEX5 hnEX5 => ?_)
  replace X5 : Blk2 wzE1 _ _ _ _ := X5
  have nEX5X4 : gEX5 ≠ gEX4 := fun e => hnEX5 (by simp [e])
  clear hnEX5
  refine FinD_cons (fun gEX6 X6 hgEX6 hnEX6 => ?_)
  replace X6 : Blk2 wzE1 _ _ _ _ := X6
  have nEX6X4 : gEX6 ≠ gEX4 := fun e => hnEX6 (by simp [e])
  have nEX6X5 : gEX6 ≠ gEX5 := fun e => hnEX6 (by simp [e])
  clear hnEX6
  refine FinD_nil ?_
  try simp only [Act.put, sX, sY, sZ]
  replace h2 := (show NatAt wzE1 _ _ _ _ from h2.to bW)
  replace h3 := (show NatAt wzE1 _ _ _ _ from h3.to bW)
  replace h4 := (show NatAt wzE1 _ _ _ _ from h4.to bW)
  have hbtE1 := Lib.hid (show Below w1.heap.size w1 wzE1 from nx hbdE1 (nx hH.out hbzE1))
  clear hH
  refine anyT_ready (rs := [9]) kR (by simp) (ReadyT.cons gO (fun K hK => ?_) ReadyT.nil)
  rw [if_pos (by rfl)]
  refine wp_store_int _ _ rfl rfl rfl X4 ?_
  replace X5 := X5.off2 (g := gEX4) nEX5X4 (.bool (bz x)) (.slice A2 n2 c2)
  replace X6 := X6.off2 (g := gEX4) nEX6X4 (.bool (bz x)) (.slice A2 n2 c2)
  replace h2 := h2.put2 X4 (.bool (bz x)) (.slice A2 n2 c2)
  replace h3 := h3.put2 X4 (.bool (bz x)) (.slice A2 n2 c2)
  replace h4 := h4.put2 X4 (.bool (bz x)) (.slice A2 n2 c2)
  replace hbtE1 := below_put2 hbtE1.out (g := gEX4) (Nat.le_trans hbdE1.size hgEX4) (.bool (bz x)) (.slice A2 n2 c2)
  replace X4 := X4.put2 (.bool (bz x)) (.slice A2 n2 c2)
  generalize put2 wzE1 gEX4 (.bool (bz x)) (.slice A2 n2 c2) = wsE2 at X4 X5 X6 h2 h3 h4 hbtE1 ⊢
  refine hK.out _ _ trivial (fun _ => ?_)
  clear hK K
  try simp only [Act.put, sX, sY, sZ]
  refine anyT_ready (rs := [10]) kR (by simp) (ReadyT.cons gO (fun K hK => ?_) ReadyT.nil)
  rw [if_pos (by rfl)]
  refine wp_store_int _ _ rfl rfl rfl X5 ?_
  replace X4 := X4.off2 (g := gEX5) (Ne.symm nEX5X4) (.bool (bz y)) (.slice A3 n3 c3)
  replace X6 := X6.off2 (g := gEX5) nEX6X5 (.bool (bz y)) (.slice A3 n3 c3)
  replace h2 := h2.put2 X5 (.bool (bz y)) (.slice A3 n3 c3)
  replace h3 := h3.put2 X5 (.bool (bz y)) (.slice A3 n3 c3)
  replace h4 := h4.put2 X5 (.bool (bz y)) (.slice A3 n3 c3)
  replace hbtE1 := below_put2 hbtE1 (g := gEX5) (Nat.le_trans hbdE1.size hgEX5) (.bool (bz y)) (.slice A3 n3 c3)
  replace X5 := X5.put2 (.bool (bz y)) (.slice A3 n3 c3)
  generalize put2 wsE2 gEX5 (.bool (bz y)) (.slice A3 n3 c3) = wsE3 at X5 X4 X6 h2 h3 h4 hbtE1 ⊢
  refine hK.out _ _ trivial (fun _ => ?_)
  clear hK K
  try simp only [Act.put, sX, sY, sZ]
  refine anyT_ready (rs := [11]) kR (by simp) (ReadyT.cons gO (fun K hK => ?_) ReadyT.nil)
  rw [if_pos (by rfl)]
  refine wp_store_int _ _ rfl rfl rfl X6 ?_
  replace X4 := X4.off2 (g := gEX6) (Ne.symm nEX6X4) (.bool (bz z)) (.slice A4 n4 c4)
  replace X5 := X5.off2 (g := gEX6) (Ne.symm nEX6X5) (.bool (bz z)) (.slice A4 n4 c4)
  replace h2 := h2.put2 X6 (.bool (bz z)) (.slice A4 n4 c4)
  replace h3 := h3.put2 X6 (.bool (bz z)) (.slice A4 n4 c4)
  replace h4 := h4.put2 X6 (.bool (bz z)) (.slice A4 n4 c4)
  replace hbtE1 := below_put2 hbtE1 (g := gEX6) (Nat.le_trans hbdE1.size hgEX6) (.bool (bz z)) (.slice A4 n4 c4)
  replace X6 := X6.put2 (.bool (bz z)) (.slice A4 n4 c4)
  generalize put2 wsE3 gEX6 (.bool (bz z)) (.slice A4 n4 c4) = wsE4 at X6 X4 X5 h2 h3 h4 hbtE1 ⊢
  refine hK.out _ _ trivial (fun _ => ?_)
  clear hK K
  try simp only [Act.put, sX, sY, sZ]
  refine anyT_done kR ?_ _
  clear CX1 CX1' CX2 CX2' CX3 CX3'
  go_wp2_with fail
  have CX4 := (show Blk2 wsE4 _ _ _ _ from X4.to bW).cell
  have CX4' := (show Blk2 wsE4 _ _ _ _ from X4.to bW).cell1
  have CX5 := (show Blk2 wsE4 _ _ _ _ from X5.to bW).cell
  have CX5' := (show Blk2 wsE4 _ _ _ _ from X5.to bW).cell1
  refine wp_regionE [(6, 10, 29, #[.bool false, .slice none 0 0]), (7, 11, 29, #[.bool false, .slice none 0 0])] kR kR (mk_cons (mk_int gO rfl rfl rfl) (mk_cons (mk_int gO rfl rfl rfl) (mk_nil))) (by exact fun _ _ _ _ _ h => h) (by exact fun _ _ _ _ _ h => h) (f := 8) (by rfl) ?_
  have hbdE2 : Below wsE4.heap.size wsE4 wsE4.drew := nxw (Below.refl _ _)
  generalize wsE4.drew = wdE2 at hbdE2 ⊢
  replace CX4 := cellB hbdE2 CX4
  replace CX4' := cellB hbdE2 CX4'
  replace CX5 := cellB hbdE2 CX5
  replace CX5' := cellB hbdE2 CX5'
  have hH := Lib.hid (Below.refl wdE2.heap.size wdE2)
  refine anyE_take (i := 0) (v := ?_) gO kR (by exact fun _ _ _ h => h) (Or.inl ⟨by rfl, ?_⟩) hH.out ?_
  rotate_left
  · intro w hSw; have c := cellB hSw CX4; have c' := cellB hSw CX4'; go_simp; try with_reducible rfl
  try simp only [Act.put, sX, sY, sZ]
  refine anyE_take (i := 1) (v := ?_) gO kR (by exact fun _ _ _ h => h) (Or.inl ⟨by rfl, ?_⟩) hH.out ?_
  rotate_left
  · intro w hSw; have c := cellB hSw CX5; have c' := cellB hSw CX5'; go_simp; try with_reducible rfl
  try simp only [Act.put, sX, sY, sZ]
  refine anyE_take (i := 3) (v := ?_) gO kR (by exact fun _ _ _ h => h) (Or.inl ⟨by rfl, ?_⟩) hH.out ?_
  rotate_left
  · intro w hSw; have c := cellB hSw CX4; have c' := cellB hSw CX4'; go_simp; try with_reducible rfl
  try simp only [Act.put, sX, sY, sZ]
  refine anyE_take (i := 4) (v := ?_) gO kR (by exact fun _ _ _ h => h) (Or.inl ⟨by rfl, ?_⟩) hH.out ?_
  rotate_left
  · intro w hSw; have c := cellB hSw CX5; have c' := cellB hSw CX5'; go_simp; try with_reducible rfl
  try simp only [Act.put, sX, sY, sZ]
  refine anyE_one (i := 2) gO kR (fun wi2_2 hbwi2_2 K hK => ?_)
  go_simp
  go_at_call 24
  refine (integer_Add _ _ _ x _ _ _ y _ (h2.to bW) (h3.to bW) (by omega) (by omega)).mono ?_
  rintro e w5 ⟨A5, n5, c5, rfl, h5, hb5⟩
  have q5 : n5 ≤ 1048577 := by have := h5.le_of _ (zadd_lt h2.lt h3.lt); omega
  go_simp
  refine hK.out _ _ (show Below wi2_2.heap.size wi2_2 w5 from bW) ?_
  clear hK K
  replace hH := Lib.hid (nx hH.out (show Below wdE2.heap.size wdE2 w5 from bW))
  try simp only [Act.put, sX, sY, sZ]
  refine anyE_one (i := 5) gO kR (fun wi2_5 hbwi2_5 K hK => ?_)
  go_simp
  go_at_call 29
  refine (integer_Mul _ _ _ x _ _ _ y _ (h2.to bW) (h3.to bW) (by omega) (by omega)).mono ?_
  rintro e w6 ⟨A6, n6, c6, rfl, h6, hb6⟩
  have q6 : n6 ≤ 2097152 := by have := h6.le_of _ (zmul_lt h2.lt h3.lt); omega
  go_simp
  refine hK.out _ _ (show Below wi2_5.heap.size wi2_5 w6 from bW) ?_
  clear hK K
  replace hH := Lib.hid (nx hH.out (show Below w5.heap.size w5 w6 from bW))
  try simp only [Act.put, sX, sY, sZ]
  refine anyE_done kR (fun wzE2 hbzE2 => ?_)
  refine FinD_cons (fun gEX7 X7 hgEX7 hnEX7 => ?_)
  replace X7 : Blk2 wzE2 _ _ _ _ := X7
  clear hnEX7
  refine FinD_cons (fun gEX8 X8 hgEX8 hnEX8 => ?_)
  replace X8 : Blk2 wzE2 _ _ _ _ := X8
  have nEX8X7 : gEX8 ≠ gEX7 := fun e => hnEX8 (by simp [e])
  clear hnEX8
  refine FinD_nil ?_
  try simp only [Act.put, sX, sY, sZ]
  replace h5 := (show NatAt wzE2 _ _ _ _ from h5.to bW)
  replace h6 := (show NatAt wzE2 _ _ _ _ from h6.to bW)
  have hbtE2 := Lib.hid (show Below wsE4.heap.size wsE4 wzE2 from nx hbdE2 (nx hH.out hbzE2))
  clear hH
  refine anyT_ready (rs := [8]) kR (by simp) (ReadyT.cons gO (fun K hK => ?_) ReadyT.nil)
  rw [if_pos (by rfl)]
  refine wp_store_int _ _ rfl rfl rfl X7 ?_
  replace X8 := X8.off2 (g := gEX7) nEX8X7 (.bool (bz (x + y))) (.slice A5 n5 c5)
  replace h5 := h5.put2 X7 (.bool (bz (x + y))) (.slice A5 n5 c5)
  replace h6 := h6.put2 X7 (.bool (bz (x + y))) (.slice A5 n5 c5)
  replace hbtE2 := below_put2 hbtE2.out (g := gEX7) (Nat.le_trans hbdE2.size hgEX7) (.bool (bz (x + y))) (.slice A5 n5 c5)
  replace X7 := X7.put2 (.bool (bz (x + y))) (.slice A5 n5 c5)
  generalize put2 wzE2 gEX7 (.bool (bz (x + y))) (.slice A5 n5 c5) = wsE5 at X7 X8 h5 h6 hbtE2 ⊢
  refine hK.out _ _ trivial (fun _ => ?_)
  clear hK K
  try simp only [Act.put, sX, sY, sZ]
  refine anyT_ready (rs := [9]) kR (by simp) (ReadyT.cons gO (fun K hK => ?_) ReadyT.nil)
  rw [if_pos (by rfl)]
  refine wp_store_int _ _ rfl rfl rfl X8 ?_
  replace X7 := X7.off2 (g := gEX8) (Ne.symm nEX8X7) (.bool (bz (x * y))) (.slice A6 n6 c6)
  replace h5 := h5.put2 X8 (.bool (bz (x * y))) (.slice A6 n6 c6)
  replace h6 := h6.put2 X8 (.bool (bz (x * y))) (.slice A6 n6 c6)
  replace hbtE2 := below_put2 hbtE2 (g := gEX8) (Nat.le_trans hbdE2.size hgEX8) (.bool (bz (x * y))) (.slice A6 n6 c6)
  replace X8 := X8.put2 (.bool (bz (x * y))) (.slice A6 n6 c6)
  generalize put2 wsE5 gEX8 (.bool (bz (x * y))) (.slice A6 n6 c6) = wsE6 at X8 X7 h5 h6 hbtE2 ⊢
  refine hK.out _ _ trivial (fun _ => ?_)
  clear hK K
  try simp only [Act.put, sX, sY, sZ]
  refine anyT_done kR ?_ _
  clear CX4 CX4' CX5 CX5'
  go_wp2_with fail
  have CX5 := (show Blk2 wsE6 _ _ _ _ from X5.to bW).cell
  have CX5' := (show Blk2 wsE6 _ _ _ _ from X5.to bW).cell1
  have CX4 := (show Blk2 wsE6 _ _ _ _ from X4.to bW).cell
  have CX4' := (show Blk2 wsE6 _ _ _ _ from X4.to bW).cell1
  have CX7 := (show Blk2 wsE6 _ _ _ _ from X7.to bW).cell
  have CX7' := (show Blk2 wsE6 _ _ _ _ from X7.to bW).cell1
  have CX8 := (show Blk2 wsE6 _ _ _ _ from X8.to bW).cell
  have CX8' := (show Blk2 wsE6 _ _ _ _ from X8.to bW).cell1
  refine wp_regionE [] kR kR (mk_nil) (by exact fun _ _ _ _ _ h => h) (by exact fun _ _ _ _ _ h => h) (f := 22) (by rfl) ?_
  have hbdE3 : Below wsE6.heap.size wsE6 wsE6.drew := nxw (Below.refl _ _)
  generalize wsE6.drew = wdE3 at hbdE3 ⊢
  replace CX5 := cellB hbdE3 CX5
  replace CX5' := cellB hbdE3 CX5'
  replace CX4 := cellB hbdE3 CX4
  replace CX4' := cellB hbdE3 CX4'
  replace CX7 := cellB hbdE3 CX7
  replace CX7' := cellB hbdE3 CX7'
  replace CX8 := cellB hbdE3 CX8
  replace CX8' := cellB hbdE3 CX8'
  have hH := Lib.hid (Below.refl wdE3.heap.size wdE3)
  refine anyE_take (i := 0) (v := ?_) gO kR (by exact fun _ _ _ h => h) (Or.inl ⟨by rfl, ?_⟩) hH.out ?_
  rotate_left
  · intro w hSw; have c := cellB hSw CX5; have c' := cellB hSw CX5'; go_simp; try with_reducible rfl
  try simp only [Act.put, sX, sY, sZ]
  refine anyE_take (i := 1) (v := ?_) gO kR (by exact fun _ _ _ h => h) (Or.inl ⟨by rfl, ?_⟩) hH.out ?_
  rotate_left
  · intro w hSw; have c := cellB hSw CX4; have c' := cellB hSw CX4'; go_simp; try with_reducible rfl
  try simp only [Act.put, sX, sY, sZ]
  refine anyE_take (i := 3) (v := ?_) gO kR (by exact fun _ _ _ h => h) (Or.inl ⟨by rfl, ?_⟩) hH.out ?_
  rotate_left
  · intro w hSw; have c := cellB hSw CX7; have c' := cellB hSw CX7'; go_simp; try with_reducible rfl
  try simp only [Act.put, sX, sY, sZ]
  refine anyE_one (i := 2) gO kR (fun wi3_2 hbwi3_2 K hK => ?_)
  go_simp
  go_at_call 24
  refine (integer_Add _ _ _ y _ _ _ x _ (h3.to bW) (h2.to bW) (by omega) (by omega)).mono ?_
  rintro e w7 ⟨A7, n7, c7, rfl, h7, hb7⟩
  have q7 : n7 ≤ 1048577 := by have := h7.le_of _ (zadd_lt h3.lt h2.lt); omega
  go_simp
  refine hK.out _ _ (show Below wi3_2.heap.size wi3_2 w7 from bW) ?_
  clear hK K
  replace hH := Lib.hid (nx hH.out (show Below wdE3.heap.size wdE3 w7 from bW))
  try simp only [Act.put, sX, sY, sZ]
  refine anyE_one (i := 4) gO kR (fun wi3_4 hbwi3_4 K hK => ?_)
  go_simp
  go_at_call 23
  refine (integer_Cmp _ _ _ (y + x) _ _ _ (x + y) _ (h7.to bW) (h5.to bW)).mono ?_
  rw [cmpZ_eq (Int.add_comm y x)]
  rintro e w8 ⟨rfl, hb8⟩
  go_simp
  refine hK.out _ _ (show Below wi3_4.heap.size wi3_4 w8 from bW) ?_
  clear hK K
  replace hH := Lib.hid (nx hH.out (show Below w7.heap.size w7 w8 from bW))
  try simp only [Act.put, sX, sY, sZ]
  refine anyE_take (i := 5) (v := ?_) gO kR (by exact fun _ _ _ h => h) (Or.inl ⟨by rfl, ?_⟩) hH.out ?_
  rotate_left
  · intro w hSw; go_simp; try with_reducible rfl
  try simp only [Act.put, sX, sY, sZ]
  refine anyE_take (i := 6) (v := ?_) gO kR (by exact fun _ _ _ h => h) (Or.inl ⟨by rfl, ?_⟩) hH.out ?_
  rotate_left
  · intro w hSw; go_simp; try with_reducible rfl
  try simp only [Act.put, sX, sY, sZ]
  refine anyE_take (i := 7) (v := ?_) gO kR (by exact fun _ _ _ h => h) (Or.inl ⟨by rfl, ?_⟩) hH.out ?_
  rotate_left
  · intro w hSw; have c := cellB hSw CX5; have c' := cellB hSw CX5'; go_simp; try with_reducible rfl
  try simp only [Act.put, sX, sY, sZ]
  refine anyE_take (i := 8) (v := ?_) gO kR (by exact fun _ _ _ h => h) (Or.inl ⟨by rfl, ?_⟩) hH.out ?_
  rotate_left
  · intro w hSw; have c := cellB hSw CX4; have c' := cellB hSw CX4'; go_simp; try with_reducible rfl
  try simp only [Act.put, sX, sY, sZ]
  refine anyE_take (i := 10) (v := ?_) gO kR (by exact fun _ _ _ h => h) (Or.inl ⟨by rfl, ?_⟩) hH.out ?_
  rotate_left
  · intro w hSw; have c := cellB hSw CX8; have c' := cellB hSw CX8'; go_simp; try with_reducible rfl
  try simp only [Act.put, sX, sY, sZ]
  refine anyE_one (i := 9) gO kR (fun wi3_9 hbwi3_9 K hK => ?_)
  go_simp
  go_at_call 29
  refine (integer_Mul _ _ _ y _ _ _ x _ (h3.to bW) (h2.to bW) (by omega) (by omega)).mono ?_
  rintro e w9 ⟨A9, n9, c9, rfl, h9, hb9⟩
  have q9 : n9 ≤ 2097152 := by have := h9.le_of _ (zmul_lt h3.lt h2.lt); omega
  go_simp
  refine hK.out _ _ (show Below wi3_9.heap.size wi3_9 w9 from bW) ?_
  clear hK K
  replace hH := Lib.hid (nx hH.out (show Below w8.heap.size w8 w9 from bW))
  try simp only [Act.put, sX, sY, sZ]
  refine anyE_one (i := 11) gO kR (fun wi3_11 hbwi3_11 K hK => ?_)
  go_simp
  go_at_call 23
  refine (integer_Cmp _ _ _ (y * x) _ _ _ (x * y) _ (h9.to bW) (h6.to bW)).mono ?_
  rw [cmpZ_eq (Int.mul_comm y x)]
  rintro e w10 ⟨rfl, hb10⟩
  go_simp
  refine hK.out _ _ (show Below wi3_11.heap.size wi3_11 w10 from bW) ?_
  clear hK K
  replace hH := Lib.hid (nx hH.out (show Below w9.heap.size w9 w10 from bW))
  try simp only [Act.put, sX, sY, sZ]
  refine anyE_take (i := 12) (v := ?_) gO kR (by exact fun _ _ _ h => h) (Or.inl ⟨by rfl, ?_⟩) hH.out ?_
  rotate_left
  · intro w hSw; go_simp; try with_reducible rfl
  try simp only [Act.put, sX, sY, sZ]
  refine anyE_take (i := 13) (v := ?_) gO kR (by exact fun _ _ _ h => h) (Or.inl ⟨by rfl, ?_⟩) hH.out ?_
  rotate_left
  · intro w hSw; go_simp; try with_reducible rfl
  try simp only [Act.put, sX, sY, sZ]
  refine anyE_take (i := 14) (v := ?_) gO kR (by exact fun _ _ _ h => h) (Or.inl ⟨by rfl, ?_⟩) hH.out ?_
  rotate_left
  · intro w hSw; go_simp; try with_reducible rfl
  try simp only [Act.put, sX, sY, sZ]
  refine anyE_take (i := 15) (v := ?_) gO kR (by exact fun _ _ _ h => h) (Or.inl ⟨by rfl, ?_⟩) hH.out ?_
  rotate_left
  · intro w hSw; have c := cellB hSw CX4; have c' := cellB hSw CX4'; go_simp; try with_reducible rfl
  try simp only [Act.put, sX, sY, sZ]
  refine anyE_take (i := 16) (v := ?_) gO kR (by exact fun _ _ _ h => h) (Or.inl ⟨by rfl, ?_⟩) hH.out ?_
  rotate_left
  · intro w hSw; have c := cellB hSw CX4; have c' := cellB hSw CX4'; go_simp; try with_reducible rfl
  try simp only [Act.put, sX, sY, sZ]
  refine anyE_one (i := 17) gO kR (fun wi3_17 hbwi3_17 K hK => ?_)
  go_simp
  go_at_call 25
  refine (integer_Neg _ _ _ x _ (h2.to bW)).mono ?_
  rintro e w11 ⟨A11, n11, c11, rfl, h11, hb11⟩
  have q11 : n11 ≤ 1048576 := by have := h11.le_of _ (show (-x).natAbs < _ by rw [Int.natAbs_neg]; exact h2.lt); omega
  go_simp
  refine hK.out _ _ (show Below wi3_17.heap.size wi3_17 w11 from bW) ?_
  clear hK K
  replace hH := Lib.hid (nx hH.out (show Below w10.heap.size w10 w11 from bW))
  try simp only [Act.put, sX, sY, sZ]
  refine anyE_one (i := 18) gO kR (fun wi3_18 hbwi3_18 K hK => ?_)
  go_simp
  go_at_call 24
  refine (integer_Add _ _ _ x _ _ _ (-x) _ (h2.to bW) (h11.to bW) (by omega) (by omega)).mono ?_
  rintro e w12 ⟨A12, n12, c12, rfl, h12, hb12⟩
  have q12 : n12 ≤ 1048577 := by have := h12.le_of _ (zadd_lt h2.lt h11.lt); omega
  go_simp
  refine hK.out _ _ (show Below wi3_18.heap.size wi3_18 w12 from bW) ?_
  clear hK K
  replace hH := Lib.hid (nx hH.out (show Below w11.heap.size w11 w12 from bW))
  try simp only [Act.put, sX, sY, sZ]
  refine anyE_one (i := 19) gO kR (fun wi3_19 hbwi3_19 K hK => ?_)
  go_simp
  go_at_call 15
  refine (integer_Sign _ _ _ (x + (-x)) _ (h12.to bW)).mono ?_
  rw [show sgn (x + -x) = 0 from cmpZ_eq (by omega)]
  rintro e w13 ⟨rfl, hb13⟩
  go_simp
  refine hK.out _ _ (show Below wi3_19.heap.size wi3_19 w13 from bW) ?_
  clear hK K
  replace hH := Lib.hid (nx hH.out (show Below w12.heap.size w12 w13 from bW))
  try simp only [Act.put, sX, sY, sZ]
  refine anyE_take (i := 20) (v := ?_) gO kR (by exact fun _ _ _ h => h) (Or.inl ⟨by rfl, ?_⟩) hH.out ?_
  rotate_left
  · intro w hSw; go_simp; try with_reducible rfl
  try simp only [Act.put, sX, sY, sZ]
  refine anyE_take (i := 21) (v := ?_) gO kR (by exact fun _ _ _ h => h) (Or.inl ⟨by rfl, ?_⟩) hH.out ?_
  rotate_left
  · intro w hSw; go_simp; try with_reducible rfl
  try simp only [Act.put, sX, sY, sZ]
  refine anyE_done kR (fun wzE3 hbzE3 => ?_)
  refine FinD_nil ?_
  try simp only [Act.put, sX, sY, sZ]
  have hbtE3 := Lib.hid (show Below wsE6.heap.size wsE6 wzE3 from nx hbdE3 (nx hH.out hbzE3))
  clear hH
  refine anyT_done kR ?_ _
  clear CX5 CX5' CX4 CX4' CX7 CX7' CX8 CX8'
  go_wp2_with fail
  have CX7 := (show Blk2 wzE3 _ _ _ _ from X7.to bW).cell
  have CX7' := (show Blk2 wzE3 _ _ _ _ from X7.to bW).cell1
  have CX6 := (show Blk2 wzE3 _ _ _ _ from X6.to bW).cell
  have CX6' := (show Blk2 wzE3 _ _ _ _ from X6.to bW).cell1
  have CX4 := (show Blk2 wzE3 _ _ _ _ from X4.to bW).cell
  have CX4' := (show Blk2 wzE3 _ _ _ _ from X4.to bW).cell1
  have CX5 := (show Blk2 wzE3 _ _ _ _ from X5.to bW).cell
  have CX5' := (show Blk2 wzE3 _ _ _ _ from X5.to bW).cell1
  refine wp_regionE [] kR kR (mk_nil) (by exact fun _ _ _ _ _ h => h) (by exact fun _ _ _ _ _ h => h) (f := 33) (by rfl) ?_
  have hbdE4 : Below wzE3.heap.size wzE3 wzE3.drew := nxw (Below.refl _ _)
  generalize wzE3.drew = wdE4 at hbdE4 ⊢
  replace CX7 := cellB hbdE4 CX7
  replace CX7' := cellB hbdE4 CX7'
  replace CX6 := cellB hbdE4 CX6
  replace CX6' := cellB hbdE4 CX6'
  replace CX4 := cellB hbdE4 CX4
  replace CX4' := cellB hbdE4 CX4'
  replace CX5 := cellB hbdE4 CX5
  replace CX5' := cellB hbdE4 CX5'
  have hH := Lib.hid (Below.refl wdE4.heap.size wdE4)
  refine anyE_take (i := 0) (v := ?_) gO kR (by exact fun _ _ _ h => h) (Or.inl ⟨by rfl, ?_⟩) hH.out ?_
  rotate_left
  · intro w hSw; have c := cellB hSw CX7; have c' := cellB hSw CX7'; go_simp; try with_reducible rfl
  try simp only [Act.put, sX, sY, sZ]
  refine anyE_take (i := 1) (v := ?_) gO kR (by exact fun _ _ _ h => h) (Or.inl ⟨by rfl, ?_⟩) hH.out ?_
  rotate_left
  · intro w hSw; have c := cellB hSw CX6; have c' := cellB hSw CX6'; go_simp; try with_reducible rfl
  try simp only [Act.put, sX, sY, sZ]
  refine anyE_take (i := 3) (v := ?_) gO kR (by exact fun _ _ _ h => h) (Or.inl ⟨by rfl, ?_⟩) hH.out ?_
  rotate_left
  · intro w hSw; have c := cellB hSw CX4; have c' := cellB hSw CX4'; go_simp; try with_reducible rfl
  try simp only [Act.put, sX, sY, sZ]
  refine anyE_take (i := 4) (v := ?_) gO kR (by exact fun _ _ _ h => h) (Or.inl ⟨by rfl, ?_⟩) hH.out ?_
  rotate_left
  · intro w hSw; have c := cellB hSw CX5; have c' := cellB hSw CX5'; go_simp; try with_reducible rfl
  try simp only [Act.put, sX, sY, sZ]
  refine anyE_take (i := 5) (v := ?_) gO kR (by exact fun _ _ _ h => h) (Or.inl ⟨by rfl, ?_⟩) hH.out ?_
  rotate_left
  · intro w hSw; have c := cellB hSw CX6; have c' := cellB hSw CX6'; go_simp; try with_reducible rfl
  try simp only [Act.put, sX, sY, sZ]
  refine anyE_one (i := 2) gO kR (fun wi4_2 hbwi4_2 K hK => ?_)
  go_simp
  go_at_call 24
  refine (integer_Add _ _ _ (x + y) _ _ _ z _ (h5.to bW) (h4.to bW) (by omega) (by omega)).mono ?_
  rintro e w14 ⟨A14, n14, c14, rfl, h14, hb14⟩
  have q14 : n14 ≤ 1048578 := by have := h14.le_of _ (zadd_lt h5.lt h4.lt); omega
  go_simp
  refine hK.out _ _ (show Below wi4_2.heap.size wi4_2 w14 from bW) ?_
  clear hK K
  replace hH := Lib.hid (nx hH.out (show Below wdE4.heap.size wdE4 w14 from bW))
  try simp only [Act.put, sX, sY, sZ]
  refine anyE_one (i := 6) gO kR (fun wi4_6 hbwi4_6 K hK => ?_)
  go_simp
  go_at_call 24
  refine (integer_Add _ _ _ y _ _ _ z _ (h3.to bW) (h4.to bW) (by omega) (by omega)).mono ?_
  rintro e w15 ⟨A15, n15, c15, rfl, h15, hb15⟩
  have q15 : n15 ≤ 1048577 := by have := h15.le_of _ (zadd_lt h3.lt h4.lt); omega
  go_simp
  refine hK.out _ _ (show Below wi4_6.heap.size wi4_6 w15 from bW) ?_
  clear hK K
  replace hH := Lib.hid (nx hH.out (show Below w14.heap.size w14 w15 from bW))
  try simp only [Act.put, sX, sY, sZ]
  refine anyE_one (i := 7) gO kR (fun wi4_7 hbwi4_7 K hK => ?_)
  go_simp
  go_at_call 24
  refine (integer_Add _ _ _ x _ _ _ (y + z) _ (h2.to bW) (h15.to bW) (by omega) (by omega)).mono ?_
  rintro e w16 ⟨A16, n16, c16, rfl, h16, hb16⟩
  have q16 : n16 ≤ 1048578 := by have := h16.le_of _ (zadd_lt h2.lt h15.lt); omega
  go_simp
  refine hK.out _ _ (show Below wi4_7.heap.size wi4_7 w16 from bW) ?_
  clear hK K
  replace hH := Lib.hid (nx hH.out (show Below w15.heap.size w15 w16 from bW))
  try simp only [Act.put, sX, sY, sZ]
  refine anyE_one (i := 8) gO kR (fun wi4_8 hbwi4_8 K hK => ?_)
  go_simp
  go_at_call 23
  refine (integer_Cmp _ _ _ ((x + y) + z) _ _ _ (x + (y + z)) _ (h14.to bW) (h16.to bW)).mono ?_
  rw [cmpZ_eq (Int.add_assoc x y z)]
  rintro e w17 ⟨rfl, hb17⟩
  go_simp
  refine hK.out _ _ (show Below wi4_8.heap.size wi4_8 w17 from bW) ?_
  clear hK K
  replace hH := Lib.hid (nx hH.out (show Below w16.heap.size w16 w17 from bW))
  try simp only [Act.put, sX, sY, sZ]
  refine anyE_take (i := 9) (v := ?_) gO kR (by exact fun _ _ _ h => h) (Or.inl ⟨by rfl, ?_⟩) hH.out ?_
  rotate_left
  · intro w hSw; go_simp; try with_reducible rfl
  try simp only [Act.put, sX, sY, sZ]
  refine anyE_take (i := 10) (v := ?_) gO kR (by exact fun _ _ _ h => h) (Or.inl ⟨by rfl, ?_⟩) hH.out ?_
  rotate_left
  · intro w hSw; go_simp; try with_reducible rfl
  try simp only [Act.put, sX, sY, sZ]
  refine anyE_take (i := 11) (v := ?_) gO kR (by exact fun _ _ _ h => h) (Or.inl ⟨by rfl, ?_⟩) hH.out ?_
  rotate_left
  · intro w hSw; have c := cellB hSw CX6; have c' := cellB hSw CX6'; go_simp; try with_reducible rfl
  try simp only [Act.put, sX, sY, sZ]
  refine anyE_take (i := 12) (v := ?_) gO kR (by exact fun _ _ _ h => h) (Or.inl ⟨by rfl, ?_⟩) hH.out ?_
  rotate_left
  · intro w hSw; have c := cellB hSw CX7; have c' := cellB hSw CX7'; go_simp; try with_reducible rfl
  try simp only [Act.put, sX, sY, sZ]
  refine anyE_take (i := 14) (v := ?_) gO kR (by exact fun _ _ _ h => h) (Or.inl ⟨by rfl, ?_⟩) hH.out ?_
  rotate_left
  · intro w hSw; have c := cellB hSw CX6; have c' := cellB hSw CX6'; go_simp; try with_reducible rfl
  try simp only [Act.put, sX, sY, sZ]
  refine anyE_take (i := 15) (v := ?_) gO kR (by exact fun _ _ _ h => h) (Or.inl ⟨by rfl, ?_⟩) hH.out ?_
  rotate_left
  · intro w hSw; have c := cellB hSw CX4; have c' := cellB hSw CX4'; go_simp; try with_reducible rfl
  try simp only [Act.put, sX, sY, sZ]
  refine anyE_take (i := 17) (v := ?_) gO kR (by exact fun _ _ _ h => h) (Or.inl ⟨by rfl, ?_⟩) hH.out ?_
  rotate_left
  · intro w hSw; have c := cellB hSw CX6; have c' := cellB hSw CX6'; go_simp; try with_reducible rfl
  try simp only [Act.put, sX, sY, sZ]
  refine anyE_take (i := 18) (v := ?_) gO kR (by exact fun _ _ _ h => h) (Or.inl ⟨by rfl, ?_⟩) hH.out ?_
  rotate_left
  · intro w hSw; have c := cellB hSw CX5; have c' := cellB hSw CX5'; go_simp; try with_reducible rfl
  try simp only [Act.put, sX, sY, sZ]
  refine anyE_one (i := 13) gO kR (fun wi4_13 hbwi4_13 K hK => ?_)
  go_simp
  go_at_call 29
  refine (integer_Mul _ _ _ z _ _ _ (x + y) _ (h4.to bW) (h5.to bW) (by omega) (by omega)).mono ?_
  rintro e w18 ⟨A18, n18, c18, rfl, h18, hb18⟩
  have q18 : n18 ≤ 2097153 := by have := h18.le_of _ (zmul_lt h4.lt h5.lt); omega
  go_simp
  refine hK.out _ _ (show Below wi4_13.heap.size wi4_13 w18 from bW) ?_
  clear hK K
  replace hH := Lib.hid (nx hH.out (show Below w17.heap.size w17 w18 from bW))
  try simp only [Act.put, sX, sY, sZ]
  refine anyE_one (i := 16) gO kR (fun wi4_16 hbwi4_16 K hK => ?_)
  go_simp
  go_at_call 29
  refine (integer_Mul _ _ _ z _ _ _ x _ (h4.to bW) (h2.to bW) (by omega) (by omega)).mono ?_
  rintro e w19 ⟨A19, n19, c19, rfl, h19, hb19⟩
  have q19 : n19 ≤ 2097152 := by have := h19.le_of _ (zmul_lt h4.lt h2.lt); omega
  go_simp
  refine hK.out _ _ (show Below wi4_16.heap.size wi4_16 w19 from bW) ?_
  clear hK K
  replace hH := Lib.hid (nx hH.out (show Below w18.heap.size w18 w19 from bW))
  try simp only [Act.put, sX, sY, sZ]
  refine anyE_one (i := 19) gO kR (fun wi4_19 hbwi4_19 K hK => ?_)
  go_simp
  go_at_call 29
  refine (integer_Mul _ _ _ z _ _ _ y _ (h4.to bW) (h3.to bW) (by omega) (by omega)).mono ?_
  rintro e w20 ⟨A20, n20, c20, rfl, h20, hb20⟩
  have q20 : n20 ≤ 2097152 := by have := h20.le_of _ (zmul_lt h4.lt h3.lt); omega
  go_simp
  refine hK.out _ _ (show Below wi4_19.heap.size wi4_19 w20 from bW) ?_
  clear hK K
  replace hH := Lib.hid (nx hH.out (show Below w19.heap.size w19 w20 from bW))
  try simp only [Act.put, sX, sY, sZ]
  refine anyE_one (i := 20) gO kR (fun wi4_20 hbwi4_20 K hK => ?_)
  go_simp
  go_at_call 24
  refine (integer_Add _ _ _ (z * x) _ _ _ (z * y) _ (h19.to bW) (h20.to bW) (by omega) (by omega)).mono ?_
  rintro e w21 ⟨A21, n21, c21, rfl, h21, hb21⟩
  have q21 : n21 ≤ 2097153 := by have := h21.le_of _ (zadd_lt h19.lt h20.lt); omega
  go_simp
  refine hK.out _ _ (show Below wi4_20.heap.size wi4_20 w21 from bW) ?_
  clear hK K
  replace hH := Lib.hid (nx hH.out (show Below w20.heap.size w20 w21 from bW))
  try simp only [Act.put, sX, sY, sZ]
  refine anyE_one (i := 21) gO kR (fun wi4_21 hbwi4_21 K hK => ?_)
  go_simp
  go_at_call 23
  refine (integer_Cmp _ _ _ (z * (x + y)) _ _ _ ((z * x) + (z * y)) _ (h18.to bW) (h21.to bW)).mono ?_
  rw [cmpZ_eq (Int.mul_add z x y)]
  rintro e w22 ⟨rfl, hb22⟩
  go_simp
  refine hK.out _ _ (show Below wi4_21.heap.size wi4_21 w22 from bW) ?_
  clear hK K
  replace hH := Lib.hid (nx hH.out (show Below w21.heap.size w21 w22 from bW))
  try simp only [Act.put, sX, sY, sZ]
  refine anyE_take (i := 22) (v := ?_) gO kR (by exact fun _ _ _ h => h) (Or.inl ⟨by rfl, ?_⟩) hH.out ?_
  rotate_left
  · intro w hSw; go_simp; try with_reducible rfl
  try simp only [Act.put, sX, sY, sZ]
  refine anyE_take (i := 23) (v := ?_) gO kR (by exact fun _ _ _ h => h) (Or.inl ⟨by rfl, ?_⟩) hH.out ?_
  rotate_left
  · intro w hSw; go_simp; try with_reducible rfl
  try simp only [Act.put, sX, sY, sZ]
  refine anyE_take (i := 24) (v := ?_) gO kR (by exact fun _ _ _ h => h) (Or.inl ⟨by rfl, ?_⟩) hH.out ?_
  rotate_left
  · intro w hSw; go_simp; try with_reducible rfl
  try simp only [Act.put, sX, sY, sZ]
  refine anyE_take (i := 25) (v := ?_) gO kR (by exact fun _ _ _ h => h) (Or.inl ⟨by rfl, ?_⟩) hH.out ?_
  rotate_left
  · intro w hSw; have c := cellB hSw CX7; have c' := cellB hSw CX7'; go_simp; try with_reducible rfl
  try simp only [Act.put, sX, sY, sZ]
  refine anyE_take (i := 26) (v := ?_) gO kR (by exact fun _ _ _ h => h) (Or.inl ⟨by rfl, ?_⟩) hH.out ?_
  rotate_left
  · intro w hSw; have c := cellB hSw CX5; have c' := cellB hSw CX5'; go_simp; try with_reducible rfl
  try simp only [Act.put, sX, sY, sZ]
  refine anyE_take (i := 28) (v := ?_) gO kR (by exact fun _ _ _ h => h) (Or.inl ⟨by rfl, ?_⟩) hH.out ?_
  rotate_left
  · intro w hSw; have c := cellB hSw CX4; have c' := cellB hSw CX4'; go_simp; try with_reducible rfl
  try simp only [Act.put, sX, sY, sZ]
  refine anyE_one (i := 27) gO kR (fun wi4_27 hbwi4_27 K hK => ?_)
  go_simp
  go_at_call 28
  refine (integer_Sub _ _ _ (x + y) _ _ _ y _ (h5.to bW) (h3.to bW) (by omega) (by omega)).mono ?_
  rw [show x + y - y = x from Int.add_sub_cancel x y]
  rintro e w23 ⟨A23, n23, c23, rfl, h23, hb23⟩
  have q23 : n23 ≤ 1048578 := by have := h23.le_of _ (ltx); omega
  go_simp
  refine hK.out _ _ (show Below wi4_27.heap.size wi4_27 w23 from bW) ?_
  clear hK K
  replace hH := Lib.hid (nx hH.out (show Below w22.heap.size w22 w23 from bW))
  try simp only [Act.put, sX, sY, sZ]
  refine anyE_one (i := 29) gO kR (fun wi4_29 hbwi4_29 K hK => ?_)
  go_simp
  go_at_call 23
  refine (integer_Cmp _ _ _ x _ _ _ x _ (h23.to bW) (h2.to bW)).mono ?_
  rw [cmpZ_eq (rfl)]
  rintro e w24 ⟨rfl, hb24⟩
  go_simp
  refine hK.out _ _ (show Below wi4_29.heap.size wi4_29 w24 from bW) ?_
  clear hK K
  replace hH := Lib.hid (nx hH.out (show Below w23.heap.size w23 w24 from bW))
  try simp only [Act.put, sX, sY, sZ]
  refine anyE_take (i := 30) (v := ?_) gO kR (by exact fun _ _ _ h => h) (Or.inl ⟨by rfl, ?_⟩) hH.out ?_
  rotate_left
  · intro w hSw; go_simp; try with_reducible rfl
  try simp only [Act.put, sX, sY, sZ]
  refine anyE_take (i := 31) (v := ?_) gO kR (by exact fun _ _ _ h => h) (Or.inl ⟨by rfl, ?_⟩) hH.out ?_
  rotate_left
  · intro w hSw; go_simp; try with_reducible rfl
  try simp only [Act.put, sX, sY, sZ]
  refine anyE_take (i := 32) (v := ?_) gO kR (by exact fun _ _ _ h => h) (Or.inl ⟨by rfl, ?_⟩) hH.out ?_
  rotate_left
  · intro w hSw; go_simp; try with_reducible rfl
  try simp only [Act.put, sX, sY, sZ]
  refine anyE_done kR (fun wzE4 hbzE4 => ?_)
  refine FinD_nil ?_
  try simp only [Act.put, sX, sY, sZ]
  have hbtE4 := Lib.hid (show Below wzE3.heap.size wzE3 wzE4 from nx hbdE4 (nx hH.out hbzE4))
  clear hH
  refine anyT_done kR ?_ _
  clear CX7 CX7' CX6 CX6' CX4 CX4' CX5 CX5'
  go_wp2_with fail
  go_ret
  exact ⟨rfl, bW⟩
end Go.Proofs.Ytihbpkljjmpkjaa
