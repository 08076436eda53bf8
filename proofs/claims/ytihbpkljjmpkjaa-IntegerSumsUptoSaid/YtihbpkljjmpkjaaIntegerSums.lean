/- The walk of 'IntegerSums'. -/
import Derived.Test.YtihbpkljjmpkjaaAwake7
import Derived.Test.YtihbpkljjmpkjaaTxtLaw3
import Derived.Test.YtihbpkljjmpkjaaLaw7b
set_option linter.unusedVariables false
set_option linter.unusedSimpArgs false
namespace Go.Proofs.Ytihbpkljjmpkjaa
open Go.RowKit
set_option maxRecDepth 100000
theorem rzsub_lt {x y : Int} {n m : Nat} (hx : x.natAbs < 65536 ^ n) (hy : y.natAbs < 65536 ^ m) : (x - y).natAbs < 65536 ^ (max n m + 1) := by
  rw [Int.sub_eq_add_neg]
  exact rzadd_lt hx (by rw [Int.natAbs_neg]; exact hy)
set_option maxHeartbeats 8000000 in
theorem law_IntegerSums (b A n c u) (b' A' n' c' v) (w : World) (k1 : Dig .u64 W w A n c u) (k2 : Dig .u64 W w A' n' c' v) (r1 : n ≤ 1048576) (r2 : n' ≤ 1048576) :
    Calls Try.prog 10 #[.agg #[.bool b, .slice A n c], .agg #[.bool b', .slice A' n' c']] w (Ret w (.bool true)) := by
  obtain ⟨x, hx⟩ : ∃ x : Int, x = sg b u := ⟨_, rfl⟩
  have HSx := Lib.hid hx
  have ltx : x.natAbs < W ^ n := by rw [hx, sg_abs]; exact k1.lt
  have rtx : x.natAbs < 65536 ^ (4 * n) := by rw [Nat.pow_mul]; exact ltx
  obtain ⟨y, hy⟩ : ∃ y : Int, y = sg b' v := ⟨_, rfl⟩
  have HSy := Lib.hid hy
  have lty : y.natAbs < W ^ n' := by rw [hy, sg_abs]; exact k2.lt
  have rty : y.natAbs < 65536 ^ (4 * n') := by rw [Nat.pow_mul]; exact lty
  clear hx hy
  go_enter Try.func10, Try.ntmps10
  go_wp2_with fail
  have X1 := Blk2.newAt w (w.heap.size) 24 (.bool b) (.slice A n c) (by first | rfl | simp)
  have X2 := Blk2.newAt (w.alloc (.cells #[.bool b, .slice A n c] 24)) (w.heap.size + 1) 24 (.bool b') (.slice A' n' c') (by first | rfl | simp)
  replace X1 := (show Blk2 ((w.alloc (.cells #[.bool b, .slice A n c] 24)).alloc (.cells #[.bool b', .slice A' n' c'] 24)) _ _ _ _ from X1.to bW)
  have hbwe1 : Below w.heap.size w ((w.alloc (.cells #[.bool b, .slice A n c] 24)).alloc (.cells #[.bool b', .slice A' n' c'] 24)) := bW
  generalize ((w.alloc (.cells #[.bool b, .slice A n c] 24)).alloc (.cells #[.bool b', .slice A' n' c'] 24)) = we1 at X1 X2 hbwe1  ⊢
  refine (awake7 _).mono ?_
  rintro e w1 ⟨rfl, hb1⟩
  go_wp2_with fail
  have CX1 := (show Blk2 w1 _ _ _ _ from X1.to bW).cell
  have CX1' := (show Blk2 w1 _ _ _ _ from X1.to bW).cell1
  have CX2 := (show Blk2 w1 _ _ _ _ from X2.to bW).cell
  have CX2' := (show Blk2 w1 _ _ _ _ from X2.to bW).cell1
  refine wp_regionE [(8, 5, 29, #[.bool false, .slice none 0 0]), (9, 6, 29, #[.bool false, .slice none 0 0]), (10, 7, 34, #[.bool false, .slice none 0 0]), (11, 8, 34, #[.bool false, .slice none 0 0])] kR kR (mk_cons (mk_int gO rfl rfl rfl) (mk_cons (mk_int gO rfl rfl rfl) (mk_cons (mk_z gO rfl rfl rfl) (mk_cons (mk_z gO rfl rfl rfl) (mk_nil))))) (by exact fun _ _ _ _ _ h => h) (by exact fun _ _ _ _ _ h => h) (f := 12) (by rfl) ?_
  have hbdE1 : Below w1.heap.size w1 w1.drew := nxw (Below.refl _ _)
  generalize w1.drew = wdE1 at hbdE1 ⊢
  replace CX1 := cellB hbdE1 CX1
  replace CX1' := cellB hbdE1 CX1'
  replace CX2 := cellB hbdE1 CX2
  replace CX2' := cellB hbdE1 CX2'
  have hH := Lib.hid (Below.refl wdE1.heap.size wdE1)
  refine anyE_take (i := 0) (v := ?_) gO kR (by exact fun _ _ _ h => h) (Or.inl ⟨by rfl, ?_⟩) hH.out ?_
  rotate_left
  · intro w hSw; have c := cellB hSw CX1; have c' := cellB hSw CX1'; go_simp; try with_reducible rfl
  try simp only [Act.put, sX, sY, sZ]
  refine anyE_take (i := 2) (v := ?_) gO kR (by exact fun _ _ _ h => h) (Or.inl ⟨by rfl, ?_⟩) hH.out ?_
  rotate_left
  · intro w hSw; have c := cellB hSw CX2; have c' := cellB hSw CX2'; go_simp; try with_reducible rfl
  try simp only [Act.put, sX, sY, sZ]
  refine anyE_take (i := 4) (v := ?_) gO kR (by exact fun _ _ _ h => h) (Or.inl ⟨by rfl, ?_⟩) hH.out ?_
  rotate_left
  · intro w hSw; have c := cellB hSw CX1; have c' := cellB hSw CX1'; go_simp; try with_reducible rfl
  try simp only [Act.put, sX, sY, sZ]
  refine anyE_take (i := 6) (v := ?_) gO kR (by exact fun _ _ _ h => h) (Or.inl ⟨by rfl, ?_⟩) hH.out ?_
  rotate_left
  · intro w hSw; have c := cellB hSw CX2; have c' := cellB hSw CX2'; go_simp; try with_reducible rfl
  try simp only [Act.put, sX, sY, sZ]
  refine anyE_one (i := 1) gO kR (fun wi1_1 hbwi1_1 K hK => ?_)
  go_simp
  go_at_call 12
  refine (law7_Make b _ _ _ u _ (k1.to bW) (by omega)).mono ?_
  rw [← HSx.out]
  rintro e w2 ⟨A2, n2, c2, rfl, h2, hb2⟩
  have q2 := h2.le_of _ (ltx)
  go_simp
  refine hK.out _ _ (show Below wi1_1.heap.size wi1_1 w2 from bW) ?_
  clear hK K
  replace hH := Lib.hid (nx hH.out (show Below wdE1.heap.size wdE1 w2 from bW))
  try simp only [Act.put, sX, sY, sZ]
  refine anyE_one (i := 3) gO kR (fun wi1_3 hbwi1_3 K hK => ?_)
  go_simp
  go_at_call 12
  refine (law7_Make b' _ _ _ v _ (k2.to bW) (by omega)).mono ?_
  rw [← HSy.out]
  rintro e w3 ⟨A3, n3, c3, rfl, h3, hb3⟩
  have q3 := h3.le_of _ (lty)
  go_simp
  refine hK.out _ _ (show Below wi1_3.heap.size wi1_3 w3 from bW) ?_
  clear hK K
  replace hH := Lib.hid (nx hH.out (show Below w2.heap.size w2 w3 from bW))
  try simp only [Act.put, sX, sY, sZ]
  refine anyE_one (i := 5) gO kR (fun wi1_5 hbwi1_5 K hK => ?_)
  go_simp
  go_at_call 13
  refine (law7_Ref b _ _ _ u _ (k1.to bW) (by omega)).mono ?_
  rw [← HSx.out]
  rintro e w4 ⟨A4, n4, c4, rfl, h4, hb4⟩
  have l4 := h4.le_of (by decide) _ (rtx)
  go_simp
  refine hK.out _ _ (show Below wi1_5.heap.size wi1_5 w4 from bW) ?_
  clear hK K
  replace hH := Lib.hid (nx hH.out (show Below w3.heap.size w3 w4 from bW))
  try simp only [Act.put, sX, sY, sZ]
  refine anyE_one (i := 7) gO kR (fun wi1_7 hbwi1_7 K hK => ?_)
  go_simp
  go_at_call 13
  refine (law7_Ref b' _ _ _ v _ (k2.to bW) (by omega)).mono ?_
  rw [← HSy.out]
  rintro e w5 ⟨A5, n5, c5, rfl, h5, hb5⟩
  have l5 := h5.le_of (by decide) _ (rty)
  go_simp
  refine hK.out _ _ (show Below wi1_7.heap.size wi1_7 w5 from bW) ?_
  clear hK K
  replace hH := Lib.hid (nx hH.out (show Below w4.heap.size w4 w5 from bW))
  try simp only [Act.put, sX, sY, sZ]
  refine anyE_done kR (fun wzE1 hbzE1 => ?_)
  refine FinD_cons (fun gEX3 X3 hgEX3 hnEX3 => ?_)
  replace X3 : Blk2 wzE1 _ _ _ _ := X3
  clear hnEX3
  refine FinD_cons (fun gEX4 X4 hgEX4 hnEX4 => ?_)
  replace X4 : Blk2 wzE1 _ _ _ _ := X4
  have nEX4X3 : gEX4 ≠ gEX3 := fun e => hnEX4 (by simp [e])
  clear hnEX4
  refine FinD_cons (fun gEX5 X5 hgEX5 hnEX5 => ?_)
  replace X5 : Blk2 wzE1 _ _ _ _ := X5
  have nEX5X3 : gEX5 ≠ gEX3 := fun e => hnEX5 (by simp [e])
  have nEX5X4 : gEX5 ≠ gEX4 := fun e => hnEX5 (by simp [e])
  clear hnEX5
  refine FinD_cons (fun gEX6 X6 hgEX6 hnEX6 => ?_)
  replace X6 : Blk2 wzE1 _ _ _ _ := X6
  have nEX6X3 : gEX6 ≠ gEX3 := fun e => hnEX6 (by simp [e])
  have nEX6X4 : gEX6 ≠ gEX4 := fun e => hnEX6 (by simp [e])
  have nEX6X5 : gEX6 ≠ gEX5 := fun e => hnEX6 (by simp [e])
  clear hnEX6
  refine FinD_nil ?_
  try simp only [Act.put, sX, sY, sZ]
  replace h2 := (show NatAt wzE1 _ _ _ _ from h2.to bW)
  replace h3 := (show NatAt wzE1 _ _ _ _ from h3.to bW)
  replace h4 := (show NumAt _ _ wzE1 _ _ _ _ from h4.to bW)
  replace h5 := (show NumAt _ _ wzE1 _ _ _ _ from h5.to bW)
  have hbtE1 := Lib.hid (show Below w1.heap.size w1 wzE1 from nx hbdE1 (nx hH.out hbzE1))
  clear hH
  refine anyT_ready (rs := [12]) kR (by simp) (ReadyT.cons gO (fun K hK => ?_) ReadyT.nil)
  rw [if_pos (by rfl)]
  refine wp_store_int _ _ rfl rfl rfl X3 ?_
  replace X4 := X4.off2 (g := gEX3) nEX4X3 (.bool (bz x)) (.slice A2 n2 c2)
  replace X5 := X5.off2 (g := gEX3) nEX5X3 (.bool (bz x)) (.slice A2 n2 c2)
  replace X6 := X6.off2 (g := gEX3) nEX6X3 (.bool (bz x)) (.slice A2 n2 c2)
  replace h2 := h2.put2 X3 (.bool (bz x)) (.slice A2 n2 c2)
  replace h3 := h3.put2 X3 (.bool (bz x)) (.slice A2 n2 c2)
  replace h4 := h4.put2 X3 (.bool (bz x)) (.slice A2 n2 c2)
  replace h5 := h5.put2 X3 (.bool (bz x)) (.slice A2 n2 c2)
  replace hbtE1 := below_put2 hbtE1.out (g := gEX3) (Nat.le_trans hbdE1.size hgEX3) (.bool (bz x)) (.slice A2 n2 c2)
  replace X3 := X3.put2 (.bool (bz x)) (.slice A2 n2 c2)
  generalize put2 wzE1 gEX3 (.bool (bz x)) (.slice A2 n2 c2) = wsE2 at X3 X4 X5 X6 h2 h3 h4 h5 hbtE1 ⊢
  refine hK.out _ _ trivial (fun _ => ?_)
  clear hK K
  try simp only [Act.put, sX, sY, sZ]
  refine anyT_ready (rs := [13]) kR (by simp) (ReadyT.cons gO (fun K hK => ?_) ReadyT.nil)
  rw [if_pos (by rfl)]
  refine wp_store_int _ _ rfl rfl rfl X4 ?_
  replace X3 := X3.off2 (g := gEX4) (Ne.symm nEX4X3) (.bool (bz y)) (.slice A3 n3 c3)
  replace X5 := X5.off2 (g := gEX4) nEX5X4 (.bool (bz y)) (.slice A3 n3 c3)
  replace X6 := X6.off2 (g := gEX4) nEX6X4 (.bool (bz y)) (.slice A3 n3 c3)
  replace h2 := h2.put2 X4 (.bool (bz y)) (.slice A3 n3 c3)
  replace h3 := h3.put2 X4 (.bool (bz y)) (.slice A3 n3 c3)
  replace h4 := h4.put2 X4 (.bool (bz y)) (.slice A3 n3 c3)
  replace h5 := h5.put2 X4 (.bool (bz y)) (.slice A3 n3 c3)
  replace hbtE1 := below_put2 hbtE1 (g := gEX4) (Nat.le_trans hbdE1.size hgEX4) (.bool (bz y)) (.slice A3 n3 c3)
  replace X4 := X4.put2 (.bool (bz y)) (.slice A3 n3 c3)
  generalize put2 wsE2 gEX4 (.bool (bz y)) (.slice A3 n3 c3) = wsE3 at X4 X3 X5 X6 h2 h3 h4 h5 hbtE1 ⊢
  refine hK.out _ _ trivial (fun _ => ?_)
  clear hK K
  try simp only [Act.put, sX, sY, sZ]
  refine anyT_ready (rs := [14]) kR (by simp) (ReadyT.cons gO (fun K hK => ?_) ReadyT.nil)
  rw [if_pos (by rfl)]
  refine wp_store_z _ _ rfl rfl rfl X5 ?_
  replace X3 := X3.off2 (g := gEX5) (Ne.symm nEX5X3) (.bool (bz x)) (.slice A4 n4 c4)
  replace X4 := X4.off2 (g := gEX5) (Ne.symm nEX5X4) (.bool (bz x)) (.slice A4 n4 c4)
  replace X6 := X6.off2 (g := gEX5) nEX6X5 (.bool (bz x)) (.slice A4 n4 c4)
  replace h2 := h2.put2 X5 (.bool (bz x)) (.slice A4 n4 c4)
  replace h3 := h3.put2 X5 (.bool (bz x)) (.slice A4 n4 c4)
  replace h4 := h4.put2 X5 (.bool (bz x)) (.slice A4 n4 c4)
  replace h5 := h5.put2 X5 (.bool (bz x)) (.slice A4 n4 c4)
  replace hbtE1 := below_put2 hbtE1 (g := gEX5) (Nat.le_trans hbdE1.size hgEX5) (.bool (bz x)) (.slice A4 n4 c4)
  replace X5 := X5.put2 (.bool (bz x)) (.slice A4 n4 c4)
  generalize put2 wsE3 gEX5 (.bool (bz x)) (.slice A4 n4 c4) = wsE4 at X5 X3 X4 X6 h2 h3 h4 h5 hbtE1 ⊢
  refine hK.out _ _ trivial (fun _ => ?_)
  clear hK K
  try simp only [Act.put, sX, sY, sZ]
  refine anyT_ready (rs := [15]) kR (by simp) (ReadyT.cons gO (fun K hK => ?_) ReadyT.nil)
  rw [if_pos (by rfl)]
  refine wp_store_z _ _ rfl rfl rfl X6 ?_
  replace X3 := X3.off2 (g := gEX6) (Ne.symm nEX6X3) (.bool (bz y)) (.slice A5 n5 c5)
  replace X4 := X4.off2 (g := gEX6) (Ne.symm nEX6X4) (.bool (bz y)) (.slice A5 n5 c5)
  replace X5 := X5.off2 (g := gEX6) (Ne.symm nEX6X5) (.bool (bz y)) (.slice A5 n5 c5)
  replace h2 := h2.put2 X6 (.bool (bz y)) (.slice A5 n5 c5)
  replace h3 := h3.put2 X6 (.bool (bz y)) (.slice A5 n5 c5)
  replace h4 := h4.put2 X6 (.bool (bz y)) (.slice A5 n5 c5)
  replace h5 := h5.put2 X6 (.bool (bz y)) (.slice A5 n5 c5)
  replace hbtE1 := below_put2 hbtE1 (g := gEX6) (Nat.le_trans hbdE1.size hgEX6) (.bool (bz y)) (.slice A5 n5 c5)
  replace X6 := X6.put2 (.bool (bz y)) (.slice A5 n5 c5)
  generalize put2 wsE4 gEX6 (.bool (bz y)) (.slice A5 n5 c5) = wsE5 at X6 X3 X4 X5 h2 h3 h4 h5 hbtE1 ⊢
  refine hK.out _ _ trivial (fun _ => ?_)
  clear hK K
  try simp only [Act.put, sX, sY, sZ]
  refine anyT_done kR ?_ _
  clear CX1 CX1' CX2 CX2'
  go_wp2_with fail
  have CX3 := (show Blk2 wsE5 _ _ _ _ from X3.to bW).cell
  have CX3' := (show Blk2 wsE5 _ _ _ _ from X3.to bW).cell1
  have CX5 := (show Blk2 wsE5 _ _ _ _ from X5.to bW).cell
  have CX5' := (show Blk2 wsE5 _ _ _ _ from X5.to bW).cell1
  have CX4 := (show Blk2 wsE5 _ _ _ _ from X4.to bW).cell
  have CX4' := (show Blk2 wsE5 _ _ _ _ from X4.to bW).cell1
  have CX6 := (show Blk2 wsE5 _ _ _ _ from X6.to bW).cell
  have CX6' := (show Blk2 wsE5 _ _ _ _ from X6.to bW).cell1
  refine wp_regionE [] kR kR (mk_nil) (by exact fun _ _ _ _ _ h => h) (by exact fun _ _ _ _ _ h => h) (f := 48) (by rfl) ?_
  have hbdE2 : Below wsE5.heap.size wsE5 wsE5.drew := nxw (Below.refl _ _)
  generalize wsE5.drew = wdE2 at hbdE2 ⊢
  replace CX3 := cellB hbdE2 CX3
  replace CX3' := cellB hbdE2 CX3'
  replace CX5 := cellB hbdE2 CX5
  replace CX5' := cellB hbdE2 CX5'
  replace CX4 := cellB hbdE2 CX4
  replace CX4' := cellB hbdE2 CX4'
  replace CX6 := cellB hbdE2 CX6
  replace CX6' := cellB hbdE2 CX6'
  have hH := Lib.hid (Below.refl wdE2.heap.size wdE2)
  refine anyE_take (i := 0) (v := ?_) gO kR (by exact fun _ _ _ h => h) (Or.inl ⟨by rfl, ?_⟩) hH.out ?_
  rotate_left
  · intro w hSw; have c := cellB hSw CX3; have c' := cellB hSw CX3'; go_simp; try with_reducible rfl
  try simp only [Act.put, sX, sY, sZ]
  refine anyE_take (i := 1) (v := ?_) gO kR (by exact fun _ _ _ h => h) (Or.inl ⟨by rfl, ?_⟩) hH.out ?_
  rotate_left
  · intro w hSw; have c := cellB hSw CX5; have c' := cellB hSw CX5'; go_simp; try with_reducible rfl
  try simp only [Act.put, sX, sY, sZ]
  refine anyE_one (i := 2) gO kR (fun wi2_2 hbwi2_2 K hK => ?_)
  go_simp
  go_at_call 17
  refine (law7_Like _ _ _ _ _ _ x _ (h2.to bW) (h4.to bW) (by omega) (by omega)).mono ?_
  rintro e w6 ⟨rfl, hb6⟩
  go_simp
  refine hK.out _ _ (show Below wi2_2.heap.size wi2_2 w6 from bW) ?_
  clear hK K
  replace hH := Lib.hid (nx hH.out (show Below wdE2.heap.size wdE2 w6 from bW))
  try simp only [Act.put, sX, sY, sZ]
  refine anyE_take (i := 3) (v := ?_) gO kR (by exact fun _ _ _ h => h) (Or.inl ⟨by rfl, ?_⟩) hH.out ?_
  rotate_left
  · intro w hSw; go_simp; try with_reducible rfl
  try simp only [Act.put, sX, sY, sZ]
  refine anyE_take (i := 4) (v := ?_) gO kR (by exact fun _ _ _ h => h) (Or.inl ⟨by rfl, ?_⟩) hH.out ?_
  rotate_left
  · intro w hSw; have c := cellB hSw CX3; have c' := cellB hSw CX3'; go_simp; try with_reducible rfl
  try simp only [Act.put, sX, sY, sZ]
  refine anyE_take (i := 6) (v := ?_) gO kR (by exact fun _ _ _ h => h) (Or.inl ⟨by rfl, ?_⟩) hH.out ?_
  rotate_left
  · intro w hSw; have c := cellB hSw CX5; have c' := cellB hSw CX5'; go_simp; try with_reducible rfl
  try simp only [Act.put, sX, sY, sZ]
  refine anyE_one (i := 5) gO kR (fun wi2_5 hbwi2_5 K hK => ?_)
  go_simp
  go_at_call 25
  refine (integer_Neg _ _ _ x _ (h2.to bW)).mono ?_
  rintro e w7 ⟨A7, n7, c7, rfl, h7, hb7⟩
  have q7 := h7.le_of _ (show (-x).natAbs < _ by rw [Int.natAbs_neg]; exact h2.lt)
  go_simp
  refine hK.out _ _ (show Below wi2_5.heap.size wi2_5 w7 from bW) ?_
  clear hK K
  replace hH := Lib.hid (nx hH.out (show Below w6.heap.size w6 w7 from bW))
  try simp only [Act.put, sX, sY, sZ]
  refine anyE_one (i := 7) gO kR (fun wi2_7 hbwi2_7 K hK => ?_)
  go_simp
  go_at_call 32
  refine (ref7_Neg _ _ _ x _ (h4.to bW)).mono ?_
  rintro e w8 ⟨A8, n8, c8, rfl, h8, hb8⟩
  have l8 := h8.le_of (by decide) _ (show (-x).natAbs < _ by rw [Int.natAbs_neg]; exact h4.lt)
  go_simp
  refine hK.out _ _ (show Below wi2_7.heap.size wi2_7 w8 from bW) ?_
  clear hK K
  replace hH := Lib.hid (nx hH.out (show Below w7.heap.size w7 w8 from bW))
  try simp only [Act.put, sX, sY, sZ]
  refine anyE_one (i := 8) gO kR (fun wi2_8 hbwi2_8 K hK => ?_)
  go_simp
  go_at_call 17
  refine (law7_Like _ _ _ _ _ _ (-x) _ (h7.to bW) (h8.to bW) (by omega) (by omega)).mono ?_
  rintro e w9 ⟨rfl, hb9⟩
  go_simp
  refine hK.out _ _ (show Below wi2_8.heap.size wi2_8 w9 from bW) ?_
  clear hK K
  replace hH := Lib.hid (nx hH.out (show Below w8.heap.size w8 w9 from bW))
  try simp only [Act.put, sX, sY, sZ]
  refine anyE_take (i := 9) (v := ?_) gO kR (by exact fun _ _ _ h => h) (Or.inl ⟨by rfl, ?_⟩) hH.out ?_
  rotate_left
  · intro w hSw; go_simp; try with_reducible rfl
  try simp only [Act.put, sX, sY, sZ]
  refine anyE_take (i := 10) (v := ?_) gO kR (by exact fun _ _ _ h => h) (Or.inl ⟨by rfl, ?_⟩) hH.out ?_
  rotate_left
  · intro w hSw; go_simp; try with_reducible rfl
  try simp only [Act.put, sX, sY, sZ]
  refine anyE_take (i := 11) (v := ?_) gO kR (by exact fun _ _ _ h => h) (Or.inl ⟨by rfl, ?_⟩) hH.out ?_
  rotate_left
  · intro w hSw; have c := cellB hSw CX3; have c' := cellB hSw CX3'; go_simp; try with_reducible rfl
  try simp only [Act.put, sX, sY, sZ]
  refine anyE_take (i := 12) (v := ?_) gO kR (by exact fun _ _ _ h => h) (Or.inl ⟨by rfl, ?_⟩) hH.out ?_
  rotate_left
  · intro w hSw; have c := cellB hSw CX4; have c' := cellB hSw CX4'; go_simp; try with_reducible rfl
  try simp only [Act.put, sX, sY, sZ]
  refine anyE_take (i := 14) (v := ?_) gO kR (by exact fun _ _ _ h => h) (Or.inl ⟨by rfl, ?_⟩) hH.out ?_
  rotate_left
  · intro w hSw; have c := cellB hSw CX5; have c' := cellB hSw CX5'; go_simp; try with_reducible rfl
  try simp only [Act.put, sX, sY, sZ]
  refine anyE_take (i := 15) (v := ?_) gO kR (by exact fun _ _ _ h => h) (Or.inl ⟨by rfl, ?_⟩) hH.out ?_
  rotate_left
  · intro w hSw; have c := cellB hSw CX6; have c' := cellB hSw CX6'; go_simp; try with_reducible rfl
  try simp only [Act.put, sX, sY, sZ]
  refine anyE_one (i := 13) gO kR (fun wi2_13 hbwi2_13 K hK => ?_)
  go_simp
  go_at_call 24
  refine (integer_Add _ _ _ x _ _ _ y _ (h2.to bW) (h3.to bW) (by omega) (by omega)).mono ?_
  rintro e w10 ⟨A10, n10, c10, rfl, h10, hb10⟩
  have q10 := h10.le_of _ (zadd_lt h2.lt h3.lt)
  go_simp
  refine hK.out _ _ (show Below wi2_13.heap.size wi2_13 w10 from bW) ?_
  clear hK K
  replace hH := Lib.hid (nx hH.out (show Below w9.heap.size w9 w10 from bW))
  try simp only [Act.put, sX, sY, sZ]
  refine anyE_one (i := 16) gO kR (fun wi2_16 hbwi2_16 K hK => ?_)
  go_simp
  go_at_call 33
  refine (ref7_Add _ _ _ x _ _ _ y _ (h4.to bW) (h5.to bW) (by omega) (by omega)).mono ?_
  rintro e w11 ⟨A11, n11, c11, rfl, h11, hb11⟩
  have l11 := h11.le_of (by decide) _ (rzadd_lt h4.lt h5.lt)
  go_simp
  refine hK.out _ _ (show Below wi2_16.heap.size wi2_16 w11 from bW) ?_
  clear hK K
  replace hH := Lib.hid (nx hH.out (show Below w10.heap.size w10 w11 from bW))
  try simp only [Act.put, sX, sY, sZ]
  refine anyE_one (i := 17) gO kR (fun wi2_17 hbwi2_17 K hK => ?_)
  go_simp
  go_at_call 17
  refine (law7_Like _ _ _ _ _ _ (x + y) _ (h10.to bW) (h11.to bW) (by omega) (by omega)).mono ?_
  rintro e w12 ⟨rfl, hb12⟩
  go_simp
  refine hK.out _ _ (show Below wi2_17.heap.size wi2_17 w12 from bW) ?_
  clear hK K
  replace hH := Lib.hid (nx hH.out (show Below w11.heap.size w11 w12 from bW))
  try simp only [Act.put, sX, sY, sZ]
  refine anyE_take (i := 18) (v := ?_) gO kR (by exact fun _ _ _ h => h) (Or.inl ⟨by rfl, ?_⟩) hH.out ?_
  rotate_left
  · intro w hSw; go_simp; try with_reducible rfl
  try simp only [Act.put, sX, sY, sZ]
  refine anyE_take (i := 19) (v := ?_) gO kR (by exact fun _ _ _ h => h) (Or.inl ⟨by rfl, ?_⟩) hH.out ?_
  rotate_left
  · intro w hSw; go_simp; try with_reducible rfl
  try simp only [Act.put, sX, sY, sZ]
  refine anyE_take (i := 20) (v := ?_) gO kR (by exact fun _ _ _ h => h) (Or.inl ⟨by rfl, ?_⟩) hH.out ?_
  rotate_left
  · intro w hSw; have c := cellB hSw CX3; have c' := cellB hSw CX3'; go_simp; try with_reducible rfl
  try simp only [Act.put, sX, sY, sZ]
  refine anyE_take (i := 21) (v := ?_) gO kR (by exact fun _ _ _ h => h) (Or.inl ⟨by rfl, ?_⟩) hH.out ?_
  rotate_left
  · intro w hSw; have c := cellB hSw CX4; have c' := cellB hSw CX4'; go_simp; try with_reducible rfl
  try simp only [Act.put, sX, sY, sZ]
  refine anyE_take (i := 23) (v := ?_) gO kR (by exact fun _ _ _ h => h) (Or.inl ⟨by rfl, ?_⟩) hH.out ?_
  rotate_left
  · intro w hSw; have c := cellB hSw CX5; have c' := cellB hSw CX5'; go_simp; try with_reducible rfl
  try simp only [Act.put, sX, sY, sZ]
  refine anyE_take (i := 24) (v := ?_) gO kR (by exact fun _ _ _ h => h) (Or.inl ⟨by rfl, ?_⟩) hH.out ?_
  rotate_left
  · intro w hSw; have c := cellB hSw CX6; have c' := cellB hSw CX6'; go_simp; try with_reducible rfl
  try simp only [Act.put, sX, sY, sZ]
  refine anyE_one (i := 22) gO kR (fun wi2_22 hbwi2_22 K hK => ?_)
  go_simp
  go_at_call 28
  refine (integer_Sub _ _ _ x _ _ _ y _ (h2.to bW) (h3.to bW) (by omega) (by omega)).mono ?_
  rintro e w13 ⟨A13, n13, c13, rfl, h13, hb13⟩
  have q13 := h13.le_of _ (zsub_lt h2.lt h3.lt)
  go_simp
  refine hK.out _ _ (show Below wi2_22.heap.size wi2_22 w13 from bW) ?_
  clear hK K
  replace hH := Lib.hid (nx hH.out (show Below w12.heap.size w12 w13 from bW))
  try simp only [Act.put, sX, sY, sZ]
  refine anyE_one (i := 25) gO kR (fun wi2_25 hbwi2_25 K hK => ?_)
  go_simp
  go_at_call 32
  refine (ref7_Neg _ _ _ y _ (h5.to bW)).mono ?_
  rintro e w14 ⟨A14, n14, c14, rfl, h14, hb14⟩
  have l14 := h14.le_of (by decide) _ (show (-y).natAbs < _ by rw [Int.natAbs_neg]; exact h5.lt)
  go_simp
  refine hK.out _ _ (show Below wi2_25.heap.size wi2_25 w14 from bW) ?_
  clear hK K
  replace hH := Lib.hid (nx hH.out (show Below w13.heap.size w13 w14 from bW))
  try simp only [Act.put, sX, sY, sZ]
  refine anyE_one (i := 26) gO kR (fun wi2_26 hbwi2_26 K hK => ?_)
  go_simp
  go_at_call 33
  refine (ref7_Add _ _ _ x _ _ _ (-y) _ (h4.to bW) (h14.to bW) (by omega) (by omega)).mono ?_
  rw [show x + -y = x - y from (Int.sub_eq_add_neg).symm]
  rintro e w15 ⟨A15, n15, c15, rfl, h15, hb15⟩
  have l15 := h15.le_of (by decide) _ (rzsub_lt rtx rty)
  go_simp
  refine hK.out _ _ (show Below wi2_26.heap.size wi2_26 w15 from bW) ?_
  clear hK K
  replace hH := Lib.hid (nx hH.out (show Below w14.heap.size w14 w15 from bW))
  try simp only [Act.put, sX, sY, sZ]
  refine anyE_one (i := 27) gO kR (fun wi2_27 hbwi2_27 K hK => ?_)
  go_simp
  go_at_call 17
  refine (law7_Like _ _ _ _ _ _ (x - y) _ (h13.to bW) (h15.to bW) (by omega) (by omega)).mono ?_
  rintro e w16 ⟨rfl, hb16⟩
  go_simp
  refine hK.out _ _ (show Below wi2_27.heap.size wi2_27 w16 from bW) ?_
  clear hK K
  replace hH := Lib.hid (nx hH.out (show Below w15.heap.size w15 w16 from bW))
  try simp only [Act.put, sX, sY, sZ]
  refine anyE_take (i := 28) (v := ?_) gO kR (by exact fun _ _ _ h => h) (Or.inl ⟨by rfl, ?_⟩) hH.out ?_
  rotate_left
  · intro w hSw; go_simp; try with_reducible rfl
  try simp only [Act.put, sX, sY, sZ]
  refine anyE_take (i := 29) (v := ?_) gO kR (by exact fun _ _ _ h => h) (Or.inl ⟨by rfl, ?_⟩) hH.out ?_
  rotate_left
  · intro w hSw; go_simp; try with_reducible rfl
  try simp only [Act.put, sX, sY, sZ]
  refine anyE_take (i := 30) (v := ?_) gO kR (by exact fun _ _ _ h => h) (Or.inl ⟨by rfl, ?_⟩) hH.out ?_
  rotate_left
  · intro w hSw; have c := cellB hSw CX3; have c' := cellB hSw CX3'; go_simp; try with_reducible rfl
  try simp only [Act.put, sX, sY, sZ]
  refine anyE_take (i := 31) (v := ?_) gO kR (by exact fun _ _ _ h => h) (Or.inl ⟨by rfl, ?_⟩) hH.out ?_
  rotate_left
  · intro w hSw; have c := cellB hSw CX4; have c' := cellB hSw CX4'; go_simp; try with_reducible rfl
  try simp only [Act.put, sX, sY, sZ]
  refine anyE_take (i := 33) (v := ?_) gO kR (by exact fun _ _ _ h => h) (Or.inl ⟨by rfl, ?_⟩) hH.out ?_
  rotate_left
  · intro w hSw; have c := cellB hSw CX5; have c' := cellB hSw CX5'; go_simp; try with_reducible rfl
  try simp only [Act.put, sX, sY, sZ]
  refine anyE_take (i := 34) (v := ?_) gO kR (by exact fun _ _ _ h => h) (Or.inl ⟨by rfl, ?_⟩) hH.out ?_
  rotate_left
  · intro w hSw; have c := cellB hSw CX6; have c' := cellB hSw CX6'; go_simp; try with_reducible rfl
  try simp only [Act.put, sX, sY, sZ]
  refine anyE_one (i := 32) gO kR (fun wi2_32 hbwi2_32 K hK => ?_)
  go_simp
  go_at_call 29
  refine (integer_Mul _ _ _ x _ _ _ y _ (h2.to bW) (h3.to bW) (by omega) (by omega)).mono ?_
  rintro e w17 ⟨A17, n17, c17, rfl, h17, hb17⟩
  have q17 := h17.le_of _ (zmul_lt h2.lt h3.lt)
  go_simp
  refine hK.out _ _ (show Below wi2_32.heap.size wi2_32 w17 from bW) ?_
  clear hK K
  replace hH := Lib.hid (nx hH.out (show Below w16.heap.size w16 w17 from bW))
  try simp only [Act.put, sX, sY, sZ]
  refine anyE_one (i := 35) gO kR (fun wi2_35 hbwi2_35 K hK => ?_)
  go_simp
  go_at_call 34
  refine (ref7_Mul _ _ _ x _ _ _ y _ (h4.to bW) (h5.to bW) (by omega) (by omega)).mono ?_
  rintro e w18 ⟨A18, n18, c18, rfl, h18, hb18⟩
  have l18 := h18.le_of (by decide) _ (rzmul_lt h4.lt h5.lt)
  go_simp
  refine hK.out _ _ (show Below wi2_35.heap.size wi2_35 w18 from bW) ?_
  clear hK K
  replace hH := Lib.hid (nx hH.out (show Below w17.heap.size w17 w18 from bW))
  try simp only [Act.put, sX, sY, sZ]
  refine anyE_one (i := 36) gO kR (fun wi2_36 hbwi2_36 K hK => ?_)
  go_simp
  go_at_call 17
  refine (law7_Like _ _ _ _ _ _ (x * y) _ (h17.to bW) (h18.to bW) (by omega) (by omega)).mono ?_
  rintro e w19 ⟨rfl, hb19⟩
  go_simp
  refine hK.out _ _ (show Below wi2_36.heap.size wi2_36 w19 from bW) ?_
  clear hK K
  replace hH := Lib.hid (nx hH.out (show Below w18.heap.size w18 w19 from bW))
  try simp only [Act.put, sX, sY, sZ]
  refine anyE_take (i := 37) (v := ?_) gO kR (by exact fun _ _ _ h => h) (Or.inl ⟨by rfl, ?_⟩) hH.out ?_
  rotate_left
  · intro w hSw; go_simp; try with_reducible rfl
  try simp only [Act.put, sX, sY, sZ]
  refine anyE_take (i := 38) (v := ?_) gO kR (by exact fun _ _ _ h => h) (Or.inl ⟨by rfl, ?_⟩) hH.out ?_
  rotate_left
  · intro w hSw; go_simp; try with_reducible rfl
  try simp only [Act.put, sX, sY, sZ]
  refine anyE_take (i := 39) (v := ?_) gO kR (by exact fun _ _ _ h => h) (Or.inl ⟨by rfl, ?_⟩) hH.out ?_
  rotate_left
  · intro w hSw; have c := cellB hSw CX3; have c' := cellB hSw CX3'; go_simp; try with_reducible rfl
  try simp only [Act.put, sX, sY, sZ]
  refine anyE_take (i := 40) (v := ?_) gO kR (by exact fun _ _ _ h => h) (Or.inl ⟨by rfl, ?_⟩) hH.out ?_
  rotate_left
  · intro w hSw; have c := cellB hSw CX4; have c' := cellB hSw CX4'; go_simp; try with_reducible rfl
  try simp only [Act.put, sX, sY, sZ]
  refine anyE_take (i := 42) (v := ?_) gO kR (by exact fun _ _ _ h => h) (Or.inl ⟨by rfl, ?_⟩) hH.out ?_
  rotate_left
  · intro w hSw; have c := cellB hSw CX5; have c' := cellB hSw CX5'; go_simp; try with_reducible rfl
  try simp only [Act.put, sX, sY, sZ]
  refine anyE_take (i := 43) (v := ?_) gO kR (by exact fun _ _ _ h => h) (Or.inl ⟨by rfl, ?_⟩) hH.out ?_
  rotate_left
  · intro w hSw; have c := cellB hSw CX6; have c' := cellB hSw CX6'; go_simp; try with_reducible rfl
  try simp only [Act.put, sX, sY, sZ]
  refine anyE_one (i := 41) gO kR (fun wi2_41 hbwi2_41 K hK => ?_)
  go_simp
  go_at_call 23
  refine (integer_Cmp _ _ _ x _ _ _ y _ (h2.to bW) (h3.to bW)).mono ?_
  rintro e w20 ⟨rfl, hb20⟩
  go_simp
  refine hK.out _ _ (show Below wi2_41.heap.size wi2_41 w20 from bW) ?_
  clear hK K
  replace hH := Lib.hid (nx hH.out (show Below w19.heap.size w19 w20 from bW))
  try simp only [Act.put, sX, sY, sZ]
  refine anyE_one (i := 44) gO kR (fun wi2_44 hbwi2_44 K hK => ?_)
  go_simp
  go_at_call 35
  refine (ref7_Cmp _ _ _ x _ _ _ y _ (h4.to bW) (h5.to bW) (by omega) (by omega)).mono ?_
  rintro e w21 ⟨rfl, hb21⟩
  go_simp
  refine hK.out _ _ (show Below wi2_44.heap.size wi2_44 w21 from bW) ?_
  clear hK K
  replace hH := Lib.hid (nx hH.out (show Below w20.heap.size w20 w21 from bW))
  try simp only [Act.put, sX, sY, sZ]
  refine anyE_take (i := 45) (v := ?_) gO kR (by exact fun _ _ _ h => h) (Or.inl ⟨by rfl, ?_⟩) hH.out ?_
  rotate_left
  · intro w hSw; go_simp; try with_reducible rfl
  try simp only [Act.put, sX, sY, sZ]
  refine anyE_take (i := 46) (v := ?_) gO kR (by exact fun _ _ _ h => h) (Or.inl ⟨by rfl, ?_⟩) hH.out ?_
  rotate_left
  · intro w hSw; go_simp; try with_reducible rfl
  try simp only [Act.put, sX, sY, sZ]
  refine anyE_take (i := 47) (v := ?_) gO kR (by exact fun _ _ _ h => h) (Or.inl ⟨by rfl, ?_⟩) hH.out ?_
  rotate_left
  · intro w hSw; go_simp; try with_reducible rfl
  try simp only [Act.put, sX, sY, sZ]
  refine anyE_done kR (fun wzE2 hbzE2 => ?_)
  refine FinD_nil ?_
  try simp only [Act.put, sX, sY, sZ]
  have hbtE2 := Lib.hid (show Below wsE5.heap.size wsE5 wzE2 from nx hbdE2 (nx hH.out hbzE2))
  clear hH
  refine anyT_done kR ?_ _
  clear CX3 CX3' CX5 CX5' CX4 CX4' CX6 CX6'
  go_wp2_with fail
  go_ret
  exact ⟨rfl, bW⟩
end Go.Proofs.Ytihbpkljjmpkjaa
