/- The walk of 'IntegerBack'. -/
import Derived.Test.YtihbpkljjmpkjaaAwake7
import Derived.Test.YtihbpkljjmpkjaaTxtLaw3
set_option linter.unusedVariables false
set_option linter.unusedSimpArgs false
namespace Go.Proofs.Ytihbpkljjmpkjaa
open Go.RowKit
set_option maxRecDepth 100000
theorem zback_fit {x y q r : Int} {n n' : Nat} (hd : q * y + r = x) (hx : x.natAbs < W ^ n) (hr : r.natAbs < W ^ n') : (q * y).natAbs < W ^ max n n' * 2 := by
  have h1 : x.natAbs < W ^ max n n' := Nat.lt_of_lt_of_le hx (Nat.pow_le_pow_right W_pos (Nat.le_max_left _ _))
  have h2 : r.natAbs < W ^ max n n' := Nat.lt_of_lt_of_le hr (Nat.pow_le_pow_right W_pos (Nat.le_max_right _ _))
  omega
theorem zback_words {x y q r : Int} {n n' m m' : Nat} (hd : q * y + r = x) (hx : x.natAbs < W ^ n) (hr : r.natAbs < W ^ n') (hq : 0 < m → W ^ (m - 1) ≤ q.natAbs) (hy : 0 < m' → W ^ (m' - 1) ≤ y.natAbs) (hm : m ≤ n) (hm' : m' ≤ n') : m + m' ≤ max n n' + 2 := by
  rcases Nat.eq_zero_or_pos m with h0 | h0
  · omega
  · rcases Nat.eq_zero_or_pos m' with h1 | h1
    · omega
    · have a := Nat.mul_le_mul (hq h0) (hy h1)
      rw [← Nat.pow_add, ← Int.natAbs_mul] at a
      have b := zback_fit hd hx hr
      have c : W ^ max n n' * 2 ≤ W ^ (max n n' + 1) := by rw [Nat.pow_succ]; exact Nat.mul_le_mul_left _ (by decide)
      have := pow_lt_inv W_pos a (Nat.lt_of_lt_of_le b c)
      omega
set_option maxHeartbeats 8000000 in
theorem law_IntegerBack (b A n c u) (b' A' n' c' v) (w : World) (k1 : Dig .u64 W w A n c u) (k2 : Dig .u64 W w A' n' c' v) (r1 : n ≤ 17592186043904) (r2 : n' ≤ 17592186043904) :
    Calls Try.prog 9 #[.agg #[.bool b, .slice A n c], .agg #[.bool b', .slice A' n' c']] w (Ret w (.bool true)) := by
  obtain ⟨x, hx⟩ : ∃ x : Int, x = sg b u := ⟨_, rfl⟩
  have HSx := Lib.hid hx
  have ltx : x.natAbs < W ^ n := by rw [hx, sg_abs]; exact k1.lt
  have rtx : x.natAbs < 65536 ^ (4 * n) := by rw [Nat.pow_mul]; exact ltx
  obtain ⟨y, hy⟩ : ∃ y : Int, y = sg b' v := ⟨_, rfl⟩
  have HSy := Lib.hid hy
  have lty : y.natAbs < W ^ n' := by rw [hy, sg_abs]; exact k2.lt
  have rty : y.natAbs < 65536 ^ (4 * n') := by rw [Nat.pow_mul]; exact lty
  clear hx hy
  by_cases hy : y = 0
  · have HY := Lib.hid hy
    clear hy
    go_enter Try.func9, Try.ntmps9
    go_wp2_with fail
    have X1 := Blk2.newAt w (w.heap.size) 24 (.bool b) (.slice A n c) (by first | rfl | simp)
    have X2 := Blk2.newAt (w.alloc (.cells #[.bool b, .slice A n c] 24)) (w.heap.size + 1) 24 (.bool b') (.slice A' n' c') (by first | rfl | simp)
    replace X1 := (show Blk2 ((w.alloc (.cells #[.bool b, .slice A n c] 24)).alloc (.cells #[.bool b', .slice A' n' c'] 24)) _ _ _ _ from X1.to bW)
    have hbwe1 : Below w.heap.size w ((w.alloc (.cells #[.bool b, .slice A n c] 24)).alloc (.cells #[.bool b', .slice A' n' c'] 24)) := bW
    generalize ((w.alloc (.cells #[.bool b, .slice A n c] 24)).alloc (.cells #[.bool b', .slice A' n' c'] 24)) = we1 at X1 X2 hbwe1  ⊢
    refine (awake7 _).mono ?_
    rintro e w1 ⟨rfl, hb1⟩
    go_wp2_with fail
    have CX1 := (show Blk2 w1 _ _ _ _ from X1.to bW).cell
    have CX1' := (show Blk2 w1 _ _ _ _ from X1.to bW).cell1
    have CX2 := (show Blk2 w1 _ _ _ _ from X2.to bW).cell
    have CX2' := (show Blk2 w1 _ _ _ _ from X2.to bW).cell1
    refine wp_regionE [(4, 5, 29, #[.bool false, .slice none 0 0]), (5, 6, 29, #[.bool false, .slice none 0 0])] kR kR (mk_cons (mk_int gO rfl rfl rfl) (mk_cons (mk_int gO rfl rfl rfl) (mk_nil))) (by exact fun _ _ _ _ _ h => h) (by exact fun _ _ _ _ _ h => h) (f := 6) (by rfl) ?_
    have hbdE1 : Below w1.heap.size w1 w1.drew := nxw (Below.refl _ _)
    generalize w1.drew = wdE1 at hbdE1 ⊢
    replace CX1 := cellB hbdE1 CX1
    replace CX1' := cellB hbdE1 CX1'
    replace CX2 := cellB hbdE1 CX2
    replace CX2' := cellB hbdE1 CX2'
    have hH := Lib.hid (Below.refl wdE1.heap.size wdE1)
    refine anyE_take (i := 0) (v := ?_) gO kR (by exact fun _ _ _ h => h) (Or.inl ⟨by rfl, ?_⟩) hH.out ?_
    rotate_left
    · intro w hSw; have c := cellB hSw CX1; have c' := cellB hSw CX1'; go_simp; try with_reducible rfl
    try simp only [Act.put, sX, sY, sZ]
    refine anyE_take (i := 2) (v := ?_) gO kR (by exact fun _ _ _ h => h) (Or.inl ⟨by rfl, ?_⟩) hH.out ?_
    rotate_left
    · intro w hSw; have c := cellB hSw CX2; have c' := cellB hSw CX2'; go_simp; try with_reducible rfl
    try simp only [Act.put, sX, sY, sZ]
    refine anyE_one (i := 1) gO kR (fun wi1_1 hbwi1_1 K hK => ?_)
    go_simp
    go_at_call 12
    refine (law7_Make b _ _ _ u _ (k1.to bW) (by omega)).mono ?_
    rw [← HSx.out]
    rintro e w2 ⟨A2, n2, c2, rfl, h2, hb2⟩
    have q2 := h2.le_of _ (ltx)
    go_simp
    refine hK.out _ _ (show Below wi1_1.heap.size wi1_1 w2 from bW) ?_
    clear hK K
    replace hH := Lib.hid (nx hH.out (show Below wdE1.heap.size wdE1 w2 from bW))
    try simp only [Act.put, sX, sY, sZ]
    refine anyE_one (i := 3) gO kR (fun wi1_3 hbwi1_3 K hK => ?_)
    go_simp
    go_at_call 12
    refine (law7_Make b' _ _ _ v _ (k2.to bW) (by omega)).mono ?_
    rw [← HSy.out]
    rintro e w3 ⟨A3, n3, c3, rfl, h3, hb3⟩
    have q3 := h3.le_of _ (lty)
    go_simp
    refine hK.out _ _ (show Below wi1_3.heap.size wi1_3 w3 from bW) ?_
    clear hK K
    replace hH := Lib.hid (nx hH.out (show Below w2.heap.size w2 w3 from bW))
    try simp only [Act.put, sX, sY, sZ]
    refine anyE_done kR (fun wzE1 hbzE1 => ?_)
    refine FinD_cons (fun gEX3 X3 hgEX3 hnEX3 => ?_)
    replace X3 : Blk2 wzE1 _ _ _ _ := X3
    clear hnEX3
    refine FinD_cons (fun gEX4 X4 hgEX4 hnEX4 => ?_)
    replace X4 : Blk2 wzE1 _ _ _ _ := X4
    have nEX4X3 : gEX4 ≠ gEX3 := fun e => hnEX4 (by simp [e])
    clear hnEX4
    refine FinD_nil ?_
    try simp only [Act.put, sX, sY, sZ]
    replace h2 := (show NatAt wzE1 _ _ _ _ from h2.to bW)
    replace h3 := (show NatAt wzE1 _ _ _ _ from h3.to bW)
    have hbtE1 := Lib.hid (show Below w1.heap.size w1 wzE1 from nx hbdE1 (nx hH.out hbzE1))
    clear hH
    refine anyT_ready (rs := [6]) kR (by simp) (ReadyT.cons gO (fun K hK => ?_) ReadyT.nil)
    rw [if_pos (by rfl)]
    refine wp_store_int _ _ rfl rfl rfl X3 ?_
    replace X4 := X4.off2 (g := gEX3) nEX4X3 (.bool (bz x)) (.slice A2 n2 c2)
    replace h2 := h2.put2 X3 (.bool (bz x)) (.slice A2 n2 c2)
    replace h3 := h3.put2 X3 (.bool (bz x)) (.slice A2 n2 c2)
    replace hbtE1 := below_put2 hbtE1.out (g := gEX3) (Nat.le_trans hbdE1.size hgEX3) (.bool (bz x)) (.slice A2 n2 c2)
    replace X3 := X3.put2 (.bool (bz x)) (.slice A2 n2 c2)
    generalize put2 wzE1 gEX3 (.bool (bz x)) (.slice A2 n2 c2) = wsE2 at X3 X4 h2 h3 hbtE1 ⊢
    refine hK.out _ _ trivial (fun _ => ?_)
    clear hK K
    try simp only [Act.put, sX, sY, sZ]
    refine anyT_ready (rs := [7]) kR (by simp) (ReadyT.cons gO (fun K hK => ?_) ReadyT.nil)
    rw [if_pos (by rfl)]
    refine wp_store_int _ _ rfl rfl rfl X4 ?_
    replace X3 := X3.off2 (g := gEX4) (Ne.symm nEX4X3) (.bool (bz y)) (.slice A3 n3 c3)
    replace h2 := h2.put2 X4 (.bool (bz y)) (.slice A3 n3 c3)
    replace h3 := h3.put2 X4 (.bool (bz y)) (.slice A3 n3 c3)
    replace hbtE1 := below_put2 hbtE1 (g := gEX4) (Nat.le_trans hbdE1.size hgEX4) (.bool (bz y)) (.slice A3 n3 c3)
    replace X4 := X4.put2 (.bool (bz y)) (.slice A3 n3 c3)
    generalize put2 wsE2 gEX4 (.bool (bz y)) (.slice A3 n3 c3) = wsE3 at X4 X3 h2 h3 hbtE1 ⊢
    refine hK.out _ _ trivial (fun _ => ?_)
    clear hK K
    try simp only [Act.put, sX, sY, sZ]
    refine anyT_done kR ?_ _
    clear CX1 CX1' CX2 CX2'
    have d1 := (show Blk2 wsE3 _ _ _ _ from X3.to bW).cell
    have d1' := (show Blk2 wsE3 _ _ _ _ from X3.to bW).cell1
    have d2 := (show Blk2 wsE3 _ _ _ _ from X4.to bW).cell
    have d2' := (show Blk2 wsE3 _ _ _ _ from X4.to bW).cell1
    go_wp2_with fail
    clear d1 d1' d2 d2'
    refine (integer_Div_zero _ _ _ x _ _ _ y _ (h2.to bW) (h3.to bW) (by omega) HY.out).mono ?_
    rintro e w4 ⟨A4, n4, c4, A4', n4', c4', rfl, h4, h4', hb4⟩
    have d3 := (show Blk2 ((w4.alloc (.cells #[.bool (bz 0), .slice A4 n4 c4] 29)).alloc (.cells #[.bool (bz 0), .slice A4' n4' c4'] 29)) _ _ _ _ from X4.to bW).cell
    have d3' := (show Blk2 ((w4.alloc (.cells #[.bool (bz 0), .slice A4 n4 c4] 29)).alloc (.cells #[.bool (bz 0), .slice A4' n4' c4'] 29)) _ _ _ _ from X4.to bW).cell1
    go_wp2_with fail
    clear d3 d3'
    have X5 := Blk2.newAt w4 (w4.heap.size) 29 (.bool (bz 0)) (.slice A4 n4 c4) (by first | rfl | simp)
    have X6 := Blk2.newAt (w4.alloc (.cells #[.bool (bz 0), .slice A4 n4 c4] 29)) (w4.heap.size + 1) 29 (.bool (bz 0)) (.slice A4' n4' c4') (by first | rfl | simp)
    replace X5 := (show Blk2 ((w4.alloc (.cells #[.bool (bz 0), .slice A4 n4 c4] 29)).alloc (.cells #[.bool (bz 0), .slice A4' n4' c4'] 29)) _ _ _ _ from X5.to bW)
    have hbwe4 : Below w4.heap.size w4 ((w4.alloc (.cells #[.bool (bz 0), .slice A4 n4 c4] 29)).alloc (.cells #[.bool (bz 0), .slice A4' n4' c4'] 29)) := bW
    generalize ((w4.alloc (.cells #[.bool (bz 0), .slice A4 n4 c4] 29)).alloc (.cells #[.bool (bz 0), .slice A4' n4' c4'] 29)) = we4 at X5 X6 hbwe4  ⊢
    refine (integer_Sign _ _ _ y _ (h3.to bW)).mono ?_
    rw [show sgn y = 0 from cmpZ_eq HY.out]
    rintro e w5 ⟨rfl, hb5⟩
    go_wp2_with fail
    go_ret
    exact ⟨rfl, bW⟩
  · have HP := Lib.hid (show 0 < y.natAbs by omega)
    obtain ⟨q, hq⟩ : ∃ q, q = dq x y := ⟨_, rfl⟩
    obtain ⟨r, hr⟩ : ∃ r, r = dr x y := ⟨_, rfl⟩
    have LQ : q.natAbs < W ^ n := by rw [hq]; exact Nat.lt_of_le_of_lt (dq_le _ _) ltx
    have LR : r.natAbs < W ^ n' := by rw [hr]; exact Nat.lt_trans (dr_lt HP.out) lty
    have LB : r.natAbs < y.natAbs := by rw [hr]; exact dr_lt HP.out
    have DX := Lib.hid (show q * y + r = x by rw [hq, hr]; exact dq_dr hy)
    have SR := Lib.hid (show r = 0 ∨ sgn r = sgn y by rw [hr]; exact dr_sign hy)
    have HQ := Lib.hid hq
    have HR := Lib.hid hr
    clear hq hr hy
    by_cases h0 : r = 0
    · have H0 := Lib.hid h0
      clear h0
      go_enter Try.func9, Try.ntmps9
      go_wp2_with fail
      have X1 := Blk2.newAt w (w.heap.size) 24 (.bool b) (.slice A n c) (by first | rfl | simp)
      have X2 := Blk2.newAt (w.alloc (.cells #[.bool b, .slice A n c] 24)) (w.heap.size + 1) 24 (.bool b') (.slice A' n' c') (by first | rfl | simp)
      replace X1 := (show Blk2 ((w.alloc (.cells #[.bool b, .slice A n c] 24)).alloc (.cells #[.bool b', .slice A' n' c'] 24)) _ _ _ _ from X1.to bW)
      have hbwe1 : Below w.heap.size w ((w.alloc (.cells #[.bool b, .slice A n c] 24)).alloc (.cells #[.bool b', .slice A' n' c'] 24)) := bW
      generalize ((w.alloc (.cells #[.bool b, .slice A n c] 24)).alloc (.cells #[.bool b', .slice A' n' c'] 24)) = we1 at X1 X2 hbwe1  ⊢
      refine (awake7 _).mono ?_
      rintro e w1 ⟨rfl, hb1⟩
      go_wp2_with fail
      have CX1 := (show Blk2 w1 _ _ _ _ from X1.to bW).cell
      have CX1' := (show Blk2 w1 _ _ _ _ from X1.to bW).cell1
      have CX2 := (show Blk2 w1 _ _ _ _ from X2.to bW).cell
      have CX2' := (show Blk2 w1 _ _ _ _ from X2.to bW).cell1
      refine wp_regionE [(4, 5, 29, #[.bool false, .slice none 0 0]), (5, 6, 29, #[.bool false, .slice none 0 0])] kR kR (mk_cons (mk_int gO rfl rfl rfl) (mk_cons (mk_int gO rfl rfl rfl) (mk_nil))) (by exact fun _ _ _ _ _ h => h) (by exact fun _ _ _ _ _ h => h) (f := 6) (by rfl) ?_
      have hbdE1 : Below w1.heap.size w1 w1.drew := nxw (Below.refl _ _)
      generalize w1.drew = wdE1 at hbdE1 ⊢
      replace CX1 := cellB hbdE1 CX1
      replace CX1' := cellB hbdE1 CX1'
      replace CX2 := cellB hbdE1 CX2
      replace CX2' := cellB hbdE1 CX2'
      have hH := Lib.hid (Below.refl wdE1.heap.size wdE1)
      refine anyE_take (i := 0) (v := ?_) gO kR (by exact fun _ _ _ h => h) (Or.inl ⟨by rfl, ?_⟩) hH.out ?_
      rotate_left
      · intro w hSw; have c := cellB hSw CX1; have c' := cellB hSw CX1'; go_simp; try with_reducible rfl
      try simp only [Act.put, sX, sY, sZ]
      refine anyE_take (i := 2) (v := ?_) gO kR (by exact fun _ _ _ h => h) (Or.inl ⟨by rfl, ?_⟩) hH.out ?_
      rotate_left
      · intro w hSw; have c := cellB hSw CX2; have c' := cellB hSw CX2'; go_simp; try with_reducible rfl
      try simp only [Act.put, sX, sY, sZ]
      refine anyE_one (i := 1) gO kR (fun wi1_1 hbwi1_1 K hK => ?_)
      go_simp
      go_at_call 12
      refine (law7_Make b _ _ _ u _ (k1.to bW) (by omega)).mono ?_
      rw [← HSx.out]
      rintro e w2 ⟨A2, n2, c2, rfl, h2, hb2⟩
      have q2 := h2.le_of _ (ltx)
      go_simp
      refine hK.out _ _ (show Below wi1_1.heap.size wi1_1 w2 from bW) ?_
      clear hK K
      replace hH := Lib.hid (nx hH.out (show Below wdE1.heap.size wdE1 w2 from bW))
      try simp only [Act.put, sX, sY, sZ]
      refine anyE_one (i := 3) gO kR (fun wi1_3 hbwi1_3 K hK => ?_)
      go_simp
      go_at_call 12
      refine (law7_Make b' _ _ _ v _ (k2.to bW) (by omega)).mono ?_
      rw [← HSy.out]
      rintro e w3 ⟨A3, n3, c3, rfl, h3, hb3⟩
      have q3 := h3.le_of _ (lty)
      go_simp
      refine hK.out _ _ (show Below wi1_3.heap.size wi1_3 w3 from bW) ?_
      clear hK K
      replace hH := Lib.hid (nx hH.out (show Below w2.heap.size w2 w3 from bW))
      try simp only [Act.put, sX, sY, sZ]
      refine anyE_done kR (fun wzE1 hbzE1 => ?_)
      refine FinD_cons (fun gEX3 X3 hgEX3 hnEX3 => ?_)
      replace X3 : Blk2 wzE1 _ _ _ _ := X3
      clear hnEX3
      refine FinD_cons (fun gEX4 X4 hgEX4 hnEX4 => ?_)
      replace X4 : Blk2 wzE1 _ _ _ _ := X4
      have nEX4X3 : gEX4 ≠ gEX3 := fun e => hnEX4 (by simp [e])
      clear hnEX4
      refine FinD_nil ?_
      try simp only [Act.put, sX, sY, sZ]
      replace h2 := (show NatAt wzE1 _ _ _ _ from h2.to bW)
      replace h3 := (show NatAt wzE1 _ _ _ _ from h3.to bW)
      have hbtE1 := Lib.hid (show Below w1.heap.size w1 wzE1 from nx hbdE1 (nx hH.out hbzE1))
      clear hH
      refine anyT_ready (rs := [6]) kR (by simp) (ReadyT.cons gO (fun K hK => ?_) ReadyT.nil)
      rw [if_pos (by rfl)]
      refine wp_store_int _ _ rfl rfl rfl X3 ?_
      replace X4 := X4.off2 (g := gEX3) nEX4X3 (.bool (bz x)) (.slice A2 n2 c2)
      replace h2 := h2.put2 X3 (.bool (bz x)) (.slice A2 n2 c2)
      replace h3 := h3.put2 X3 (.bool (bz x)) (.slice A2 n2 c2)
      replace hbtE1 := below_put2 hbtE1.out (g := gEX3) (Nat.le_trans hbdE1.size hgEX3) (.bool (bz x)) (.slice A2 n2 c2)
      replace X3 := X3.put2 (.bool (bz x)) (.slice A2 n2 c2)
      generalize put2 wzE1 gEX3 (.bool (bz x)) (.slice A2 n2 c2) = wsE2 at X3 X4 h2 h3 hbtE1 ⊢
      refine hK.out _ _ trivial (fun _ => ?_)
      clear hK K
      try simp only [Act.put, sX, sY, sZ]
      refine anyT_ready (rs := [7]) kR (by simp) (ReadyT.cons gO (fun K hK => ?_) ReadyT.nil)
      rw [if_pos (by rfl)]
      refine wp_store_int _ _ rfl rfl rfl X4 ?_
      replace X3 := X3.off2 (g := gEX4) (Ne.symm nEX4X3) (.bool (bz y)) (.slice A3 n3 c3)
      replace h2 := h2.put2 X4 (.bool (bz y)) (.slice A3 n3 c3)
      replace h3 := h3.put2 X4 (.bool (bz y)) (.slice A3 n3 c3)
      replace hbtE1 := below_put2 hbtE1 (g := gEX4) (Nat.le_trans hbdE1.size hgEX4) (.bool (bz y)) (.slice A3 n3 c3)
      replace X4 := X4.put2 (.bool (bz y)) (.slice A3 n3 c3)
      generalize put2 wsE2 gEX4 (.bool (bz y)) (.slice A3 n3 c3) = wsE3 at X4 X3 h2 h3 hbtE1 ⊢
      refine hK.out _ _ trivial (fun _ => ?_)
      clear hK K
      try simp only [Act.put, sX, sY, sZ]
      refine anyT_done kR ?_ _
      clear CX1 CX1' CX2 CX2'
      have d1 := (show Blk2 wsE3 _ _ _ _ from X3.to bW).cell
      have d1' := (show Blk2 wsE3 _ _ _ _ from X3.to bW).cell1
      have d2 := (show Blk2 wsE3 _ _ _ _ from X4.to bW).cell
      have d2' := (show Blk2 wsE3 _ _ _ _ from X4.to bW).cell1
      go_wp2_with fail
      clear d1 d1' d2 d2'
      refine (integer_Div_pos _ _ _ x _ _ _ y _ (h2.to bW) (h3.to bW) (by omega) (by omega) HP.out).mono ?_
      rw [← HQ.out, ← HR.out]
      rintro e w4 ⟨A4, n4, c4, A4', n4', c4', rfl, h4, h4', hb4⟩
      have q4 := h4.le_of _ LQ
      have q4' := h4'.le_of _ LR
      go_wp2_with fail
      have X5 := Blk2.newAt w4 (w4.heap.size) 29 (.bool (bz q)) (.slice A4 n4 c4) (by first | rfl | simp)
      have X6 := Blk2.newAt (w4.alloc (.cells #[.bool (bz q), .slice A4 n4 c4] 29)) (w4.heap.size + 1) 29 (.bool (bz r)) (.slice A4' n4' c4') (by first | rfl | simp)
      replace X5 := (show Blk2 ((w4.alloc (.cells #[.bool (bz q), .slice A4 n4 c4] 29)).alloc (.cells #[.bool (bz r), .slice A4' n4' c4'] 29)) _ _ _ _ from X5.to bW)
      have hbwe4 : Below w4.heap.size w4 ((w4.alloc (.cells #[.bool (bz q), .slice A4 n4 c4] 29)).alloc (.cells #[.bool (bz r), .slice A4' n4' c4'] 29)) := bW
      generalize ((w4.alloc (.cells #[.bool (bz q), .slice A4 n4 c4] 29)).alloc (.cells #[.bool (bz r), .slice A4' n4' c4'] 29)) = we4 at X5 X6 hbwe4  ⊢
      have CX5 := (show Blk2 we4 _ _ _ _ from X5.to bW).cell
      have CX5' := (show Blk2 we4 _ _ _ _ from X5.to bW).cell1
      have CX4 := (show Blk2 we4 _ _ _ _ from X4.to bW).cell
      have CX4' := (show Blk2 we4 _ _ _ _ from X4.to bW).cell1
      have CX6 := (show Blk2 we4 _ _ _ _ from X6.to bW).cell
      have CX6' := (show Blk2 we4 _ _ _ _ from X6.to bW).cell1
      have CX3 := (show Blk2 we4 _ _ _ _ from X3.to bW).cell
      have CX3' := (show Blk2 we4 _ _ _ _ from X3.to bW).cell1
      refine wp_regionE [] kR kR (mk_nil) (by exact fun _ _ _ _ _ h => h) (by exact fun _ _ _ _ _ h => h) (f := 29) (by rfl) ?_
      have hbdE2 : Below we4.heap.size we4 we4.drew := nxw (Below.refl _ _)
      generalize we4.drew = wdE2 at hbdE2 ⊢
      replace CX5 := cellB hbdE2 CX5
      replace CX5' := cellB hbdE2 CX5'
      replace CX4 := cellB hbdE2 CX4
      replace CX4' := cellB hbdE2 CX4'
      replace CX6 := cellB hbdE2 CX6
      replace CX6' := cellB hbdE2 CX6'
      replace CX3 := cellB hbdE2 CX3
      replace CX3' := cellB hbdE2 CX3'
      have hH := Lib.hid (Below.refl wdE2.heap.size wdE2)
      refine anyE_take (i := 0) (v := ?_) gO kR (by exact fun _ _ _ h => h) (Or.inl ⟨by rfl, ?_⟩) hH.out ?_
      rotate_left
      · intro w hSw; have c := cellB hSw CX5; have c' := cellB hSw CX5'; go_simp; try with_reducible rfl
      try simp only [Act.put, sX, sY, sZ]
      refine anyE_take (i := 1) (v := ?_) gO kR (by exact fun _ _ _ h => h) (Or.inl ⟨by rfl, ?_⟩) hH.out ?_
      rotate_left
      · intro w hSw; have c := cellB hSw CX4; have c' := cellB hSw CX4'; go_simp; try with_reducible rfl
      try simp only [Act.put, sX, sY, sZ]
      refine anyE_take (i := 3) (v := ?_) gO kR (by exact fun _ _ _ h => h) (Or.inl ⟨by rfl, ?_⟩) hH.out ?_
      rotate_left
      · intro w hSw; have c := cellB hSw CX6; have c' := cellB hSw CX6'; go_simp; try with_reducible rfl
      try simp only [Act.put, sX, sY, sZ]
      refine anyE_take (i := 5) (v := ?_) gO kR (by exact fun _ _ _ h => h) (Or.inl ⟨by rfl, ?_⟩) hH.out ?_
      rotate_left
      · intro w hSw; have c := cellB hSw CX3; have c' := cellB hSw CX3'; go_simp; try with_reducible rfl
      try simp only [Act.put, sX, sY, sZ]
      refine anyE_one (i := 2) gO kR (fun wi2_2 hbwi2_2 K hK => ?_)
      go_simp
      go_at_call 29
      have BF := zback_words DX.out ltx LR h4.2 h3.2 q4 q3
      refine (integer_Mul _ _ _ q _ _ _ y _ (h4.to bW) (h3.to bW) (by omega) (by omega)).mono ?_
      rintro e w5 ⟨A5, n5, c5, rfl, h5, hb5⟩
      have q5 := h5.le_of _ (zmul_lt h4.lt h3.lt)
      go_simp
      refine hK.out _ _ (show Below wi2_2.heap.size wi2_2 w5 from bW) ?_
      clear hK K
      replace hH := Lib.hid (nx hH.out (show Below wdE2.heap.size wdE2 w5 from bW))
      try simp only [Act.put, sX, sY, sZ]
      refine anyE_one (i := 4) gO kR (fun wi2_4 hbwi2_4 K hK => ?_)
      go_simp
      go_at_call 24
      refine (integer_Add _ _ _ (q * y) _ _ _ r _ (h5.to bW) (h4'.to bW) (by omega) (by omega)).mono ?_
      rw [DX.out]
      rintro e w6 ⟨A6, n6, c6, rfl, h6, hb6⟩
      have q6 := h6.le_of _ (ltx)
      go_simp
      refine hK.out _ _ (show Below wi2_4.heap.size wi2_4 w6 from bW) ?_
      clear hK K
      replace hH := Lib.hid (nx hH.out (show Below w5.heap.size w5 w6 from bW))
      try simp only [Act.put, sX, sY, sZ]
      refine anyE_one (i := 6) gO kR (fun wi2_6 hbwi2_6 K hK => ?_)
      go_simp
      go_at_call 23
      refine (integer_Cmp _ _ _ x _ _ _ x _ (h6.to bW) (h2.to bW)).mono ?_
      rw [cmpZ_eq (rfl)]
      rintro e w7 ⟨rfl, hb7⟩
      go_simp
      refine hK.out _ _ (show Below wi2_6.heap.size wi2_6 w7 from bW) ?_
      clear hK K
      replace hH := Lib.hid (nx hH.out (show Below w6.heap.size w6 w7 from bW))
      try simp only [Act.put, sX, sY, sZ]
      refine anyE_take (i := 7) (v := ?_) gO kR (by exact fun _ _ _ h => h) (Or.inl ⟨by rfl, ?_⟩) hH.out ?_
      rotate_left
      · intro w hSw; go_simp; try with_reducible rfl
      try simp only [Act.put, sX, sY, sZ]
      refine anyE_take (i := 8) (v := ?_) gO kR (by exact fun _ _ _ h => h) (Or.inl ⟨by rfl, ?_⟩) hH.out ?_
      rotate_left
      · intro w hSw; go_simp; try with_reducible rfl
      try simp only [Act.put, sX, sY, sZ]
      refine anyE_take (i := 9) (v := ?_) gO kR (by exact fun _ _ _ h => h) (Or.inl ⟨by rfl, ?_⟩) hH.out ?_
      rotate_left
      · intro w hSw; have c := cellB hSw CX6; have c' := cellB hSw CX6'; go_simp; try with_reducible rfl
      try simp only [Act.put, sX, sY, sZ]
      refine anyE_one (i := 10) gO kR (fun wi2_10 hbwi2_10 K hK => ?_)
      go_simp
      go_at_call 15
      refine (integer_Sign _ _ _ r _ (h4'.to bW)).mono ?_
      rw [show sgn r = 0 from cmpZ_eq H0.out]
      rintro e w8 ⟨rfl, hb8⟩
      go_simp
      refine hK.out _ _ (show Below wi2_10.heap.size wi2_10 w8 from bW) ?_
      clear hK K
      replace hH := Lib.hid (nx hH.out (show Below w7.heap.size w7 w8 from bW))
      try simp only [Act.put, sX, sY, sZ]
      refine anyE_take (i := 11) (v := ?_) gO kR (by exact fun _ _ _ h => h) (Or.inl ⟨by rfl, ?_⟩) hH.out ?_
      rotate_left
      · intro w hSw; go_simp; try with_reducible rfl
      try simp only [Act.put, sX, sY, sZ]
      refine anyE_take (i := 12) (v := ?_) gO kR (by exact fun _ _ _ h => h) (Or.inl ⟨by rfl, ?_⟩) hH.out ?_
      rotate_left
      · intro w hSw; go_simp; try with_reducible rfl
      try simp only [Act.put, sX, sY, sZ]
      refine anyE_take (i := 13) (v := undef) gO kR (by exact fun _ _ _ h => h) (Or.inr ⟨by rfl, rfl⟩) hH.out ?_
      try simp only [Act.put, sX, sY, sZ]
      refine anyE_take (i := 14) (v := undef) gO kR (by exact fun _ _ _ h => h) (Or.inr ⟨by rfl, rfl⟩) hH.out ?_
      try simp only [Act.put, sX, sY, sZ]
      refine anyE_take (i := 15) (v := undef) gO kR (by exact fun _ _ _ h => h) (Or.inr ⟨by rfl, rfl⟩) hH.out ?_
      try simp only [Act.put, sX, sY, sZ]
      refine anyE_take (i := 16) (v := undef) gO kR (by exact fun _ _ _ h => h) (Or.inr ⟨by rfl, rfl⟩) hH.out ?_
      try simp only [Act.put, sX, sY, sZ]
      refine anyE_take (i := 17) (v := undef) gO kR (by exact fun _ _ _ h => h) (Or.inr ⟨by rfl, rfl⟩) hH.out ?_
      try simp only [Act.put, sX, sY, sZ]
      refine anyE_take (i := 18) (v := ?_) gO kR (by exact fun _ _ _ h => h) (Or.inl ⟨by rfl, ?_⟩) hH.out ?_
      rotate_left
      · intro w hSw; go_simp; try with_reducible rfl
      try simp only [Act.put, sX, sY, sZ]
      refine anyE_take (i := 19) (v := ?_) gO kR (by exact fun _ _ _ h => h) (Or.inl ⟨by rfl, ?_⟩) hH.out ?_
      rotate_left
      · intro w hSw; go_simp; try with_reducible rfl
      try simp only [Act.put, sX, sY, sZ]
      refine anyE_take (i := 20) (v := ?_) gO kR (by exact fun _ _ _ h => h) (Or.inl ⟨by rfl, ?_⟩) hH.out ?_
      rotate_left
      · intro w hSw; go_simp; try with_reducible rfl
      try simp only [Act.put, sX, sY, sZ]
      refine anyE_take (i := 21) (v := ?_) gO kR (by exact fun _ _ _ h => h) (Or.inl ⟨by rfl, ?_⟩) hH.out ?_
      rotate_left
      · intro w hSw; have c := cellB hSw CX6; have c' := cellB hSw CX6'; go_simp; try with_reducible rfl
      try simp only [Act.put, sX, sY, sZ]
      refine anyE_take (i := 23) (v := ?_) gO kR (by exact fun _ _ _ h => h) (Or.inl ⟨by rfl, ?_⟩) hH.out ?_
      rotate_left
      · intro w hSw; have c := cellB hSw CX4; have c' := cellB hSw CX4'; go_simp; try with_reducible rfl
      try simp only [Act.put, sX, sY, sZ]
      refine anyE_one (i := 22) gO kR (fun wi2_22 hbwi2_22 K hK => ?_)
      go_simp
      go_at_call 31
      refine (integer_Abs _ _ _ r _ (h4'.to bW)).mono ?_
      rintro e w9 ⟨A9, n9, c9, rfl, h9, hb9⟩
      have q9 := h9.le_of _ h4'.lt
      go_simp
      refine hK.out _ _ (show Below wi2_22.heap.size wi2_22 w9 from bW) ?_
      clear hK K
      replace hH := Lib.hid (nx hH.out (show Below w8.heap.size w8 w9 from bW))
      try simp only [Act.put, sX, sY, sZ]
      refine anyE_one (i := 24) gO kR (fun wi2_24 hbwi2_24 K hK => ?_)
      go_simp
      go_at_call 31
      refine (integer_Abs _ _ _ y _ (h3.to bW)).mono ?_
      rintro e w10 ⟨A10, n10, c10, rfl, h10, hb10⟩
      have q10 := h10.le_of _ h3.lt
      go_simp
      refine hK.out _ _ (show Below wi2_24.heap.size wi2_24 w10 from bW) ?_
      clear hK K
      replace hH := Lib.hid (nx hH.out (show Below w9.heap.size w9 w10 from bW))
      try simp only [Act.put, sX, sY, sZ]
      refine anyE_one (i := 25) gO kR (fun wi2_25 hbwi2_25 K hK => ?_)
      go_simp
      go_at_call 30
      (with_reducible refine (nat_Cmp _ _ _ _ _ _ _ _ _ (h9.to bW) (h10.to bW)).mono ?_)
      rw [cmpI_lt LB]
      rintro e w11 ⟨rfl, hb11⟩
      go_simp
      refine hK.out _ _ (show Below wi2_25.heap.size wi2_25 w11 from bW) ?_
      clear hK K
      replace hH := Lib.hid (nx hH.out (show Below w10.heap.size w10 w11 from bW))
      try simp only [Act.put, sX, sY, sZ]
      refine anyE_take (i := 26) (v := ?_) gO kR (by exact fun _ _ _ h => h) (Or.inl ⟨by rfl, ?_⟩) hH.out ?_
      rotate_left
      · intro w hSw; go_simp; try with_reducible rfl
      try simp only [Act.put, sX, sY, sZ]
      refine anyE_take (i := 27) (v := ?_) gO kR (by exact fun _ _ _ h => h) (Or.inl ⟨by rfl, ?_⟩) hH.out ?_
      rotate_left
      · intro w hSw; go_simp; try with_reducible rfl
      try simp only [Act.put, sX, sY, sZ]
      refine anyE_take (i := 28) (v := ?_) gO kR (by exact fun _ _ _ h => h) (Or.inl ⟨by rfl, ?_⟩) hH.out ?_
      rotate_left
      · intro w hSw; go_simp; try with_reducible rfl
      try simp only [Act.put, sX, sY, sZ]
      refine anyE_done kR (fun wzE2 hbzE2 => ?_)
      refine FinD_nil ?_
      try simp only [Act.put, sX, sY, sZ]
      have hbtE2 := Lib.hid (show Below we4.heap.size we4 wzE2 from nx hbdE2 (nx hH.out hbzE2))
      clear hH
      refine anyT_done kR ?_ _
      clear CX5 CX5' CX4 CX4' CX6 CX6' CX3 CX3'
      go_wp2_with fail
      go_ret
      exact ⟨rfl, bW⟩
    · have S1 := Lib.hid (SR.out.resolve_left h0)
      clear h0
      rcases Int.lt_trichotomy 0 y with hs | hs | hs
      · have SY := Lib.hid (show sgn y = 1 from cmpZ_gt hs)
        clear hs
        go_enter Try.func9, Try.ntmps9
        go_wp2_with fail
        have X1 := Blk2.newAt w (w.heap.size) 24 (.bool b) (.slice A n c) (by first | rfl | simp)
        have X2 := Blk2.newAt (w.alloc (.cells #[.bool b, .slice A n c] 24)) (w.heap.size + 1) 24 (.bool b') (.slice A' n' c') (by first | rfl | simp)
        replace X1 := (show Blk2 ((w.alloc (.cells #[.bool b, .slice A n c] 24)).alloc (.cells #[.bool b', .slice A' n' c'] 24)) _ _ _ _ from X1.to bW)
        have hbwe1 : Below w.heap.size w ((w.alloc (.cells #[.bool b, .slice A n c] 24)).alloc (.cells #[.bool b', .slice A' n' c'] 24)) := bW
        generalize ((w.alloc (.cells #[.bool b, .slice A n c] 24)).alloc (.cells #[.bool b', .slice A' n' c'] 24)) = we1 at X1 X2 hbwe1  ⊢
        refine (awake7 _).mono ?_
        rintro e w1 ⟨rfl, hb1⟩
        go_wp2_with fail
        have CX1 := (show Blk2 w1 _ _ _ _ from X1.to bW).cell
        have CX1' := (show Blk2 w1 _ _ _ _ from X1.to bW).cell1
        have CX2 := (show Blk2 w1 _ _ _ _ from X2.to bW).cell
        have CX2' := (show Blk2 w1 _ _ _ _ from X2.to bW).cell1
        refine wp_regionE [(4, 5, 29, #[.bool false, .slice none 0 0]), (5, 6, 29, #[.bool false, .slice none 0 0])] kR kR (mk_cons (mk_int gO rfl rfl rfl) (mk_cons (mk_int gO rfl rfl rfl) (mk_nil))) (by exact fun _ _ _ _ _ h => h) (by exact fun _ _ _ _ _ h => h) (f := 6) (by rfl) ?_
        have hbdE1 : Below w1.heap.size w1 w1.drew := nxw (Below.refl _ _)
        generalize w1.drew = wdE1 at hbdE1 ⊢
        replace CX1 := cellB hbdE1 CX1
        replace CX1' := cellB hbdE1 CX1'
        replace CX2 := cellB hbdE1 CX2
        replace CX2' := cellB hbdE1 CX2'
        have hH := Lib.hid (Below.refl wdE1.heap.size wdE1)
        refine anyE_take (i := 0) (v := ?_) gO kR (by exact fun _ _ _ h => h) (Or.inl ⟨by rfl, ?_⟩) hH.out ?_
        rotate_left
        · intro w hSw; have c := cellB hSw CX1; have c' := cellB hSw CX1'; go_simp; try with_reducible rfl
        try simp only [Act.put, sX, sY, sZ]
        refine anyE_take (i := 2) (v := ?_) gO kR (by exact fun _ _ _ h => h) (Or.inl ⟨by rfl, ?_⟩) hH.out ?_
        rotate_left
        · intro w hSw; have c := cellB hSw CX2; have c' := cellB hSw CX2'; go_simp; try with_reducible rfl
        try simp only [Act.put, sX, sY, sZ]
        refine anyE_one (i := 1) gO kR (fun wi1_1 hbwi1_1 K hK => ?_)
        go_simp
        go_at_call 12
        refine (law7_Make b _ _ _ u _ (k1.to bW) (by omega)).mono ?_
        rw [← HSx.out]
        rintro e w2 ⟨A2, n2, c2, rfl, h2, hb2⟩
        have q2 := h2.le_of _ (ltx)
        go_simp
        refine hK.out _ _ (show Below wi1_1.heap.size wi1_1 w2 from bW) ?_
        clear hK K
        replace hH := Lib.hid (nx hH.out (show Below wdE1.heap.size wdE1 w2 from bW))
        try simp only [Act.put, sX, sY, sZ]
        refine anyE_one (i := 3) gO kR (fun wi1_3 hbwi1_3 K hK => ?_)
        go_simp
        go_at_call 12
        refine (law7_Make b' _ _ _ v _ (k2.to bW) (by omega)).mono ?_
        rw [← HSy.out]
        rintro e w3 ⟨A3, n3, c3, rfl, h3, hb3⟩
        have q3 := h3.le_of _ (lty)
        go_simp
        refine hK.out _ _ (show Below wi1_3.heap.size wi1_3 w3 from bW) ?_
        clear hK K
        replace hH := Lib.hid (nx hH.out (show Below w2.heap.size w2 w3 from bW))
        try simp only [Act.put, sX, sY, sZ]
        refine anyE_done kR (fun wzE1 hbzE1 => ?_)
        refine FinD_cons (fun gEX3 X3 hgEX3 hnEX3 => ?_)
        replace X3 : Blk2 wzE1 _ _ _ _ := X3
        clear hnEX3
        refine FinD_cons (fun gEX4 X4 hgEX4 hnEX4 => ?_)
        replace X4 : Blk2 wzE1 _ _ _ _ := X4
        have nEX4X3 : gEX4 ≠ gEX3 := fun e => hnEX4 (by simp [e])
        clear hnEX4
        refine FinD_nil ?_
        try simp only [Act.put, sX, sY, sZ]
        replace h2 := (show NatAt wzE1 _ _ _ _ from h2.to bW)
        replace h3 := (show NatAt wzE1 _ _ _ _ from h3.to bW)
        have hbtE1 := Lib.hid (show Below w1.heap.size w1 wzE1 from nx hbdE1 (nx hH.out hbzE1))
        clear hH
        refine anyT_ready (rs := [6]) kR (by simp) (ReadyT.cons gO (fun K hK => ?_) ReadyT.nil)
        rw [if_pos (by rfl)]
        refine wp_store_int _ _ rfl rfl rfl X3 ?_
        replace X4 := X4.off2 (g := gEX3) nEX4X3 (.bool (bz x)) (.slice A2 n2 c2)
        replace h2 := h2.put2 X3 (.bool (bz x)) (.slice A2 n2 c2)
        replace h3 := h3.put2 X3 (.bool (bz x)) (.slice A2 n2 c2)
        replace hbtE1 := below_put2 hbtE1.out (g := gEX3) (Nat.le_trans hbdE1.size hgEX3) (.bool (bz x)) (.slice A2 n2 c2)
        replace X3 := X3.put2 (.bool (bz x)) (.slice A2 n2 c2)
        generalize put2 wzE1 gEX3 (.bool (bz x)) (.slice A2 n2 c2) = wsE2 at X3 X4 h2 h3 hbtE1 ⊢
        refine hK.out _ _ trivial (fun _ => ?_)
        clear hK K
        try simp only [Act.put, sX, sY, sZ]
        refine anyT_ready (rs := [7]) kR (by simp) (ReadyT.cons gO (fun K hK => ?_) ReadyT.nil)
        rw [if_pos (by rfl)]
        refine wp_store_int _ _ rfl rfl rfl X4 ?_
        replace X3 := X3.off2 (g := gEX4) (Ne.symm nEX4X3) (.bool (bz y)) (.slice A3 n3 c3)
        replace h2 := h2.put2 X4 (.bool (bz y)) (.slice A3 n3 c3)
        replace h3 := h3.put2 X4 (.bool (bz y)) (.slice A3 n3 c3)
        replace hbtE1 := below_put2 hbtE1 (g := gEX4) (Nat.le_trans hbdE1.size hgEX4) (.bool (bz y)) (.slice A3 n3 c3)
        replace X4 := X4.put2 (.bool (bz y)) (.slice A3 n3 c3)
        generalize put2 wsE2 gEX4 (.bool (bz y)) (.slice A3 n3 c3) = wsE3 at X4 X3 h2 h3 hbtE1 ⊢
        refine hK.out _ _ trivial (fun _ => ?_)
        clear hK K
        try simp only [Act.put, sX, sY, sZ]
        refine anyT_done kR ?_ _
        clear CX1 CX1' CX2 CX2'
        have d1 := (show Blk2 wsE3 _ _ _ _ from X3.to bW).cell
        have d1' := (show Blk2 wsE3 _ _ _ _ from X3.to bW).cell1
        have d2 := (show Blk2 wsE3 _ _ _ _ from X4.to bW).cell
        have d2' := (show Blk2 wsE3 _ _ _ _ from X4.to bW).cell1
        go_wp2_with fail
        clear d1 d1' d2 d2'
        refine (integer_Div_pos _ _ _ x _ _ _ y _ (h2.to bW) (h3.to bW) (by omega) (by omega) HP.out).mono ?_
        rw [← HQ.out, ← HR.out]
        rintro e w4 ⟨A4, n4, c4, A4', n4', c4', rfl, h4, h4', hb4⟩
        have q4 := h4.le_of _ LQ
        have q4' := h4'.le_of _ LR
        go_wp2_with fail
        have X5 := Blk2.newAt w4 (w4.heap.size) 29 (.bool (bz q)) (.slice A4 n4 c4) (by first | rfl | simp)
        have X6 := Blk2.newAt (w4.alloc (.cells #[.bool (bz q), .slice A4 n4 c4] 29)) (w4.heap.size + 1) 29 (.bool (bz r)) (.slice A4' n4' c4') (by first | rfl | simp)
        replace X5 := (show Blk2 ((w4.alloc (.cells #[.bool (bz q), .slice A4 n4 c4] 29)).alloc (.cells #[.bool (bz r), .slice A4' n4' c4'] 29)) _ _ _ _ from X5.to bW)
        have hbwe4 : Below w4.heap.size w4 ((w4.alloc (.cells #[.bool (bz q), .slice A4 n4 c4] 29)).alloc (.cells #[.bool (bz r), .slice A4' n4' c4'] 29)) := bW
        generalize ((w4.alloc (.cells #[.bool (bz q), .slice A4 n4 c4] 29)).alloc (.cells #[.bool (bz r), .slice A4' n4' c4'] 29)) = we4 at X5 X6 hbwe4  ⊢
        have CX5 := (show Blk2 we4 _ _ _ _ from X5.to bW).cell
        have CX5' := (show Blk2 we4 _ _ _ _ from X5.to bW).cell1
        have CX4 := (show Blk2 we4 _ _ _ _ from X4.to bW).cell
        have CX4' := (show Blk2 we4 _ _ _ _ from X4.to bW).cell1
        have CX6 := (show Blk2 we4 _ _ _ _ from X6.to bW).cell
        have CX6' := (show Blk2 we4 _ _ _ _ from X6.to bW).cell1
        have CX3 := (show Blk2 we4 _ _ _ _ from X3.to bW).cell
        have CX3' := (show Blk2 we4 _ _ _ _ from X3.to bW).cell1
        refine wp_regionE [] kR kR (mk_nil) (by exact fun _ _ _ _ _ h => h) (by exact fun _ _ _ _ _ h => h) (f := 29) (by rfl) ?_
        have hbdE2 : Below we4.heap.size we4 we4.drew := nxw (Below.refl _ _)
        generalize we4.drew = wdE2 at hbdE2 ⊢
        replace CX5 := cellB hbdE2 CX5
        replace CX5' := cellB hbdE2 CX5'
        replace CX4 := cellB hbdE2 CX4
        replace CX4' := cellB hbdE2 CX4'
        replace CX6 := cellB hbdE2 CX6
        replace CX6' := cellB hbdE2 CX6'
        replace CX3 := cellB hbdE2 CX3
        replace CX3' := cellB hbdE2 CX3'
        have hH := Lib.hid (Below.refl wdE2.heap.size wdE2)
        refine anyE_take (i := 0) (v := ?_) gO kR (by exact fun _ _ _ h => h) (Or.inl ⟨by rfl, ?_⟩) hH.out ?_
        rotate_left
        · intro w hSw; have c := cellB hSw CX5; have c' := cellB hSw CX5'; go_simp; try with_reducible rfl
        try simp only [Act.put, sX, sY, sZ]
        refine anyE_take (i := 1) (v := ?_) gO kR (by exact fun _ _ _ h => h) (Or.inl ⟨by rfl, ?_⟩) hH.out ?_
        rotate_left
        · intro w hSw; have c := cellB hSw CX4; have c' := cellB hSw CX4'; go_simp; try with_reducible rfl
        try simp only [Act.put, sX, sY, sZ]
        refine anyE_take (i := 3) (v := ?_) gO kR (by exact fun _ _ _ h => h) (Or.inl ⟨by rfl, ?_⟩) hH.out ?_
        rotate_left
        · intro w hSw; have c := cellB hSw CX6; have c' := cellB hSw CX6'; go_simp; try with_reducible rfl
        try simp only [Act.put, sX, sY, sZ]
        refine anyE_take (i := 5) (v := ?_) gO kR (by exact fun _ _ _ h => h) (Or.inl ⟨by rfl, ?_⟩) hH.out ?_
        rotate_left
        · intro w hSw; have c := cellB hSw CX3; have c' := cellB hSw CX3'; go_simp; try with_reducible rfl
        try simp only [Act.put, sX, sY, sZ]
        refine anyE_one (i := 2) gO kR (fun wi2_2 hbwi2_2 K hK => ?_)
        go_simp
        go_at_call 29
        have BF := zback_words DX.out ltx LR h4.2 h3.2 q4 q3
        refine (integer_Mul _ _ _ q _ _ _ y _ (h4.to bW) (h3.to bW) (by omega) (by omega)).mono ?_
        rintro e w5 ⟨A5, n5, c5, rfl, h5, hb5⟩
        have q5 := h5.le_of _ (zmul_lt h4.lt h3.lt)
        go_simp
        refine hK.out _ _ (show Below wi2_2.heap.size wi2_2 w5 from bW) ?_
        clear hK K
        replace hH := Lib.hid (nx hH.out (show Below wdE2.heap.size wdE2 w5 from bW))
        try simp only [Act.put, sX, sY, sZ]
        refine anyE_one (i := 4) gO kR (fun wi2_4 hbwi2_4 K hK => ?_)
        go_simp
        go_at_call 24
        refine (integer_Add _ _ _ (q * y) _ _ _ r _ (h5.to bW) (h4'.to bW) (by omega) (by omega)).mono ?_
        rw [DX.out]
        rintro e w6 ⟨A6, n6, c6, rfl, h6, hb6⟩
        have q6 := h6.le_of _ (ltx)
        go_simp
        refine hK.out _ _ (show Below wi2_4.heap.size wi2_4 w6 from bW) ?_
        clear hK K
        replace hH := Lib.hid (nx hH.out (show Below w5.heap.size w5 w6 from bW))
        try simp only [Act.put, sX, sY, sZ]
        refine anyE_one (i := 6) gO kR (fun wi2_6 hbwi2_6 K hK => ?_)
        go_simp
        go_at_call 23
        refine (integer_Cmp _ _ _ x _ _ _ x _ (h6.to bW) (h2.to bW)).mono ?_
        rw [cmpZ_eq (rfl)]
        rintro e w7 ⟨rfl, hb7⟩
        go_simp
        refine hK.out _ _ (show Below wi2_6.heap.size wi2_6 w7 from bW) ?_
        clear hK K
        replace hH := Lib.hid (nx hH.out (show Below w6.heap.size w6 w7 from bW))
        try simp only [Act.put, sX, sY, sZ]
        refine anyE_take (i := 7) (v := ?_) gO kR (by exact fun _ _ _ h => h) (Or.inl ⟨by rfl, ?_⟩) hH.out ?_
        rotate_left
        · intro w hSw; go_simp; try with_reducible rfl
        try simp only [Act.put, sX, sY, sZ]
        refine anyE_take (i := 8) (v := ?_) gO kR (by exact fun _ _ _ h => h) (Or.inl ⟨by rfl, ?_⟩) hH.out ?_
        rotate_left
        · intro w hSw; go_simp; try with_reducible rfl
        try simp only [Act.put, sX, sY, sZ]
        refine anyE_take (i := 9) (v := ?_) gO kR (by exact fun _ _ _ h => h) (Or.inl ⟨by rfl, ?_⟩) hH.out ?_
        rotate_left
        · intro w hSw; have c := cellB hSw CX6; have c' := cellB hSw CX6'; go_simp; try with_reducible rfl
        try simp only [Act.put, sX, sY, sZ]
        refine anyE_one (i := 10) gO kR (fun wi2_10 hbwi2_10 K hK => ?_)
        go_simp
        go_at_call 15
        refine (integer_Sign _ _ _ r _ (h4'.to bW)).mono ?_
        rw [S1.out, SY.out]
        rintro e w8 ⟨rfl, hb8⟩
        go_simp
        refine hK.out _ _ (show Below wi2_10.heap.size wi2_10 w8 from bW) ?_
        clear hK K
        replace hH := Lib.hid (nx hH.out (show Below w7.heap.size w7 w8 from bW))
        try simp only [Act.put, sX, sY, sZ]
        refine anyE_take (i := 11) (v := ?_) gO kR (by exact fun _ _ _ h => h) (Or.inl ⟨by rfl, ?_⟩) hH.out ?_
        rotate_left
        · intro w hSw; go_simp; try with_reducible rfl
        try simp only [Act.put, sX, sY, sZ]
        refine anyE_take (i := 12) (v := ?_) gO kR (by exact fun _ _ _ h => h) (Or.inl ⟨by rfl, ?_⟩) hH.out ?_
        rotate_left
        · intro w hSw; go_simp; try with_reducible rfl
        try simp only [Act.put, sX, sY, sZ]
        refine anyE_take (i := 13) (v := ?_) gO kR (by exact fun _ _ _ h => h) (Or.inl ⟨by rfl, ?_⟩) hH.out ?_
        rotate_left
        · intro w hSw; have c := cellB hSw CX6; have c' := cellB hSw CX6'; go_simp; try with_reducible rfl
        try simp only [Act.put, sX, sY, sZ]
        refine anyE_take (i := 15) (v := ?_) gO kR (by exact fun _ _ _ h => h) (Or.inl ⟨by rfl, ?_⟩) hH.out ?_
        rotate_left
        · intro w hSw; have c := cellB hSw CX4; have c' := cellB hSw CX4'; go_simp; try with_reducible rfl
        try simp only [Act.put, sX, sY, sZ]
        refine anyE_one (i := 14) gO kR (fun wi2_14 hbwi2_14 K hK => ?_)
        go_simp
        go_at_call 15
        refine (integer_Sign _ _ _ r _ (h4'.to bW)).mono ?_
        rw [S1.out, SY.out]
        rintro e w9 ⟨rfl, hb9⟩
        go_simp
        refine hK.out _ _ (show Below wi2_14.heap.size wi2_14 w9 from bW) ?_
        clear hK K
        replace hH := Lib.hid (nx hH.out (show Below w8.heap.size w8 w9 from bW))
        try simp only [Act.put, sX, sY, sZ]
        refine anyE_one (i := 16) gO kR (fun wi2_16 hbwi2_16 K hK => ?_)
        go_simp
        go_at_call 15
        refine (integer_Sign _ _ _ y _ (h3.to bW)).mono ?_
        rw [SY.out]
        rintro e w10 ⟨rfl, hb10⟩
        go_simp
        refine hK.out _ _ (show Below wi2_16.heap.size wi2_16 w10 from bW) ?_
        clear hK K
        replace hH := Lib.hid (nx hH.out (show Below w9.heap.size w9 w10 from bW))
        try simp only [Act.put, sX, sY, sZ]
        refine anyE_take (i := 17) (v := ?_) gO kR (by exact fun _ _ _ h => h) (Or.inl ⟨by rfl, ?_⟩) hH.out ?_
        rotate_left
        · intro w hSw; go_simp; try with_reducible rfl
        try simp only [Act.put, sX, sY, sZ]
        refine anyE_take (i := 18) (v := ?_) gO kR (by exact fun _ _ _ h => h) (Or.inl ⟨by rfl, ?_⟩) hH.out ?_
        rotate_left
        · intro w hSw; go_simp; try with_reducible rfl
        try simp only [Act.put, sX, sY, sZ]
        refine anyE_take (i := 19) (v := ?_) gO kR (by exact fun _ _ _ h => h) (Or.inl ⟨by rfl, ?_⟩) hH.out ?_
        rotate_left
        · intro w hSw; go_simp; try with_reducible rfl
        try simp only [Act.put, sX, sY, sZ]
        refine anyE_take (i := 20) (v := ?_) gO kR (by exact fun _ _ _ h => h) (Or.inl ⟨by rfl, ?_⟩) hH.out ?_
        rotate_left
        · intro w hSw; go_simp; try with_reducible rfl
        try simp only [Act.put, sX, sY, sZ]
        refine anyE_take (i := 21) (v := ?_) gO kR (by exact fun _ _ _ h => h) (Or.inl ⟨by rfl, ?_⟩) hH.out ?_
        rotate_left
        · intro w hSw; have c := cellB hSw CX6; have c' := cellB hSw CX6'; go_simp; try with_reducible rfl
        try simp only [Act.put, sX, sY, sZ]
        refine anyE_take (i := 23) (v := ?_) gO kR (by exact fun _ _ _ h => h) (Or.inl ⟨by rfl, ?_⟩) hH.out ?_
        rotate_left
        · intro w hSw; have c := cellB hSw CX4; have c' := cellB hSw CX4'; go_simp; try with_reducible rfl
        try simp only [Act.put, sX, sY, sZ]
        refine anyE_one (i := 22) gO kR (fun wi2_22 hbwi2_22 K hK => ?_)
        go_simp
        go_at_call 31
        refine (integer_Abs _ _ _ r _ (h4'.to bW)).mono ?_
        rintro e w11 ⟨A11, n11, c11, rfl, h11, hb11⟩
        have q11 := h11.le_of _ h4'.lt
        go_simp
        refine hK.out _ _ (show Below wi2_22.heap.size wi2_22 w11 from bW) ?_
        clear hK K
        replace hH := Lib.hid (nx hH.out (show Below w10.heap.size w10 w11 from bW))
        try simp only [Act.put, sX, sY, sZ]
        refine anyE_one (i := 24) gO kR (fun wi2_24 hbwi2_24 K hK => ?_)
        go_simp
        go_at_call 31
        refine (integer_Abs _ _ _ y _ (h3.to bW)).mono ?_
        rintro e w12 ⟨A12, n12, c12, rfl, h12, hb12⟩
        have q12 := h12.le_of _ h3.lt
        go_simp
        refine hK.out _ _ (show Below wi2_24.heap.size wi2_24 w12 from bW) ?_
        clear hK K
        replace hH := Lib.hid (nx hH.out (show Below w11.heap.size w11 w12 from bW))
        try simp only [Act.put, sX, sY, sZ]
        refine anyE_one (i := 25) gO kR (fun wi2_25 hbwi2_25 K hK => ?_)
        go_simp
        go_at_call 30
        (with_reducible refine (nat_Cmp _ _ _ _ _ _ _ _ _ (h11.to bW) (h12.to bW)).mono ?_)
        rw [cmpI_lt LB]
        rintro e w13 ⟨rfl, hb13⟩
        go_simp
        refine hK.out _ _ (show Below wi2_25.heap.size wi2_25 w13 from bW) ?_
        clear hK K
        replace hH := Lib.hid (nx hH.out (show Below w12.heap.size w12 w13 from bW))
        try simp only [Act.put, sX, sY, sZ]
        refine anyE_take (i := 26) (v := ?_) gO kR (by exact fun _ _ _ h => h) (Or.inl ⟨by rfl, ?_⟩) hH.out ?_
        rotate_left
        · intro w hSw; go_simp; try with_reducible rfl
        try simp only [Act.put, sX, sY, sZ]
        refine anyE_take (i := 27) (v := ?_) gO kR (by exact fun _ _ _ h => h) (Or.inl ⟨by rfl, ?_⟩) hH.out ?_
        rotate_left
        · intro w hSw; go_simp; try with_reducible rfl
        try simp only [Act.put, sX, sY, sZ]
        refine anyE_take (i := 28) (v := ?_) gO kR (by exact fun _ _ _ h => h) (Or.inl ⟨by rfl, ?_⟩) hH.out ?_
        rotate_left
        · intro w hSw; go_simp; try with_reducible rfl
        try simp only [Act.put, sX, sY, sZ]
        refine anyE_done kR (fun wzE2 hbzE2 => ?_)
        refine FinD_nil ?_
        try simp only [Act.put, sX, sY, sZ]
        have hbtE2 := Lib.hid (show Below we4.heap.size we4 wzE2 from nx hbdE2 (nx hH.out hbzE2))
        clear hH
        refine anyT_done kR ?_ _
        clear CX5 CX5' CX4 CX4' CX6 CX6' CX3 CX3'
        go_wp2_with fail
        go_ret
        exact ⟨rfl, bW⟩
      · exact absurd HP.out (by omega)
      · have SY := Lib.hid (show sgn y = -1 from cmpZ_lt hs)
        clear hs
        go_enter Try.func9, Try.ntmps9
        go_wp2_with fail
        have X1 := Blk2.newAt w (w.heap.size) 24 (.bool b) (.slice A n c) (by first | rfl | simp)
        have X2 := Blk2.newAt (w.alloc (.cells #[.bool b, .slice A n c] 24)) (w.heap.size + 1) 24 (.bool b') (.slice A' n' c') (by first | rfl | simp)
        replace X1 := (show Blk2 ((w.alloc (.cells #[.bool b, .slice A n c] 24)).alloc (.cells #[.bool b', .slice A' n' c'] 24)) _ _ _ _ from X1.to bW)
        have hbwe1 : Below w.heap.size w ((w.alloc (.cells #[.bool b, .slice A n c] 24)).alloc (.cells #[.bool b', .slice A' n' c'] 24)) := bW
        generalize ((w.alloc (.cells #[.bool b, .slice A n c] 24)).alloc (.cells #[.bool b', .slice A' n' c'] 24)) = we1 at X1 X2 hbwe1  ⊢
        refine (awake7 _).mono ?_
        rintro e w1 ⟨rfl, hb1⟩
        go_wp2_with fail
        have CX1 := (show Blk2 w1 _ _ _ _ from X1.to bW).cell
        have CX1' := (show Blk2 w1 _ _ _ _ from X1.to bW).cell1
        have CX2 := (show Blk2 w1 _ _ _ _ from X2.to bW).cell
        have CX2' := (show Blk2 w1 _ _ _ _ from X2.to bW).cell1
        refine wp_regionE [(4, 5, 29, #[.bool false, .slice none 0 0]), (5, 6, 29, #[.bool false, .slice none 0 0])] kR kR (mk_cons (mk_int gO rfl rfl rfl) (mk_cons (mk_int gO rfl rfl rfl) (mk_nil))) (by exact fun _ _ _ _ _ h => h) (by exact fun _ _ _ _ _ h => h) (f := 6) (by rfl) ?_
        have hbdE1 : Below w1.heap.size w1 w1.drew := nxw (Below.refl _ _)
        generalize w1.drew = wdE1 at hbdE1 ⊢
        replace CX1 := cellB hbdE1 CX1
        replace CX1' := cellB hbdE1 CX1'
        replace CX2 := cellB hbdE1 CX2
        replace CX2' := cellB hbdE1 CX2'
        have hH := Lib.hid (Below.refl wdE1.heap.size wdE1)
        refine anyE_take (i := 0) (v := ?_) gO kR (by exact fun _ _ _ h => h) (Or.inl ⟨by rfl, ?_⟩) hH.out ?_
        rotate_left
        · intro w hSw; have c := cellB hSw CX1; have c' := cellB hSw CX1'; go_simp; try with_reducible rfl
        try simp only [Act.put, sX, sY, sZ]
        refine anyE_take (i := 2) (v := ?_) gO kR (by exact fun _ _ _ h => h) (Or.inl ⟨by rfl, ?_⟩) hH.out ?_
        rotate_left
        · intro w hSw; have c := cellB hSw CX2; have c' := cellB hSw CX2'; go_simp; try with_reducible rfl
        try simp only [Act.put, sX, sY, sZ]
        refine anyE_one (i := 1) gO kR (fun wi1_1 hbwi1_1 K hK => ?_)
        go_simp
        go_at_call 12
        refine (law7_Make b _ _ _ u _ (k1.to bW) (by omega)).mono ?_
        rw [← HSx.out]
        rintro e w2 ⟨A2, n2, c2, rfl, h2, hb2⟩
        have q2 := h2.le_of _ (ltx)
        go_simp
        refine hK.out _ _ (show Below wi1_1.heap.size wi1_1 w2 from bW) ?_
        clear hK K
        replace hH := Lib.hid (nx hH.out (show Below wdE1.heap.size wdE1 w2 from bW))
        try simp only [Act.put, sX, sY, sZ]
        refine anyE_one (i := 3) gO kR (fun wi1_3 hbwi1_3 K hK => ?_)
        go_simp
        go_at_call 12
        refine (law7_Make b' _ _ _ v _ (k2.to bW) (by omega)).mono ?_
        rw [← HSy.out]
        rintro e w3 ⟨A3, n3, c3, rfl, h3, hb3⟩
        have q3 := h3.le_of _ (lty)
        go_simp
        refine hK.out _ _ (show Below wi1_3.heap.size wi1_3 w3 from bW) ?_
        clear hK K
        replace hH := Lib.hid (nx hH.out (show Below w2.heap.size w2 w3 from bW))
        try simp only [Act.put, sX, sY, sZ]
        refine anyE_done kR (fun wzE1 hbzE1 => ?_)
        refine FinD_cons (fun gEX3 X3 hgEX3 hnEX3 => ?_)
        replace X3 : Blk2 wzE1 _ _ _ _ := X3
        clear hnEX3
        refine FinD_cons (fun gEX4 X4 hgEX4 hnEX4 => ?_)
        replace X4 : Blk2 wzE1 _ _ _ _ := X4
        have nEX4X3 : gEX4 ≠ gEX3 := fun e => hnEX4 (by simp [e])
        clear hnEX4
        refine FinD_nil ?_
        try simp only [Act.put, sX, sY, sZ]
        replace h2 := (show NatAt wzE1 _ _ _ _ from h2.to bW)
        replace h3 := (show NatAt wzE1 _ _ _ _ from h3.to bW)
        have hbtE1 := Lib.hid (show Below w1.heap.size w1 wzE1 from nx hbdE1 (nx hH.out hbzE1))
        clear hH
        refine anyT_ready (rs := [6]) kR (by simp) (ReadyT.cons gO (fun K hK => ?_) ReadyT.nil)
        rw [if_pos (by rfl)]
        refine wp_store_int _ _ rfl rfl rfl X3 ?_
        replace X4 := X4.off2 (g := gEX3) nEX4X3 (.bool (bz x)) (.slice A2 n2 c2)
        replace h2 := h2.put2 X3 (.bool (bz x)) (.slice A2 n2 c2)
        replace h3 := h3.put2 X3 (.bool (bz x)) (.slice A2 n2 c2)
        replace hbtE1 := below_put2 hbtE1.out (g := gEX3) (Nat.le_trans hbdE1.size hgEX3) (.bool (bz x)) (.slice A2 n2 c2)
        replace X3 := X3.put2 (.bool (bz x)) (.slice A2 n2 c2)
        generalize put2 wzE1 gEX3 (.bool (bz x)) (.slice A2 n2 c2) = wsE2 at X3 X4 h2 h3 hbtE1 ⊢
        refine hK.out _ _ trivial (fun _ => ?_)
        clear hK K
        try simp only [Act.put, sX, sY, sZ]
        refine anyT_ready (rs := [7]) kR (by simp) (ReadyT.cons gO (fun K hK => ?_) ReadyT.nil)
        rw [if_pos (by rfl)]
        refine wp_store_int _ _ rfl rfl rfl X4 ?_
        replace X3 := X3.off2 (g := gEX4) (Ne.symm nEX4X3) (.bool (bz y)) (.slice A3 n3 c3)
        replace h2 := h2.put2 X4 (.bool (bz y)) (.slice A3 n3 c3)
        replace h3 := h3.put2 X4 (.bool (bz y)) (.slice A3 n3 c3)
        replace hbtE1 := below_put2 hbtE1 (g := gEX4) (Nat.le_trans hbdE1.size hgEX4) (.bool (bz y)) (.slice A3 n3 c3)
        replace X4 := X4.put2 (.bool (bz y)) (.slice A3 n3 c3)
        generalize put2 wsE2 gEX4 (.bool (bz y)) (.slice A3 n3 c3) = wsE3 at X4 X3 h2 h3 hbtE1 ⊢
        refine hK.out _ _ trivial (fun _ => ?_)
        clear hK K
        try simp only [Act.put, sX, sY, sZ]
        refine anyT_done kR ?_ _
        clear CX1 CX1' CX2 CX2'
        have d1 := (show Blk2 wsE3 _ _ _ _ from X3.to bW).cell
        have d1' := (show Blk2 wsE3 _ _ _ _ from X3.to bW).cell1
        have d2 := (show Blk2 wsE3 _ _ _ _ from X4.to bW).cell
        have d2' := (show Blk2 wsE3 _ _ _ _ from X4.to bW).cell1
        go_wp2_with fail
        clear d1 d1' d2 d2'
        refine (integer_Div_pos _ _ _ x _ _ _ y _ (h2.to bW) (h3.to bW) (by omega) (by omega) HP.out).mono ?_
        rw [← HQ.out, ← HR.out]
        rintro e w4 ⟨A4, n4, c4, A4', n4', c4', rfl, h4, h4', hb4⟩
        have q4 := h4.le_of _ LQ
        have q4' := h4'.le_of _ LR
        go_wp2_with fail
        have X5 := Blk2.newAt w4 (w4.heap.size) 29 (.bool (bz q)) (.slice A4 n4 c4) (by first | rfl | simp)
        have X6 := Blk2.newAt (w4.alloc (.cells #[.bool (bz q), .slice A4 n4 c4] 29)) (w4.heap.size + 1) 29 (.bool (bz r)) (.slice A4' n4' c4') (by first | rfl | simp)
        replace X5 := (show Blk2 ((w4.alloc (.cells #[.bool (bz q), .slice A4 n4 c4] 29)).alloc (.cells #[.bool (bz r), .slice A4' n4' c4'] 29)) _ _ _ _ from X5.to bW)
        have hbwe4 : Below w4.heap.size w4 ((w4.alloc (.cells #[.bool (bz q), .slice A4 n4 c4] 29)).alloc (.cells #[.bool (bz r), .slice A4' n4' c4'] 29)) := bW
        generalize ((w4.alloc (.cells #[.bool (bz q), .slice A4 n4 c4] 29)).alloc (.cells #[.bool (bz r), .slice A4' n4' c4'] 29)) = we4 at X5 X6 hbwe4  ⊢
        have CX5 := (show Blk2 we4 _ _ _ _ from X5.to bW).cell
        have CX5' := (show Blk2 we4 _ _ _ _ from X5.to bW).cell1
        have CX4 := (show Blk2 we4 _ _ _ _ from X4.to bW).cell
        have CX4' := (show Blk2 we4 _ _ _ _ from X4.to bW).cell1
        have CX6 := (show Blk2 we4 _ _ _ _ from X6.to bW).cell
        have CX6' := (show Blk2 we4 _ _ _ _ from X6.to bW).cell1
        have CX3 := (show Blk2 we4 _ _ _ _ from X3.to bW).cell
        have CX3' := (show Blk2 we4 _ _ _ _ from X3.to bW).cell1
        refine wp_regionE [] kR kR (mk_nil) (by exact fun _ _ _ _ _ h => h) (by exact fun _ _ _ _ _ h => h) (f := 29) (by rfl) ?_
        have hbdE2 : Below we4.heap.size we4 we4.drew := nxw (Below.refl _ _)
        generalize we4.drew = wdE2 at hbdE2 ⊢
        replace CX5 := cellB hbdE2 CX5
        replace CX5' := cellB hbdE2 CX5'
        replace CX4 := cellB hbdE2 CX4
        replace CX4' := cellB hbdE2 CX4'
        replace CX6 := cellB hbdE2 CX6
        replace CX6' := cellB hbdE2 CX6'
        replace CX3 := cellB hbdE2 CX3
        replace CX3' := cellB hbdE2 CX3'
        have hH := Lib.hid (Below.refl wdE2.heap.size wdE2)
        refine anyE_take (i := 0) (v := ?_) gO kR (by exact fun _ _ _ h => h) (Or.inl ⟨by rfl, ?_⟩) hH.out ?_
        rotate_left
        · intro w hSw; have c := cellB hSw CX5; have c' := cellB hSw CX5'; go_simp; try with_reducible rfl
        try simp only [Act.put, sX, sY, sZ]
        refine anyE_take (i := 1) (v := ?_) gO kR (by exact fun _ _ _ h => h) (Or.inl ⟨by rfl, ?_⟩) hH.out ?_
        rotate_left
        · intro w hSw; have c := cellB hSw CX4; have c' := cellB hSw CX4'; go_simp; try with_reducible rfl
        try simp only [Act.put, sX, sY, sZ]
        refine anyE_take (i := 3) (v := ?_) gO kR (by exact fun _ _ _ h => h) (Or.inl ⟨by rfl, ?_⟩) hH.out ?_
        rotate_left
        · intro w hSw; have c := cellB hSw CX6; have c' := cellB hSw CX6'; go_simp; try with_reducible rfl
        try simp only [Act.put, sX, sY, sZ]
        refine anyE_take (i := 5) (v := ?_) gO kR (by exact fun _ _ _ h => h) (Or.inl ⟨by rfl, ?_⟩) hH.out ?_
        rotate_left
        · intro w hSw; have c := cellB hSw CX3; have c' := cellB hSw CX3'; go_simp; try with_reducible rfl
        try simp only [Act.put, sX, sY, sZ]
        refine anyE_one (i := 2) gO kR (fun wi2_2 hbwi2_2 K hK => ?_)
        go_simp
        go_at_call 29
        have BF := zback_words DX.out ltx LR h4.2 h3.2 q4 q3
        refine (integer_Mul _ _ _ q _ _ _ y _ (h4.to bW) (h3.to bW) (by omega) (by omega)).mono ?_
        rintro e w5 ⟨A5, n5, c5, rfl, h5, hb5⟩
        have q5 := h5.le_of _ (zmul_lt h4.lt h3.lt)
        go_simp
        refine hK.out _ _ (show Below wi2_2.heap.size wi2_2 w5 from bW) ?_
        clear hK K
        replace hH := Lib.hid (nx hH.out (show Below wdE2.heap.size wdE2 w5 from bW))
        try simp only [Act.put, sX, sY, sZ]
        refine anyE_one (i := 4) gO kR (fun wi2_4 hbwi2_4 K hK => ?_)
        go_simp
        go_at_call 24
        refine (integer_Add _ _ _ (q * y) _ _ _ r _ (h5.to bW) (h4'.to bW) (by omega) (by omega)).mono ?_
        rw [DX.out]
        rintro e w6 ⟨A6, n6, c6, rfl, h6, hb6⟩
        have q6 := h6.le_of _ (ltx)
        go_simp
        refine hK.out _ _ (show Below wi2_4.heap.size wi2_4 w6 from bW) ?_
        clear hK K
        replace hH := Lib.hid (nx hH.out (show Below w5.heap.size w5 w6 from bW))
        try simp only [Act.put, sX, sY, sZ]
        refine anyE_one (i := 6) gO kR (fun wi2_6 hbwi2_6 K hK => ?_)
        go_simp
        go_at_call 23
        refine (integer_Cmp _ _ _ x _ _ _ x _ (h6.to bW) (h2.to bW)).mono ?_
        rw [cmpZ_eq (rfl)]
        rintro e w7 ⟨rfl, hb7⟩
        go_simp
        refine hK.out _ _ (show Below wi2_6.heap.size wi2_6 w7 from bW) ?_
        clear hK K
        replace hH := Lib.hid (nx hH.out (show Below w6.heap.size w6 w7 from bW))
        try simp only [Act.put, sX, sY, sZ]
        refine anyE_take (i := 7) (v := ?_) gO kR (by exact fun _ _ _ h => h) (Or.inl ⟨by rfl, ?_⟩) hH.out ?_
        rotate_left
        · intro w hSw; go_simp; try with_reducible rfl
        try simp only [Act.put, sX, sY, sZ]
        refine anyE_take (i := 8) (v := ?_) gO kR (by exact fun _ _ _ h => h) (Or.inl ⟨by rfl, ?_⟩) hH.out ?_
        rotate_left
        · intro w hSw; go_simp; try with_reducible rfl
        try simp only [Act.put, sX, sY, sZ]
        refine anyE_take (i := 9) (v := ?_) gO kR (by exact fun _ _ _ h => h) (Or.inl ⟨by rfl, ?_⟩) hH.out ?_
        rotate_left
        · intro w hSw; have c := cellB hSw CX6; have c' := cellB hSw CX6'; go_simp; try with_reducible rfl
        try simp only [Act.put, sX, sY, sZ]
        refine anyE_one (i := 10) gO kR (fun wi2_10 hbwi2_10 K hK => ?_)
        go_simp
        go_at_call 15
        refine (integer_Sign _ _ _ r _ (h4'.to bW)).mono ?_
        rw [S1.out, SY.out]
        rintro e w8 ⟨rfl, hb8⟩
        go_simp
        refine hK.out _ _ (show Below wi2_10.heap.size wi2_10 w8 from bW) ?_
        clear hK K
        replace hH := Lib.hid (nx hH.out (show Below w7.heap.size w7 w8 from bW))
        try simp only [Act.put, sX, sY, sZ]
        refine anyE_take (i := 11) (v := ?_) gO kR (by exact fun _ _ _ h => h) (Or.inl ⟨by rfl, ?_⟩) hH.out ?_
        rotate_left
        · intro w hSw; go_simp; try with_reducible rfl
        try simp only [Act.put, sX, sY, sZ]
        refine anyE_take (i := 12) (v := ?_) gO kR (by exact fun _ _ _ h => h) (Or.inl ⟨by rfl, ?_⟩) hH.out ?_
        rotate_left
        · intro w hSw; go_simp; try with_reducible rfl
        try simp only [Act.put, sX, sY, sZ]
        refine anyE_take (i := 13) (v := ?_) gO kR (by exact fun _ _ _ h => h) (Or.inl ⟨by rfl, ?_⟩) hH.out ?_
        rotate_left
        · intro w hSw; have c := cellB hSw CX6; have c' := cellB hSw CX6'; go_simp; try with_reducible rfl
        try simp only [Act.put, sX, sY, sZ]
        refine anyE_take (i := 15) (v := ?_) gO kR (by exact fun _ _ _ h => h) (Or.inl ⟨by rfl, ?_⟩) hH.out ?_
        rotate_left
        · intro w hSw; have c := cellB hSw CX4; have c' := cellB hSw CX4'; go_simp; try with_reducible rfl
        try simp only [Act.put, sX, sY, sZ]
        refine anyE_one (i := 14) gO kR (fun wi2_14 hbwi2_14 K hK => ?_)
        go_simp
        go_at_call 15
        refine (integer_Sign _ _ _ r _ (h4'.to bW)).mono ?_
        rw [S1.out, SY.out]
        rintro e w9 ⟨rfl, hb9⟩
        go_simp
        refine hK.out _ _ (show Below wi2_14.heap.size wi2_14 w9 from bW) ?_
        clear hK K
        replace hH := Lib.hid (nx hH.out (show Below w8.heap.size w8 w9 from bW))
        try simp only [Act.put, sX, sY, sZ]
        refine anyE_one (i := 16) gO kR (fun wi2_16 hbwi2_16 K hK => ?_)
        go_simp
        go_at_call 15
        refine (integer_Sign _ _ _ y _ (h3.to bW)).mono ?_
        rw [SY.out]
        rintro e w10 ⟨rfl, hb10⟩
        go_simp
        refine hK.out _ _ (show Below wi2_16.heap.size wi2_16 w10 from bW) ?_
        clear hK K
        replace hH := Lib.hid (nx hH.out (show Below w9.heap.size w9 w10 from bW))
        try simp only [Act.put, sX, sY, sZ]
        refine anyE_take (i := 17) (v := ?_) gO kR (by exact fun _ _ _ h => h) (Or.inl ⟨by rfl, ?_⟩) hH.out ?_
        rotate_left
        · intro w hSw; go_simp; try with_reducible rfl
        try simp only [Act.put, sX, sY, sZ]
        refine anyE_take (i := 18) (v := ?_) gO kR (by exact fun _ _ _ h => h) (Or.inl ⟨by rfl, ?_⟩) hH.out ?_
        rotate_left
        · intro w hSw; go_simp; try with_reducible rfl
        try simp only [Act.put, sX, sY, sZ]
        refine anyE_take (i := 19) (v := ?_) gO kR (by exact fun _ _ _ h => h) (Or.inl ⟨by rfl, ?_⟩) hH.out ?_
        rotate_left
        · intro w hSw; go_simp; try with_reducible rfl
        try simp only [Act.put, sX, sY, sZ]
        refine anyE_take (i := 20) (v := ?_) gO kR (by exact fun _ _ _ h => h) (Or.inl ⟨by rfl, ?_⟩) hH.out ?_
        rotate_left
        · intro w hSw; go_simp; try with_reducible rfl
        try simp only [Act.put, sX, sY, sZ]
        refine anyE_take (i := 21) (v := ?_) gO kR (by exact fun _ _ _ h => h) (Or.inl ⟨by rfl, ?_⟩) hH.out ?_
        rotate_left
        · intro w hSw; have c := cellB hSw CX6; have c' := cellB hSw CX6'; go_simp; try with_reducible rfl
        try simp only [Act.put, sX, sY, sZ]
        refine anyE_take (i := 23) (v := ?_) gO kR (by exact fun _ _ _ h => h) (Or.inl ⟨by rfl, ?_⟩) hH.out ?_
        rotate_left
        · intro w hSw; have c := cellB hSw CX4; have c' := cellB hSw CX4'; go_simp; try with_reducible rfl
        try simp only [Act.put, sX, sY, sZ]
        refine anyE_one (i := 22) gO kR (fun wi2_22 hbwi2_22 K hK => ?_)
        go_simp
        go_at_call 31
        refine (integer_Abs _ _ _ r _ (h4'.to bW)).mono ?_
        rintro e w11 ⟨A11, n11, c11, rfl, h11, hb11⟩
        have q11 := h11.le_of _ h4'.lt
        go_simp
        refine hK.out _ _ (show Below wi2_22.heap.size wi2_22 w11 from bW) ?_
        clear hK K
        replace hH := Lib.hid (nx hH.out (show Below w10.heap.size w10 w11 from bW))
        try simp only [Act.put, sX, sY, sZ]
        refine anyE_one (i := 24) gO kR (fun wi2_24 hbwi2_24 K hK => ?_)
        go_simp
        go_at_call 31
        refine (integer_Abs _ _ _ y _ (h3.to bW)).mono ?_
        rintro e w12 ⟨A12, n12, c12, rfl, h12, hb12⟩
        have q12 := h12.le_of _ h3.lt
        go_simp
        refine hK.out _ _ (show Below wi2_24.heap.size wi2_24 w12 from bW) ?_
        clear hK K
        replace hH := Lib.hid (nx hH.out (show Below w11.heap.size w11 w12 from bW))
        try simp only [Act.put, sX, sY, sZ]
        refine anyE_one (i := 25) gO kR (fun wi2_25 hbwi2_25 K hK => ?_)
        go_simp
        go_at_call 30
        (with_reducible refine (nat_Cmp _ _ _ _ _ _ _ _ _ (h11.to bW) (h12.to bW)).mono ?_)
        rw [cmpI_lt LB]
        rintro e w13 ⟨rfl, hb13⟩
        go_simp
        refine hK.out _ _ (show Below wi2_25.heap.size wi2_25 w13 from bW) ?_
        clear hK K
        replace hH := Lib.hid (nx hH.out (show Below w12.heap.size w12 w13 from bW))
        try simp only [Act.put, sX, sY, sZ]
        refine anyE_take (i := 26) (v := ?_) gO kR (by exact fun _ _ _ h => h) (Or.inl ⟨by rfl, ?_⟩) hH.out ?_
        rotate_left
        · intro w hSw; go_simp; try with_reducible rfl
        try simp only [Act.put, sX, sY, sZ]
        refine anyE_take (i := 27) (v := ?_) gO kR (by exact fun _ _ _ h => h) (Or.inl ⟨by rfl, ?_⟩) hH.out ?_
        rotate_left
        · intro w hSw; go_simp; try with_reducible rfl
        try simp only [Act.put, sX, sY, sZ]
        refine anyE_take (i := 28) (v := ?_) gO kR (by exact fun _ _ _ h => h) (Or.inl ⟨by rfl, ?_⟩) hH.out ?_
        rotate_left
        · intro w hSw; go_simp; try with_reducible rfl
        try simp only [Act.put, sX, sY, sZ]
        refine anyE_done kR (fun wzE2 hbzE2 => ?_)
        refine FinD_nil ?_
        try simp only [Act.put, sX, sY, sZ]
        have hbtE2 := Lib.hid (show Below we4.heap.size we4 wzE2 from nx hbdE2 (nx hH.out hbzE2))
        clear hH
        refine anyT_done kR ?_ _
        clear CX5 CX5' CX4 CX4' CX6 CX6' CX3 CX3'
        go_wp2_with fail
        go_ret
        exact ⟨rfl, bW⟩
end Go.Proofs.Ytihbpkljjmpkjaa
