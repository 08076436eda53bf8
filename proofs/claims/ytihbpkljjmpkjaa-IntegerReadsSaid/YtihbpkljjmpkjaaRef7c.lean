/- The walks of actuaryref07, second part: Cmp, Div. -/
import Derived.Test.YtihbpkljjmpkjaaRef7
import Derived.Test.YtihbpkljjmpkjaaKJ
import Derived.Test.YtihbpkljjmpkjaaInt4
import Derived.Test.YtihbpkljjmpkjaaRef3p
set_option linter.unusedVariables false
set_option linter.unusedSimpArgs false
namespace Go.Proofs.Ytihbpkljjmpkjaa
open Go.RowKit
set_option maxRecDepth 100000
def RetZ2 (w : World) (q r : Int) (e : Ending) (w' : World) : Prop := ∃ A n c A' n' c', e = .returned (.tuple #[.agg #[.bool (bz q), .slice A n c], .agg #[.bool (bz r), .slice A' n' c']]) ∧ NumAt .i64 65536 w' A n c q.natAbs ∧ NumAt .i64 65536 w' A' n' c' r.natAbs ∧ Below w.heap.size w w'
set_option maxHeartbeats 4000000 in
theorem ref7_Cmp (A : Option Addr) (n c : Nat) (x : Int) (A' : Option Addr) (n' c' : Nat) (y : Int) (w : World) (h : NumAt .i64 65536 w A n c x.natAbs) (h' : NumAt .i64 65536 w A' n' c' y.natAbs) (hn : n ≤ 900000000) (hn' : n' ≤ 900000000) :
    Calls Try.prog 35 #[.agg #[.bool (bz x), .slice A n c], .agg #[.bool (bz y), .slice A' n' c']] w (Ret w (.int .i64 (cmpZ x y))) := by
  rw [cmpZ_sub]
  obtain ⟨d, hd⟩ : ∃ d, d = x - y := ⟨_, rfl⟩
  rw [← hd]
  have HD := Lib.hid hd
  clear hd
  rcases Int.lt_or_le d 0 with h0 | h0
  · have HC := Lib.hid (cmpZ_lt h0)
    have HB0 := Lib.hid (bz_true.2 h0)
    rw [HC.out]
    clear h0
    go_enter Try.func35, Try.ntmps35
    go_wp2_with fail
    have X1 := Blk2.newAt w (w.heap.size) 34 (.bool (bz x)) (.slice A n c) (by first | rfl | simp)
    have X2 := Blk2.newAt (w.alloc (.cells #[.bool (bz x), .slice A n c] 34)) (w.heap.size + 1) 34 (.bool (bz y)) (.slice A' n' c') (by first | rfl | simp)
    replace X1 := (show Blk2 ((w.alloc (.cells #[.bool (bz x), .slice A n c] 34)).alloc (.cells #[.bool (bz y), .slice A' n' c'] 34)) _ _ _ _ from X1.to bW)
    have hbwe1 : Below w.heap.size w ((w.alloc (.cells #[.bool (bz x), .slice A n c] 34)).alloc (.cells #[.bool (bz y), .slice A' n' c'] 34)) := bW
    generalize ((w.alloc (.cells #[.bool (bz x), .slice A n c] 34)).alloc (.cells #[.bool (bz y), .slice A' n' c'] 34)) = we1 at X1 X2 hbwe1  ⊢
    have CX1 := (show Blk2 we1 _ _ _ _ from X1.to bW).cell
    have CX1' := (show Blk2 we1 _ _ _ _ from X1.to bW).cell1
    have CX2 := (show Blk2 we1 _ _ _ _ from X2.to bW).cell
    have CX2' := (show Blk2 we1 _ _ _ _ from X2.to bW).cell1
    refine wp_regionE [(4, 5, 34, #[.bool false, .slice none 0 0])] kR kR (mk_cons (mk_z gO rfl rfl rfl) (mk_nil)) (by exact fun _ _ _ _ _ h => h) (by exact fun _ _ _ _ _ h => h) (f := 5) (by rfl) ?_
    have hbdE1 : Below we1.heap.size we1 we1.drew := nxw (Below.refl _ _)
    generalize we1.drew = wdE1 at hbdE1 ⊢
    replace CX1 := cellB hbdE1 CX1
    replace CX1' := cellB hbdE1 CX1'
    replace CX2 := cellB hbdE1 CX2
    replace CX2' := cellB hbdE1 CX2'
    have ltX1_wdE1 : w.heap.size < wdE1.heap.size := (show Blk2 wdE1 _ _ _ _ from X1.to bW).lt
    have ltX2_wdE1 : w.heap.size + 1 < wdE1.heap.size := (show Blk2 wdE1 _ _ _ _ from X2.to bW).lt
    have hH := Lib.hid (Below.refl wdE1.heap.size wdE1)
    refine anyE_take (i := 0) (v := ?_) gO kR (by exact fun _ _ _ h => h) (Or.inl ⟨by rfl, ?_⟩) hH.out ?_
    rotate_left
    · intro w hSw; have c := cellB hSw CX1; have c' := cellB hSw CX1'; go_simp; try with_reducible rfl
    try simp only [Act.put, sX, sY, sZ]
    refine anyE_take (i := 1) (v := ?_) gO kR (by exact fun _ _ _ h => h) (Or.inl ⟨by rfl, ?_⟩) hH.out ?_
    rotate_left
    · intro w hSw; have c := cellB hSw CX2; have c' := cellB hSw CX2'; go_simp; try with_reducible rfl
    try simp only [Act.put, sX, sY, sZ]
    refine anyE_one (i := 2) gO kR (fun wi1_2 hbwi1_2 K hK => ?_)
    go_simp
    go_at_call 32
    refine (ref7_Neg _ _ _ y _ (h'.to bW)).mono ?_
    rintro e w1 ⟨A1, n1, c1, rfl, h1, hb1⟩
    have l1 := h1.le_of (by decide) _ (show (-y).natAbs < _ by rw [Int.natAbs_neg]; exact h'.lt)
    go_simp
    refine hK.out _ _ (show Below wi1_2.heap.size wi1_2 w1 from bW) ?_
    clear hK K
    replace hH := Lib.hid (nx hH.out (show Below wdE1.heap.size wdE1 w1 from bW))
    try simp only [Act.put, sX, sY, sZ]
    refine anyE_one (i := 3) gO kR (fun wi1_3 hbwi1_3 K hK => ?_)
    go_simp
    go_at_call 33
    refine (ref7_Add _ _ _ x _ _ _ (-y) _ (h.to bW) (h1.to bW) (by omega) (by omega)).mono ?_
    rw [show x + -y = d by rw [HD.out, Int.sub_eq_add_neg]]
    rintro e w2 ⟨A2, n2, c2, rfl, h2, hb2⟩
    go_simp
    refine hK.out _ _ (show Below wi1_3.heap.size wi1_3 w2 from bW) ?_
    clear hK K
    replace hH := Lib.hid (nx hH.out (show Below w1.heap.size w1 w2 from bW))
    try simp only [Act.put, sX, sY, sZ]
    refine anyE_done kR (fun wzE1 hbzE1 => ?_)
    refine FinD_cons (fun gEX3 X3 hgEX3 hnEX3 => ?_)
    replace X3 : Blk2 wzE1 _ _ _ _ := X3
    clear hnEX3
    refine FinD_nil ?_
    try simp only [Act.put, sX, sY, sZ]
    replace h2 := (show NumAt _ _ wzE1 _ _ _ _ from h2.to bW)
    have hbtE1 := Lib.hid (show Below we1.heap.size we1 wzE1 from nx hbdE1 (nx hH.out hbzE1))
    clear hH
    refine anyT_ready (rs := [5]) kR (by simp) (ReadyT.cons gO (fun K hK => ?_) ReadyT.nil)
    rw [if_pos (by rfl)]
    refine wp_store_z _ _ rfl rfl rfl X3 ?_
    replace h2 := h2.put2 X3 (.bool (bz d)) (.slice A2 n2 c2)
    replace hbtE1 := below_put2 hbtE1.out (g := gEX3) (Nat.le_trans hbdE1.size hgEX3) (.bool (bz d)) (.slice A2 n2 c2)
    replace X3 := X3.put2 (.bool (bz d)) (.slice A2 n2 c2)
    generalize put2 wzE1 gEX3 (.bool (bz d)) (.slice A2 n2 c2) = wsE2 at X3 h2 hbtE1 ⊢
    refine hK.out _ _ trivial (fun _ => ?_)
    clear hK K
    try simp only [Act.put, sX, sY, sZ]
    refine anyT_done kR ?_ _
    clear CX1 CX1' CX2 CX2'
    have hb0 := HB0.out
    have d1 := (show Blk2 wsE2 _ _ _ _ from X3.to bW).cell
    have d1' := (show Blk2 wsE2 _ _ _ _ from X3.to bW).cell1
    go_wp2_with fail
    clear d1 d1'
    go_ret
    exact ⟨rfl, bW⟩
  · have HB0 := Lib.hid (bz_false.2 h0)
    by_cases h1 : d = 0
    · have HC := Lib.hid (cmpZ_eq h1)
      have HQ := Lib.hid h1
      clear h1
      rw [HC.out]
      clear h0
      go_enter Try.func35, Try.ntmps35
      go_wp2_with fail
      have X1 := Blk2.newAt w (w.heap.size) 34 (.bool (bz x)) (.slice A n c) (by first | rfl | simp)
      have X2 := Blk2.newAt (w.alloc (.cells #[.bool (bz x), .slice A n c] 34)) (w.heap.size + 1) 34 (.bool (bz y)) (.slice A' n' c') (by first | rfl | simp)
      replace X1 := (show Blk2 ((w.alloc (.cells #[.bool (bz x), .slice A n c] 34)).alloc (.cells #[.bool (bz y), .slice A' n' c'] 34)) _ _ _ _ from X1.to bW)
      have hbwe1 : Below w.heap.size w ((w.alloc (.cells #[.bool (bz x), .slice A n c] 34)).alloc (.cells #[.bool (bz y), .slice A' n' c'] 34)) := bW
      generalize ((w.alloc (.cells #[.bool (bz x), .slice A n c] 34)).alloc (.cells #[.bool (bz y), .slice A' n' c'] 34)) = we1 at X1 X2 hbwe1  ⊢
      have CX1 := (show Blk2 we1 _ _ _ _ from X1.to bW).cell
      have CX1' := (show Blk2 we1 _ _ _ _ from X1.to bW).cell1
      have CX2 := (show Blk2 we1 _ _ _ _ from X2.to bW).cell
      have CX2' := (show Blk2 we1 _ _ _ _ from X2.to bW).cell1
      refine wp_regionE [(4, 5, 34, #[.bool false, .slice none 0 0])] kR kR (mk_cons (mk_z gO rfl rfl rfl) (mk_nil)) (by exact fun _ _ _ _ _ h => h) (by exact fun _ _ _ _ _ h => h) (f := 5) (by rfl) ?_
      have hbdE1 : Below we1.heap.size we1 we1.drew := nxw (Below.refl _ _)
      generalize we1.drew = wdE1 at hbdE1 ⊢
      replace CX1 := cellB hbdE1 CX1
      replace CX1' := cellB hbdE1 CX1'
      replace CX2 := cellB hbdE1 CX2
      replace CX2' := cellB hbdE1 CX2'
      have ltX1_wdE1 : w.heap.size < wdE1.heap.size := (show Blk2 wdE1 _ _ _ _ from X1.to bW).lt
      have ltX2_wdE1 : w.heap.size + 1 < wdE1.heap.size := (show Blk2 wdE1 _ _ _ _ from X2.to bW).lt
      have hH := Lib.hid (Below.refl wdE1.heap.size wdE1)
      refine anyE_take (i := 0) (v := ?_) gO kR (by exact fun _ _ _ h => h) (Or.inl ⟨by rfl, ?_⟩) hH.out ?_
      rotate_left
      · intro w hSw; have c := cellB hSw CX1; have c' := cellB hSw CX1'; go_simp; try with_reducible rfl
      try simp only [Act.put, sX, sY, sZ]
      refine anyE_take (i := 1) (v := ?_) gO kR (by exact fun _ _ _ h => h) (Or.inl ⟨by rfl, ?_⟩) hH.out ?_
      rotate_left
      · intro w hSw; have c := cellB hSw CX2; have c' := cellB hSw CX2'; go_simp; try with_reducible rfl
      try simp only [Act.put, sX, sY, sZ]
      refine anyE_one (i := 2) gO kR (fun wi1_2 hbwi1_2 K hK => ?_)
      go_simp
      go_at_call 32
      refine (ref7_Neg _ _ _ y _ (h'.to bW)).mono ?_
      rintro e w1 ⟨A1, n1, c1, rfl, h1, hb1⟩
      have l1 := h1.le_of (by decide) _ (show (-y).natAbs < _ by rw [Int.natAbs_neg]; exact h'.lt)
      go_simp
      refine hK.out _ _ (show Below wi1_2.heap.size wi1_2 w1 from bW) ?_
      clear hK K
      replace hH := Lib.hid (nx hH.out (show Below wdE1.heap.size wdE1 w1 from bW))
      try simp only [Act.put, sX, sY, sZ]
      refine anyE_one (i := 3) gO kR (fun wi1_3 hbwi1_3 K hK => ?_)
      go_simp
      go_at_call 33
      refine (ref7_Add _ _ _ x _ _ _ (-y) _ (h.to bW) (h1.to bW) (by omega) (by omega)).mono ?_
      rw [show x + -y = d by rw [HD.out, Int.sub_eq_add_neg]]
      rintro e w2 ⟨A2, n2, c2, rfl, h2, hb2⟩
      have zn : (((n2 : Nat) : Int) == 0) = true := by have := (h2.zero_iff (by decide)).1 (by rw [HQ.out]; rfl); simp; omega
      go_simp
      refine hK.out _ _ (show Below wi1_3.heap.size wi1_3 w2 from bW) ?_
      clear hK K
      replace hH := Lib.hid (nx hH.out (show Below w1.heap.size w1 w2 from bW))
      try simp only [Act.put, sX, sY, sZ]
      refine anyE_done kR (fun wzE1 hbzE1 => ?_)
      refine FinD_cons (fun gEX3 X3 hgEX3 hnEX3 => ?_)
      replace X3 : Blk2 wzE1 _ _ _ _ := X3
      clear hnEX3
      refine FinD_nil ?_
      try simp only [Act.put, sX, sY, sZ]
      replace h2 := (show NumAt _ _ wzE1 _ _ _ _ from h2.to bW)
      have hbtE1 := Lib.hid (show Below we1.heap.size we1 wzE1 from nx hbdE1 (nx hH.out hbzE1))
      clear hH
      refine anyT_ready (rs := [5]) kR (by simp) (ReadyT.cons gO (fun K hK => ?_) ReadyT.nil)
      rw [if_pos (by rfl)]
      refine wp_store_z _ _ rfl rfl rfl X3 ?_
      replace h2 := h2.put2 X3 (.bool (bz d)) (.slice A2 n2 c2)
      replace hbtE1 := below_put2 hbtE1.out (g := gEX3) (Nat.le_trans hbdE1.size hgEX3) (.bool (bz d)) (.slice A2 n2 c2)
      replace X3 := X3.put2 (.bool (bz d)) (.slice A2 n2 c2)
      generalize put2 wzE1 gEX3 (.bool (bz d)) (.slice A2 n2 c2) = wsE2 at X3 h2 hbtE1 ⊢
      refine hK.out _ _ trivial (fun _ => ?_)
      clear hK K
      try simp only [Act.put, sX, sY, sZ]
      refine anyT_done kR ?_ _
      clear CX1 CX1' CX2 CX2'
      have hb0 := HB0.out
      have d1 := (show Blk2 wsE2 _ _ _ _ from X3.to bW).cell
      have d1' := (show Blk2 wsE2 _ _ _ _ from X3.to bW).cell1
      have d2 := (show Blk2 wsE2 _ _ _ _ from X3.to bW).cell
      have d2' := (show Blk2 wsE2 _ _ _ _ from X3.to bW).cell1
      go_wp2_with fail
      clear d1 d1' d2 d2'
      go_ret
      exact ⟨rfl, bW⟩
    · have HC := Lib.hid (cmpZ_gt (show 0 < d by omega))
      have HQ := Lib.hid h1
      clear h1
      rw [HC.out]
      clear h0
      go_enter Try.func35, Try.ntmps35
      go_wp2_with fail
      have X1 := Blk2.newAt w (w.heap.size) 34 (.bool (bz x)) (.slice A n c) (by first | rfl | simp)
      have X2 := Blk2.newAt (w.alloc (.cells #[.bool (bz x), .slice A n c] 34)) (w.heap.size + 1) 34 (.bool (bz y)) (.slice A' n' c') (by first | rfl | simp)
      replace X1 := (show Blk2 ((w.alloc (.cells #[.bool (bz x), .slice A n c] 34)).alloc (.cells #[.bool (bz y), .slice A' n' c'] 34)) _ _ _ _ from X1.to bW)
      have hbwe1 : Below w.heap.size w ((w.alloc (.cells #[.bool (bz x), .slice A n c] 34)).alloc (.cells #[.bool (bz y), .slice A' n' c'] 34)) := bW
      generalize ((w.alloc (.cells #[.bool (bz x), .slice A n c] 34)).alloc (.cells #[.bool (bz y), .slice A' n' c'] 34)) = we1 at X1 X2 hbwe1  ⊢
      have CX1 := (show Blk2 we1 _ _ _ _ from X1.to bW).cell
      have CX1' := (show Blk2 we1 _ _ _ _ from X1.to bW).cell1
      have CX2 := (show Blk2 we1 _ _ _ _ from X2.to bW).cell
      have CX2' := (show Blk2 we1 _ _ _ _ from X2.to bW).cell1
      refine wp_regionE [(4, 5, 34, #[.bool false, .slice none 0 0])] kR kR (mk_cons (mk_z gO rfl rfl rfl) (mk_nil)) (by exact fun _ _ _ _ _ h => h) (by exact fun _ _ _ _ _ h => h) (f := 5) (by rfl) ?_
      have hbdE1 : Below we1.heap.size we1 we1.drew := nxw (Below.refl _ _)
      generalize we1.drew = wdE1 at hbdE1 ⊢
      replace CX1 := cellB hbdE1 CX1
      replace CX1' := cellB hbdE1 CX1'
      replace CX2 := cellB hbdE1 CX2
      replace CX2' := cellB hbdE1 CX2'
      have ltX1_wdE1 : w.heap.size < wdE1.heap.size := (show Blk2 wdE1 _ _ _ _ from X1.to bW).lt
      have ltX2_wdE1 : w.heap.size + 1 < wdE1.heap.size := (show Blk2 wdE1 _ _ _ _ from X2.to bW).lt
      have hH := Lib.hid (Below.refl wdE1.heap.size wdE1)
      refine anyE_take (i := 0) (v := ?_) gO kR (by exact fun _ _ _ h => h) (Or.inl ⟨by rfl, ?_⟩) hH.out ?_
      rotate_left
      · intro w hSw; have c := cellB hSw CX1; have c' := cellB hSw CX1'; go_simp; try with_reducible rfl
      try simp only [Act.put, sX, sY, sZ]
      refine anyE_take (i := 1) (v := ?_) gO kR (by exact fun _ _ _ h => h) (Or.inl ⟨by rfl, ?_⟩) hH.out ?_
      rotate_left
      · intro w hSw; have c := cellB hSw CX2; have c' := cellB hSw CX2'; go_simp; try with_reducible rfl
      try simp only [Act.put, sX, sY, sZ]
      refine anyE_one (i := 2) gO kR (fun wi1_2 hbwi1_2 K hK => ?_)
      go_simp
      go_at_call 32
      refine (ref7_Neg _ _ _ y _ (h'.to bW)).mono ?_
      rintro e w1 ⟨A1, n1, c1, rfl, h1, hb1⟩
      have l1 := h1.le_of (by decide) _ (show (-y).natAbs < _ by rw [Int.natAbs_neg]; exact h'.lt)
      go_simp
      refine hK.out _ _ (show Below wi1_2.heap.size wi1_2 w1 from bW) ?_
      clear hK K
      replace hH := Lib.hid (nx hH.out (show Below wdE1.heap.size wdE1 w1 from bW))
      try simp only [Act.put, sX, sY, sZ]
      refine anyE_one (i := 3) gO kR (fun wi1_3 hbwi1_3 K hK => ?_)
      go_simp
      go_at_call 33
      refine (ref7_Add _ _ _ x _ _ _ (-y) _ (h.to bW) (h1.to bW) (by omega) (by omega)).mono ?_
      rw [show x + -y = d by rw [HD.out, Int.sub_eq_add_neg]]
      rintro e w2 ⟨A2, n2, c2, rfl, h2, hb2⟩
      have zn : (((n2 : Nat) : Int) == 0) = false := by have h7 := HQ.out; have : n2 ≠ 0 := fun e => h7 (by have := (h2.zero_iff (by decide)).2 e; omega); simp; omega
      go_simp
      refine hK.out _ _ (show Below wi1_3.heap.size wi1_3 w2 from bW) ?_
      clear hK K
      replace hH := Lib.hid (nx hH.out (show Below w1.heap.size w1 w2 from bW))
      try simp only [Act.put, sX, sY, sZ]
      refine anyE_done kR (fun wzE1 hbzE1 => ?_)
      refine FinD_cons (fun gEX3 X3 hgEX3 hnEX3 => ?_)
      replace X3 : Blk2 wzE1 _ _ _ _ := X3
      clear hnEX3
      refine FinD_nil ?_
      try simp only [Act.put, sX, sY, sZ]
      replace h2 := (show NumAt _ _ wzE1 _ _ _ _ from h2.to bW)
      have hbtE1 := Lib.hid (show Below we1.heap.size we1 wzE1 from nx hbdE1 (nx hH.out hbzE1))
      clear hH
      refine anyT_ready (rs := [5]) kR (by simp) (ReadyT.cons gO (fun K hK => ?_) ReadyT.nil)
      rw [if_pos (by rfl)]
      refine wp_store_z _ _ rfl rfl rfl X3 ?_
      replace h2 := h2.put2 X3 (.bool (bz d)) (.slice A2 n2 c2)
      replace hbtE1 := below_put2 hbtE1.out (g := gEX3) (Nat.le_trans hbdE1.size hgEX3) (.bool (bz d)) (.slice A2 n2 c2)
      replace X3 := X3.put2 (.bool (bz d)) (.slice A2 n2 c2)
      generalize put2 wzE1 gEX3 (.bool (bz d)) (.slice A2 n2 c2) = wsE2 at X3 h2 hbtE1 ⊢
      refine hK.out _ _ trivial (fun _ => ?_)
      clear hK K
      try simp only [Act.put, sX, sY, sZ]
      refine anyT_done kR ?_ _
      clear CX1 CX1' CX2 CX2'
      have hb0 := HB0.out
      have d1 := (show Blk2 wsE2 _ _ _ _ from X3.to bW).cell
      have d1' := (show Blk2 wsE2 _ _ _ _ from X3.to bW).cell1
      have d2 := (show Blk2 wsE2 _ _ _ _ from X3.to bW).cell
      have d2' := (show Blk2 wsE2 _ _ _ _ from X3.to bW).cell1
      go_wp2_with fail
      clear d1 d1' d2 d2'
      go_ret
      exact ⟨rfl, bW⟩
end Go.Proofs.Ytihbpkljjmpkjaa
