/- The walk of 'IntegerReads'. -/
import Derived.Test.YtihbpkljjmpkjaaAwake7
import Derived.Test.YtihbpkljjmpkjaaTxtLaw3
import Derived.Test.YtihbpkljjmpkjaaLaw7b
set_option linter.unusedVariables false
set_option linter.unusedSimpArgs false
namespace Go.Proofs.Ytihbpkljjmpkjaa
open Go.RowKit
set_option maxRecDepth 100000
theorem zv_sg (s : ByteArray) : zv s = sg (nb s) (rdv (body s)) := by
  unfold zv
  split
  · rfl
  · rename_i h
    by_cases ho : okd (body s)
    · have : nb s = true ∧ rdv (body s) = 0 := Classical.byContradiction fun k => h ⟨ho, k⟩
      rw [this.1, this.2]; rfl
    · rw [show rdv (body s) = 0 from if_neg ho]
      cases nb s <;> rfl
theorem zv_ref (s : ByteArray) : (zv s).natAbs < 65536 ^ s.size := by
  rw [zv_sg, sg_abs]
  exact Nat.lt_of_lt_of_le (rdv_ref (body s)) (Nat.pow_le_pow_right (by decide) (body_size s))
set_option maxHeartbeats 8000000 in
theorem law_IntegerReads (b A n c u) (s : ByteArray) (w : World) (k1 : Dig .u64 W w A n c u)  :
    Calls Try.prog 4 #[.agg #[.bool b, .slice A n c], .string s] w (Ret w (.bool true)) := by
  obtain ⟨x, hx⟩ : ∃ x : Int, x = sg b u := ⟨_, rfl⟩
  have HSx := Lib.hid hx
  have ltx : x.natAbs < W ^ n := by rw [hx, sg_abs]; exact k1.lt
  have rtx : x.natAbs < 65536 ^ (4 * n) := by rw [Nat.pow_mul]; exact ltx
  clear hx
  rcases Nat.lt_or_ge 20 n with ha | ha
  · have hI : (20 : Int) < (n : Int) := by omega
    go_enter Try.func4, Try.ntmps4
    go_wp2_with fail
    have X1 := Blk2.newAt w (w.heap.size) 24 (.bool b) (.slice A n c) (by first | rfl | simp)
    have hbwe1 : Below w.heap.size w (w.alloc (.cells #[.bool b, .slice A n c] 24)) := bW
    generalize (w.alloc (.cells #[.bool b, .slice A n c] 24)) = we1 at X1 hbwe1  ⊢
    refine (awake7 _).mono ?_
    rintro e w1 ⟨rfl, hb1⟩
    have d1 := (show Blk2 w1 _ _ _ _ from X1.to bW).cell
    have d1' := (show Blk2 w1 _ _ _ _ from X1.to bW).cell1
    go_wp2_with fail
    clear d1 d1'
    go_ret
    exact ⟨rfl, bW⟩
  have hI : ¬ (20 : Int) < (n : Int) := by omega
  rcases Nat.lt_or_ge 400 s.size with hb | hb
  · have hJ : (400 : Int) < (s.size : Int) := by omega
    go_enter Try.func4, Try.ntmps4
    go_wp2_with fail
    have X1 := Blk2.newAt w (w.heap.size) 24 (.bool b) (.slice A n c) (by first | rfl | simp)
    have hbwe1 : Below w.heap.size w (w.alloc (.cells #[.bool b, .slice A n c] 24)) := bW
    generalize (w.alloc (.cells #[.bool b, .slice A n c] 24)) = we1 at X1 hbwe1  ⊢
    refine (awake7 _).mono ?_
    rintro e w1 ⟨rfl, hb1⟩
    have d1 := (show Blk2 w1 _ _ _ _ from X1.to bW).cell
    have d1' := (show Blk2 w1 _ _ _ _ from X1.to bW).cell1
    go_wp2_with fail
    clear d1 d1'
    go_ret
    exact ⟨rfl, bW⟩
  have hJ : ¬ (400 : Int) < (s.size : Int) := by omega
  have ES : (s.extract 1 s.size).size = s.size - 1 := by simp
  have ZS := Lib.hid (zv_sg s)
  cases hbx : bz x
  case true =>
    have HBX := Lib.hid hbx
    have hts := tw_fit ltx
    have htl : 1 + (tx x.natAbs).length ≤ 9223372036854775807 := by rw [str_size] at hts; omega
    have HCC := Lib.hid (show (⟨#[45]⟩ ++ ⟨(tx x.natAbs).toArray⟩ : ByteArray) = ⟨(ztx x).toArray⟩ by rw [ztx_neg hbx]; have := ByteArray.mk_append_mk [45] (tx x.natAbs); exact this)
    clear hts hbx
    rcases Nat.eq_zero_or_pos s.size with hz | hz
    · have HN := Lib.hid (show nb s = false from decide_eq_false (fun h => by omega))
      have e1 := toList_empty hz
      have HB := Lib.hid (show body s = s by unfold body; rw [HN.out]; rfl)
      obtain ⟨d, hd⟩ : ∃ d, d = decide (okd s) := ⟨_, rfl⟩
      have HD := Lib.hid hd
      have HK := Lib.hid (show decide (okz s) = d by rw [hd]; exact decide_eq_decide.2 ⟨fun h => by have := h.1; rw [HB.out] at this; exact this, fun h => ⟨by rw [HB.out]; exact h, fun hh => by have := HN.out; rw [hh.1] at this; cases this⟩⟩)
      have HV := Lib.hid (show zv s = sg false (rdv s) by rw [ZS.out, HN.out, HB.out])
      clear hd
      clear hz
      go_enter Try.func4, Try.ntmps4
      go_wp2_with fail
      have X1 := Blk2.newAt w (w.heap.size) 24 (.bool b) (.slice A n c) (by first | rfl | simp)
      have hbwe1 : Below w.heap.size w (w.alloc (.cells #[.bool b, .slice A n c] 24)) := bW
      generalize (w.alloc (.cells #[.bool b, .slice A n c] 24)) = we1 at X1 hbwe1  ⊢
      refine (awake7 _).mono ?_
      rintro e w1 ⟨rfl, hb1⟩
      have d1 := (show Blk2 w1 _ _ _ _ from X1.to bW).cell
      have d1' := (show Blk2 w1 _ _ _ _ from X1.to bW).cell1
      have d2 := (show Blk2 w1 _ _ _ _ from X1.to bW).cell
      have d2' := (show Blk2 w1 _ _ _ _ from X1.to bW).cell1
      go_wp2_with fail
      clear d1 d1' d2 d2'
      refine (law7_Ref b _ _ _ u _ (k1.to bW) (by omega)).mono ?_
      rw [← HSx.out]
      rintro e w2 ⟨A2, n2, c2, rfl, h2, hb2⟩
      have l2 := h2.le_of (by decide) _ (rtx)
      go_wp2_with fail
      have X2 := Blk2.newAt w2 (w2.heap.size) 34 (.bool (bz x)) (.slice A2 n2 c2) (by first | rfl | simp)
      have hbwe2 : Below w2.heap.size w2 (w2.alloc (.cells #[.bool (bz x), .slice A2 n2 c2] 34)) := bW
      generalize (w2.alloc (.cells #[.bool (bz x), .slice A2 n2 c2] 34)) = we2 at X2 hbwe2  ⊢
      refine (ref6_Text _ _ _ _ _ (h2.to bW) (by omega)).mono ?_
      rintro e w3 ⟨rfl, hb3⟩
      have hb0 := HBX.out
      have d3 := (show Blk2 w3 _ _ _ _ from X2.to bW).cell
      have d3' := (show Blk2 w3 _ _ _ _ from X2.to bW).cell1
      go_wp2_with fail
      clear d3 d3'
      clear hb0
      rw [HCC.out]
      refine (ref6_Read s _ (by omega)).mono ?_
      rw [← HD.out]
      rintro e w4 ⟨A4, n4, c4, rfl, h4, hb4⟩
      have l4 := h4.le_of (by decide) _ (rdv_ref s)
      go_wp2_with fail
      refine (integer_Read s _ (by omega)).mono ?_
      rw [HK.out]
      rintro e w5 ⟨A5, n5, c5, rfl, h5, hb5⟩
      have q5 := h5.le_of _ (zv_words s)
      go_wp2_with fail
      have X3 := Blk2.newAt w5 (w5.heap.size) 29 (.bool (bz (zv s))) (.slice A5 n5 c5) (by first | rfl | simp)
      have hbwe3 : Below w5.heap.size w5 (w5.alloc (.cells #[.bool (bz (zv s)), .slice A5 n5 c5] 29)) := bW
      generalize (w5.alloc (.cells #[.bool (bz (zv s)), .slice A5 n5 c5] 29)) = we3 at X3 hbwe3  ⊢
      have CX1 := (show Blk2 we3 _ _ _ _ from X1.to bW).cell
      have CX1' := (show Blk2 we3 _ _ _ _ from X1.to bW).cell1
      have CX3 := (show Blk2 we3 _ _ _ _ from X3.to bW).cell
      have CX3' := (show Blk2 we3 _ _ _ _ from X3.to bW).cell1
      refine wp_regionE [] kR kR (mk_nil) (by exact fun _ _ _ _ _ h => h) (by exact fun _ _ _ _ _ h => h) (f := 21) (by rfl) ?_
      have hbdE1 : Below we3.heap.size we3 we3.drew := nxw (Below.refl _ _)
      generalize we3.drew = wdE1 at hbdE1 ⊢
      replace CX1 := cellB hbdE1 CX1
      replace CX1' := cellB hbdE1 CX1'
      replace CX3 := cellB hbdE1 CX3
      replace CX3' := cellB hbdE1 CX3'
      have hH := Lib.hid (Below.refl wdE1.heap.size wdE1)
      refine anyE_take (i := 0) (v := ?_) gO kR (by exact fun _ _ _ h => h) (Or.inl ⟨by rfl, ?_⟩) hH.out ?_
      rotate_left
      · intro w hSw; have c := cellB hSw CX1; have c' := cellB hSw CX1'; go_simp; try with_reducible rfl
      try simp only [Act.put, sX, sY, sZ]
      refine anyE_take (i := 3) (v := ?_) gO kR (by exact fun _ _ _ h => h) (Or.inl ⟨by rfl, ?_⟩) hH.out ?_
      rotate_left
      · intro w hSw; go_simp; try with_reducible rfl
      try simp only [Act.put, sX, sY, sZ]
      refine anyE_one (i := 1) gO kR (fun wi1_1 hbwi1_1 K hK => ?_)
      go_simp
      go_at_call 12
      refine (law7_Make b _ _ _ u _ (k1.to bW) (by omega)).mono ?_
      rw [← HSx.out]
      rintro e w6 ⟨A6, n6, c6, rfl, h6, hb6⟩
      have q6 := h6.le_of _ (ltx)
      go_simp
      refine hK.out _ _ (show Below wi1_1.heap.size wi1_1 w6 from bW) ?_
      clear hK K
      replace hH := Lib.hid (nx hH.out (show Below wdE1.heap.size wdE1 w6 from bW))
      try simp only [Act.put, sX, sY, sZ]
      refine anyE_one (i := 2) gO kR (fun wi1_2 hbwi1_2 K hK => ?_)
      go_simp
      go_at_call 21
      refine (integer_Text _ _ _ x _ (h6.to bW) (by omega)).mono ?_
      rintro e w7 ⟨rfl, hb7⟩
      go_simp
      refine hK.out _ _ (show Below wi1_2.heap.size wi1_2 w7 from bW) ?_
      clear hK K
      replace hH := Lib.hid (nx hH.out (show Below w6.heap.size w6 w7 from bW))
      try simp only [Act.put, sX, sY, sZ]
      refine anyE_take (i := 4) (v := ?_) gO kR (by exact fun _ _ _ h => h) (Or.inl ⟨by rfl, ?_⟩) hH.out ?_
      rotate_left
      · intro w hSw; go_simp; try with_reducible rfl
      try simp only [Act.put, sX, sY, sZ]
      refine anyE_take (i := 5) (v := ?_) gO kR (by exact fun _ _ _ h => h) (Or.inl ⟨by rfl, ?_⟩) hH.out ?_
      rotate_left
      · intro w hSw; go_simp; try with_reducible rfl
      try simp only [Act.put, sX, sY, sZ]
      refine anyE_take (i := 6) (v := ?_) gO kR (by exact fun _ _ _ h => h) (Or.inl ⟨by rfl, ?_⟩) hH.out ?_
      rotate_left
      · intro w hSw; go_simp; try with_reducible rfl
      try simp only [Act.put, sX, sY, sZ]
      refine anyE_take (i := 7) (v := ?_) gO kR (by exact fun _ _ _ h => h) (Or.inl ⟨by rfl, ?_⟩) hH.out ?_
      rotate_left
      · intro w hSw; go_simp; try with_reducible rfl
      try simp only [Act.put, sX, sY, sZ]
      refine anyE_take (i := 8) (v := ?_) gO kR (by exact fun _ _ _ h => h) (Or.inl ⟨by rfl, ?_⟩) hH.out ?_
      rotate_left
      · intro w hSw; go_simp; try with_reducible rfl
      try simp only [Act.put, sX, sY, sZ]
      refine anyE_take (i := 9) (v := ?_) gO kR (by exact fun _ _ _ h => h) (Or.inl ⟨by rfl, ?_⟩) hH.out ?_
      rotate_left
      · intro w hSw; go_simp; try with_reducible rfl
      try simp only [Act.put, sX, sY, sZ]
      refine anyE_take (i := 10) (v := ?_) gO kR (by exact fun _ _ _ h => h) (Or.inl ⟨by rfl, ?_⟩) hH.out ?_
      rotate_left
      · intro w hSw; go_simp; try with_reducible rfl
      try simp only [Act.put, sX, sY, sZ]
      refine anyE_take (i := 11) (v := ?_) gO kR (by exact fun _ _ _ h => h) (Or.inl ⟨by rfl, ?_⟩) hH.out ?_
      rotate_left
      · intro w hSw; have c := cellB hSw CX3; have c' := cellB hSw CX3'; go_simp; try with_reducible rfl
      try simp only [Act.put, sX, sY, sZ]
      refine anyE_take (i := 12) (v := ?_) gO kR (by exact fun _ _ _ h => h) (Or.inl ⟨by rfl, ?_⟩) hH.out ?_
      rotate_left
      · intro w hSw; go_simp; try with_reducible rfl
      try simp only [Act.put, sX, sY, sZ]
      refine anyE_take (i := 13) (v := ?_) gO kR (by exact fun _ _ _ h => h) (Or.inl ⟨by rfl, ?_⟩) hH.out ?_
      rotate_left
      · intro w hSw; go_simp; try with_reducible rfl
      try simp only [Act.put, sX, sY, sZ]
      refine anyE_take (i := 14) (v := undef) gO kR (by exact fun _ _ _ h => h) (Or.inr ⟨by rfl, rfl⟩) hH.out ?_
      try simp only [Act.put, sX, sY, sZ]
      refine anyE_take (i := 15) (v := ?_) gO kR (by exact fun _ _ _ h => h) (Or.inl ⟨by rfl, ?_⟩) hH.out ?_
      rotate_left
      · intro w hSw; go_simp; try with_reducible rfl
      try simp only [Act.put, sX, sY, sZ]
      refine anyE_take (i := 16) (v := ?_) gO kR (by exact fun _ _ _ h => h) (Or.inl ⟨by rfl, ?_⟩) hH.out ?_
      rotate_left
      · intro w hSw; go_simp; try with_reducible rfl
      try simp only [Act.put, sX, sY, sZ]
      refine anyE_one (i := 17) gO kR (fun wi1_17 hbwi1_17 K hK => ?_)
      go_simp
      go_at_call 22
      refine (ref7_New false _ _ _ (rdv s) _ (h4.to bW)).mono ?_
      rw [← HV.out]
      rintro e w8 ⟨A8, n8, c8, rfl, h8, hb8⟩
      have l8 := h8.le_of (by decide) _ (zv_ref s)
      go_simp
      refine hK.out _ _ (show Below wi1_17.heap.size wi1_17 w8 from bW) ?_
      clear hK K
      replace hH := Lib.hid (nx hH.out (show Below w7.heap.size w7 w8 from bW))
      try simp only [Act.put, sX, sY, sZ]
      refine anyE_one (i := 18) gO kR (fun wi1_18 hbwi1_18 K hK => ?_)
      go_simp
      go_at_call 17
      refine (law7_Like _ _ _ _ _ _ (zv s) _ (h5.to bW) (h8.to bW) (by omega) (by omega)).mono ?_
      rintro e w9 ⟨rfl, hb9⟩
      go_simp
      refine hK.out _ _ (show Below wi1_18.heap.size wi1_18 w9 from bW) ?_
      clear hK K
      replace hH := Lib.hid (nx hH.out (show Below w8.heap.size w8 w9 from bW))
      try simp only [Act.put, sX, sY, sZ]
      refine anyE_take (i := 19) (v := ?_) gO kR (by exact fun _ _ _ h => h) (Or.inl ⟨by rfl, ?_⟩) hH.out ?_
      rotate_left
      · intro w hSw; go_simp; try with_reducible rfl
      try simp only [Act.put, sX, sY, sZ]
      refine anyE_take (i := 20) (v := ?_) gO kR (by exact fun _ _ _ h => h) (Or.inl ⟨by rfl, ?_⟩) hH.out ?_
      rotate_left
      · intro w hSw; go_simp; try with_reducible rfl
      try simp only [Act.put, sX, sY, sZ]
      refine anyE_done kR (fun wzE1 hbzE1 => ?_)
      refine FinD_nil ?_
      try simp only [Act.put, sX, sY, sZ]
      have hbtE1 := Lib.hid (show Below we3.heap.size we3 wzE1 from nx hbdE1 (nx hH.out hbzE1))
      clear hH
      refine anyT_done kR ?_ _
      clear CX1 CX1' CX3 CX3'
      go_wp2_with fail
      go_ret
      exact ⟨rfl, bW⟩
    · have e1 := toList_some hz
      have e2 := isEmpty_some hz
      have SG := sd_get s
      have hz9 : 1 ≤ s.size := hz
      have hz8 : (1 : Int) ≤ (s.size : Int) := by omega
      by_cases h45 : sd s 0 = 45
      rotate_left
      · have z1 : (((sd s 0 : Nat) : Int) == 45) = false := by simp; omega
        have HN := Lib.hid (show nb s = false from decide_eq_false (fun h => h45 h.2))
        have HB := Lib.hid (show body s = s by unfold body; rw [HN.out]; rfl)
        obtain ⟨d, hd⟩ : ∃ d, d = decide (okd s) := ⟨_, rfl⟩
        have HD := Lib.hid hd
        have HK := Lib.hid (show decide (okz s) = d by rw [hd]; exact decide_eq_decide.2 ⟨fun h => by have := h.1; rw [HB.out] at this; exact this, fun h => ⟨by rw [HB.out]; exact h, fun hh => by have := HN.out; rw [hh.1] at this; cases this⟩⟩)
        have HV := Lib.hid (show zv s = sg false (rdv s) by rw [ZS.out, HN.out, HB.out])
        clear hd
        clear h45
        go_enter Try.func4, Try.ntmps4
        go_wp2_with fail
        have X1 := Blk2.newAt w (w.heap.size) 24 (.bool b) (.slice A n c) (by first | rfl | simp)
        have hbwe1 : Below w.heap.size w (w.alloc (.cells #[.bool b, .slice A n c] 24)) := bW
        generalize (w.alloc (.cells #[.bool b, .slice A n c] 24)) = we1 at X1 hbwe1  ⊢
        refine (awake7 _).mono ?_
        rintro e w1 ⟨rfl, hb1⟩
        have d1 := (show Blk2 w1 _ _ _ _ from X1.to bW).cell
        have d1' := (show Blk2 w1 _ _ _ _ from X1.to bW).cell1
        have d2 := (show Blk2 w1 _ _ _ _ from X1.to bW).cell
        have d2' := (show Blk2 w1 _ _ _ _ from X1.to bW).cell1
        go_wp2_with fail
        clear d1 d1' d2 d2'
        refine (law7_Ref b _ _ _ u _ (k1.to bW) (by omega)).mono ?_
        rw [← HSx.out]
        rintro e w2 ⟨A2, n2, c2, rfl, h2, hb2⟩
        have l2 := h2.le_of (by decide) _ (rtx)
        go_wp2_with fail
        have X2 := Blk2.newAt w2 (w2.heap.size) 34 (.bool (bz x)) (.slice A2 n2 c2) (by first | rfl | simp)
        have hbwe2 : Below w2.heap.size w2 (w2.alloc (.cells #[.bool (bz x), .slice A2 n2 c2] 34)) := bW
        generalize (w2.alloc (.cells #[.bool (bz x), .slice A2 n2 c2] 34)) = we2 at X2 hbwe2  ⊢
        refine (ref6_Text _ _ _ _ _ (h2.to bW) (by omega)).mono ?_
        rintro e w3 ⟨rfl, hb3⟩
        have hb0 := HBX.out
        have d3 := (show Blk2 w3 _ _ _ _ from X2.to bW).cell
        have d3' := (show Blk2 w3 _ _ _ _ from X2.to bW).cell1
        go_wp2_with fail
        clear d3 d3'
        clear hb0
        rw [HCC.out]
        refine (ref6_Read s _ (by omega)).mono ?_
        rw [← HD.out]
        rintro e w4 ⟨A4, n4, c4, rfl, h4, hb4⟩
        have l4 := h4.le_of (by decide) _ (rdv_ref s)
        go_wp2_with fail
        refine (integer_Read s _ (by omega)).mono ?_
        rw [HK.out]
        rintro e w5 ⟨A5, n5, c5, rfl, h5, hb5⟩
        have q5 := h5.le_of _ (zv_words s)
        go_wp2_with fail
        have X3 := Blk2.newAt w5 (w5.heap.size) 29 (.bool (bz (zv s))) (.slice A5 n5 c5) (by first | rfl | simp)
        have hbwe3 : Below w5.heap.size w5 (w5.alloc (.cells #[.bool (bz (zv s)), .slice A5 n5 c5] 29)) := bW
        generalize (w5.alloc (.cells #[.bool (bz (zv s)), .slice A5 n5 c5] 29)) = we3 at X3 hbwe3  ⊢
        have CX1 := (show Blk2 we3 _ _ _ _ from X1.to bW).cell
        have CX1' := (show Blk2 we3 _ _ _ _ from X1.to bW).cell1
        have CX3 := (show Blk2 we3 _ _ _ _ from X3.to bW).cell
        have CX3' := (show Blk2 we3 _ _ _ _ from X3.to bW).cell1
        refine wp_regionE [] kR kR (mk_nil) (by exact fun _ _ _ _ _ h => h) (by exact fun _ _ _ _ _ h => h) (f := 21) (by rfl) ?_
        have hbdE1 : Below we3.heap.size we3 we3.drew := nxw (Below.refl _ _)
        generalize we3.drew = wdE1 at hbdE1 ⊢
        replace CX1 := cellB hbdE1 CX1
        replace CX1' := cellB hbdE1 CX1'
        replace CX3 := cellB hbdE1 CX3
        replace CX3' := cellB hbdE1 CX3'
        have hH := Lib.hid (Below.refl wdE1.heap.size wdE1)
        refine anyE_take (i := 0) (v := ?_) gO kR (by exact fun _ _ _ h => h) (Or.inl ⟨by rfl, ?_⟩) hH.out ?_
        rotate_left
        · intro w hSw; have c := cellB hSw CX1; have c' := cellB hSw CX1'; go_simp; try with_reducible rfl
        try simp only [Act.put, sX, sY, sZ]
        refine anyE_take (i := 3) (v := ?_) gO kR (by exact fun _ _ _ h => h) (Or.inl ⟨by rfl, ?_⟩) hH.out ?_
        rotate_left
        · intro w hSw; go_simp; try with_reducible rfl
        try simp only [Act.put, sX, sY, sZ]
        refine anyE_one (i := 1) gO kR (fun wi1_1 hbwi1_1 K hK => ?_)
        go_simp
        go_at_call 12
        refine (law7_Make b _ _ _ u _ (k1.to bW) (by omega)).mono ?_
        rw [← HSx.out]
        rintro e w6 ⟨A6, n6, c6, rfl, h6, hb6⟩
        have q6 := h6.le_of _ (ltx)
        go_simp
        refine hK.out _ _ (show Below wi1_1.heap.size wi1_1 w6 from bW) ?_
        clear hK K
        replace hH := Lib.hid (nx hH.out (show Below wdE1.heap.size wdE1 w6 from bW))
        try simp only [Act.put, sX, sY, sZ]
        refine anyE_one (i := 2) gO kR (fun wi1_2 hbwi1_2 K hK => ?_)
        go_simp
        go_at_call 21
        refine (integer_Text _ _ _ x _ (h6.to bW) (by omega)).mono ?_
        rintro e w7 ⟨rfl, hb7⟩
        go_simp
        refine hK.out _ _ (show Below wi1_2.heap.size wi1_2 w7 from bW) ?_
        clear hK K
        replace hH := Lib.hid (nx hH.out (show Below w6.heap.size w6 w7 from bW))
        try simp only [Act.put, sX, sY, sZ]
        refine anyE_take (i := 4) (v := ?_) gO kR (by exact fun _ _ _ h => h) (Or.inl ⟨by rfl, ?_⟩) hH.out ?_
        rotate_left
        · intro w hSw; go_simp; try with_reducible rfl
        try simp only [Act.put, sX, sY, sZ]
        refine anyE_take (i := 5) (v := ?_) gO kR (by exact fun _ _ _ h => h) (Or.inl ⟨by rfl, ?_⟩) hH.out ?_
        rotate_left
        · intro w hSw; go_simp; try with_reducible rfl
        try simp only [Act.put, sX, sY, sZ]
        refine anyE_take (i := 6) (v := ?_) gO kR (by exact fun _ _ _ h => h) (Or.inl ⟨by rfl, ?_⟩) hH.out ?_
        rotate_left
        · intro w hSw; go_simp; try with_reducible rfl
        try simp only [Act.put, sX, sY, sZ]
        refine anyE_take (i := 7) (v := ?_) gO kR (by exact fun _ _ _ h => h) (Or.inl ⟨by rfl, ?_⟩) hH.out ?_
        rotate_left
        · intro w hSw; go_simp; try with_reducible rfl
        try simp only [Act.put, sX, sY, sZ]
        refine anyE_take (i := 8) (v := ?_) gO kR (by exact fun _ _ _ h => h) (Or.inl ⟨by rfl, ?_⟩) hH.out ?_
        rotate_left
        · intro w hSw; go_simp; try with_reducible rfl
        try simp only [Act.put, sX, sY, sZ]
        refine anyE_take (i := 9) (v := ?_) gO kR (by exact fun _ _ _ h => h) (Or.inl ⟨by rfl, ?_⟩) hH.out ?_
        rotate_left
        · intro w hSw; go_simp; try with_reducible rfl
        try simp only [Act.put, sX, sY, sZ]
        refine anyE_take (i := 10) (v := ?_) gO kR (by exact fun _ _ _ h => h) (Or.inl ⟨by rfl, ?_⟩) hH.out ?_
        rotate_left
        · intro w hSw; go_simp; try with_reducible rfl
        try simp only [Act.put, sX, sY, sZ]
        refine anyE_take (i := 11) (v := ?_) gO kR (by exact fun _ _ _ h => h) (Or.inl ⟨by rfl, ?_⟩) hH.out ?_
        rotate_left
        · intro w hSw; have c := cellB hSw CX3; have c' := cellB hSw CX3'; go_simp; try with_reducible rfl
        try simp only [Act.put, sX, sY, sZ]
        refine anyE_take (i := 12) (v := ?_) gO kR (by exact fun _ _ _ h => h) (Or.inl ⟨by rfl, ?_⟩) hH.out ?_
        rotate_left
        · intro w hSw; go_simp; try with_reducible rfl
        try simp only [Act.put, sX, sY, sZ]
        refine anyE_take (i := 13) (v := ?_) gO kR (by exact fun _ _ _ h => h) (Or.inl ⟨by rfl, ?_⟩) hH.out ?_
        rotate_left
        · intro w hSw; go_simp; try with_reducible rfl
        try simp only [Act.put, sX, sY, sZ]
        refine anyE_take (i := 14) (v := undef) gO kR (by exact fun _ _ _ h => h) (Or.inr ⟨by rfl, rfl⟩) hH.out ?_
        try simp only [Act.put, sX, sY, sZ]
        refine anyE_take (i := 15) (v := ?_) gO kR (by exact fun _ _ _ h => h) (Or.inl ⟨by rfl, ?_⟩) hH.out ?_
        rotate_left
        · intro w hSw; go_simp; try with_reducible rfl
        try simp only [Act.put, sX, sY, sZ]
        refine anyE_take (i := 16) (v := ?_) gO kR (by exact fun _ _ _ h => h) (Or.inl ⟨by rfl, ?_⟩) hH.out ?_
        rotate_left
        · intro w hSw; go_simp; try with_reducible rfl
        try simp only [Act.put, sX, sY, sZ]
        refine anyE_one (i := 17) gO kR (fun wi1_17 hbwi1_17 K hK => ?_)
        go_simp
        go_at_call 22
        refine (ref7_New false _ _ _ (rdv s) _ (h4.to bW)).mono ?_
        rw [← HV.out]
        rintro e w8 ⟨A8, n8, c8, rfl, h8, hb8⟩
        have l8 := h8.le_of (by decide) _ (zv_ref s)
        go_simp
        refine hK.out _ _ (show Below wi1_17.heap.size wi1_17 w8 from bW) ?_
        clear hK K
        replace hH := Lib.hid (nx hH.out (show Below w7.heap.size w7 w8 from bW))
        try simp only [Act.put, sX, sY, sZ]
        refine anyE_one (i := 18) gO kR (fun wi1_18 hbwi1_18 K hK => ?_)
        go_simp
        go_at_call 17
        refine (law7_Like _ _ _ _ _ _ (zv s) _ (h5.to bW) (h8.to bW) (by omega) (by omega)).mono ?_
        rintro e w9 ⟨rfl, hb9⟩
        go_simp
        refine hK.out _ _ (show Below wi1_18.heap.size wi1_18 w9 from bW) ?_
        clear hK K
        replace hH := Lib.hid (nx hH.out (show Below w8.heap.size w8 w9 from bW))
        try simp only [Act.put, sX, sY, sZ]
        refine anyE_take (i := 19) (v := ?_) gO kR (by exact fun _ _ _ h => h) (Or.inl ⟨by rfl, ?_⟩) hH.out ?_
        rotate_left
        · intro w hSw; go_simp; try with_reducible rfl
        try simp only [Act.put, sX, sY, sZ]
        refine anyE_take (i := 20) (v := ?_) gO kR (by exact fun _ _ _ h => h) (Or.inl ⟨by rfl, ?_⟩) hH.out ?_
        rotate_left
        · intro w hSw; go_simp; try with_reducible rfl
        try simp only [Act.put, sX, sY, sZ]
        refine anyE_done kR (fun wzE1 hbzE1 => ?_)
        refine FinD_nil ?_
        try simp only [Act.put, sX, sY, sZ]
        have hbtE1 := Lib.hid (show Below we3.heap.size we3 wzE1 from nx hbdE1 (nx hH.out hbzE1))
        clear hH
        refine anyT_done kR ?_ _
        clear CX1 CX1' CX3 CX3'
        go_wp2_with fail
        go_ret
        exact ⟨rfl, bW⟩
      · have z1 : (((sd s 0 : Nat) : Int) == 45) = true := by simp; omega
        have HN := Lib.hid (show nb s = true from decide_eq_true ⟨hz, h45⟩)
        have HB := Lib.hid (show body s = s.extract 1 s.size by unfold body; rw [HN.out]; rfl)
        clear h45
        by_cases h0 : rdv (s.extract 1 s.size) = 0
        · have H0 := Lib.hid h0
          have HK := Lib.hid (show ¬ okz s from fun h => h.2 ⟨HN.out, by rw [HB.out]; exact h0⟩)
          obtain ⟨d, hd⟩ : ∃ d, d = decide (okd (s.extract 1 s.size)) := ⟨_, rfl⟩
          have HD := Lib.hid hd
          clear h0 hd
          go_enter Try.func4, Try.ntmps4
          go_wp2_with fail
          have X1 := Blk2.newAt w (w.heap.size) 24 (.bool b) (.slice A n c) (by first | rfl | simp)
          have hbwe1 : Below w.heap.size w (w.alloc (.cells #[.bool b, .slice A n c] 24)) := bW
          generalize (w.alloc (.cells #[.bool b, .slice A n c] 24)) = we1 at X1 hbwe1  ⊢
          refine (awake7 _).mono ?_
          rintro e w1 ⟨rfl, hb1⟩
          have d1 := (show Blk2 w1 _ _ _ _ from X1.to bW).cell
          have d1' := (show Blk2 w1 _ _ _ _ from X1.to bW).cell1
          have d2 := (show Blk2 w1 _ _ _ _ from X1.to bW).cell
          have d2' := (show Blk2 w1 _ _ _ _ from X1.to bW).cell1
          go_wp2_with fail
          clear d1 d1' d2 d2'
          refine (law7_Ref b _ _ _ u _ (k1.to bW) (by omega)).mono ?_
          rw [← HSx.out]
          rintro e w2 ⟨A2, n2, c2, rfl, h2, hb2⟩
          have l2 := h2.le_of (by decide) _ (rtx)
          go_wp2_with fail
          have X2 := Blk2.newAt w2 (w2.heap.size) 34 (.bool (bz x)) (.slice A2 n2 c2) (by first | rfl | simp)
          have hbwe2 : Below w2.heap.size w2 (w2.alloc (.cells #[.bool (bz x), .slice A2 n2 c2] 34)) := bW
          generalize (w2.alloc (.cells #[.bool (bz x), .slice A2 n2 c2] 34)) = we2 at X2 hbwe2  ⊢
          refine (ref6_Text _ _ _ _ _ (h2.to bW) (by omega)).mono ?_
          rintro e w3 ⟨rfl, hb3⟩
          have hb0 := HBX.out
          have d3 := (show Blk2 w3 _ _ _ _ from X2.to bW).cell
          have d3' := (show Blk2 w3 _ _ _ _ from X2.to bW).cell1
          go_wp2_with fail
          clear d3 d3'
          refine wp_regionE [] kR kR (mk_nil) (by exact fun _ _ _ _ _ h => h) (by exact fun _ _ _ _ _ h => h) (f := 4) (by rfl) ?_
          have hbdE1 : Below w3.heap.size w3 w3.drew := nxw (Below.refl _ _)
          generalize w3.drew = wdE1 at hbdE1 ⊢
          have hH := Lib.hid (Below.refl wdE1.heap.size wdE1)
          refine anyE_take (i := 0) (v := ?_) gO kR (by exact fun _ _ _ h => h) (Or.inl ⟨by rfl, ?_⟩) hH.out ?_
          rotate_left
          · intro w hSw; go_simp; try with_reducible rfl
          try simp only [Act.put, sX, sY, sZ]
          refine anyE_take (i := 1) (v := ?_) gO kR (by exact fun _ _ _ h => h) (Or.inl ⟨by rfl, ?_⟩) hH.out ?_
          rotate_left
          · intro w hSw; go_simp; try with_reducible rfl
          try simp only [Act.put, sX, sY, sZ]
          refine anyE_take (i := 2) (v := ?_) gO kR (by exact fun _ _ _ h => h) (Or.inl ⟨by rfl, ?_⟩) hH.out ?_
          rotate_left
          · intro w hSw; go_simp; try with_reducible rfl
          try simp only [Act.put, sX, sY, sZ]
          refine anyE_take (i := 3) (v := ?_) gO kR (by exact fun _ _ _ h => h) (Or.inl ⟨by rfl, ?_⟩) hH.out ?_
          rotate_left
          · intro w hSw; go_simp; try with_reducible rfl
          try simp only [Act.put, sX, sY, sZ]
          refine anyE_done kR (fun wzE1 hbzE1 => ?_)
          refine FinD_nil ?_
          try simp only [Act.put, sX, sY, sZ]
          have hbtE1 := Lib.hid (show Below w3.heap.size w3 wzE1 from nx hbdE1 (nx hH.out hbzE1))
          clear hH
          refine anyT_done kR ?_ _
          go_wp2_with fail
          clear hb0
          rw [HCC.out]
          refine (ref6_Read (s.extract 1 s.size) _ (by omega)).mono ?_
          rw [← HD.out]
          rintro e w4 ⟨A4, n4, c4, rfl, h4, hb4⟩
          have l4 := h4.le_of (by decide) _ (rdv_ref (s.extract 1 s.size))
          go_wp2_with fail
          refine (integer_Read s _ (by omega)).mono ?_
          rw [show zv s = 0 from if_neg HK.out, decide_eq_false HK.out]
          rintro e w5 ⟨A5, n5, c5, rfl, h5, hb5⟩
          have q5 := h5.le_of _ ((show (0 : Int).natAbs < W ^ 0 by decide))
          have zn : (((n4 : Nat) : Int) == 0) = true := by have := (h4.zero_iff (by decide)).1 H0.out; simp; omega
          go_wp2_with fail
          have X3 := Blk2.newAt w5 (w5.heap.size) 29 (.bool (bz 0)) (.slice A5 n5 c5) (by first | rfl | simp)
          have hbwe3 : Below w5.heap.size w5 (w5.alloc (.cells #[.bool (bz 0), .slice A5 n5 c5] 29)) := bW
          generalize (w5.alloc (.cells #[.bool (bz 0), .slice A5 n5 c5] 29)) = we3 at X3 hbwe3  ⊢
          have CX1 := (show Blk2 we3 _ _ _ _ from X1.to bW).cell
          have CX1' := (show Blk2 we3 _ _ _ _ from X1.to bW).cell1
          have CX3 := (show Blk2 we3 _ _ _ _ from X3.to bW).cell
          have CX3' := (show Blk2 we3 _ _ _ _ from X3.to bW).cell1
          refine wp_regionE [] kR kR (mk_nil) (by exact fun _ _ _ _ _ h => h) (by exact fun _ _ _ _ _ h => h) (f := 21) (by rfl) ?_
          have hbdE2 : Below we3.heap.size we3 we3.drew := nxw (Below.refl _ _)
          generalize we3.drew = wdE2 at hbdE2 ⊢
          replace CX1 := cellB hbdE2 CX1
          replace CX1' := cellB hbdE2 CX1'
          replace CX3 := cellB hbdE2 CX3
          replace CX3' := cellB hbdE2 CX3'
          have hH := Lib.hid (Below.refl wdE2.heap.size wdE2)
          refine anyE_take (i := 0) (v := ?_) gO kR (by exact fun _ _ _ h => h) (Or.inl ⟨by rfl, ?_⟩) hH.out ?_
          rotate_left
          · intro w hSw; have c := cellB hSw CX1; have c' := cellB hSw CX1'; go_simp; try with_reducible rfl
          try simp only [Act.put, sX, sY, sZ]
          refine anyE_take (i := 3) (v := ?_) gO kR (by exact fun _ _ _ h => h) (Or.inl ⟨by rfl, ?_⟩) hH.out ?_
          rotate_left
          · intro w hSw; go_simp; try with_reducible rfl
          try simp only [Act.put, sX, sY, sZ]
          refine anyE_one (i := 1) gO kR (fun wi2_1 hbwi2_1 K hK => ?_)
          go_simp
          go_at_call 12
          refine (law7_Make b _ _ _ u _ (k1.to bW) (by omega)).mono ?_
          rw [← HSx.out]
          rintro e w6 ⟨A6, n6, c6, rfl, h6, hb6⟩
          have q6 := h6.le_of _ (ltx)
          go_simp
          refine hK.out _ _ (show Below wi2_1.heap.size wi2_1 w6 from bW) ?_
          clear hK K
          replace hH := Lib.hid (nx hH.out (show Below wdE2.heap.size wdE2 w6 from bW))
          try simp only [Act.put, sX, sY, sZ]
          refine anyE_one (i := 2) gO kR (fun wi2_2 hbwi2_2 K hK => ?_)
          go_simp
          go_at_call 21
          refine (integer_Text _ _ _ x _ (h6.to bW) (by omega)).mono ?_
          rintro e w7 ⟨rfl, hb7⟩
          go_simp
          refine hK.out _ _ (show Below wi2_2.heap.size wi2_2 w7 from bW) ?_
          clear hK K
          replace hH := Lib.hid (nx hH.out (show Below w6.heap.size w6 w7 from bW))
          try simp only [Act.put, sX, sY, sZ]
          refine anyE_take (i := 4) (v := ?_) gO kR (by exact fun _ _ _ h => h) (Or.inl ⟨by rfl, ?_⟩) hH.out ?_
          rotate_left
          · intro w hSw; go_simp; try with_reducible rfl
          try simp only [Act.put, sX, sY, sZ]
          refine anyE_take (i := 5) (v := ?_) gO kR (by exact fun _ _ _ h => h) (Or.inl ⟨by rfl, ?_⟩) hH.out ?_
          rotate_left
          · intro w hSw; go_simp; try with_reducible rfl
          try simp only [Act.put, sX, sY, sZ]
          refine anyE_take (i := 6) (v := ?_) gO kR (by exact fun _ _ _ h => h) (Or.inl ⟨by rfl, ?_⟩) hH.out ?_
          rotate_left
          · intro w hSw; go_simp; try with_reducible rfl
          try simp only [Act.put, sX, sY, sZ]
          refine anyE_take (i := 7) (v := ?_) gO kR (by exact fun _ _ _ h => h) (Or.inl ⟨by rfl, ?_⟩) hH.out ?_
          rotate_left
          · intro w hSw; go_simp; try with_reducible rfl
          try simp only [Act.put, sX, sY, sZ]
          refine anyE_take (i := 8) (v := ?_) gO kR (by exact fun _ _ _ h => h) (Or.inl ⟨by rfl, ?_⟩) hH.out ?_
          rotate_left
          · intro w hSw; go_simp; try with_reducible rfl
          try simp only [Act.put, sX, sY, sZ]
          refine anyE_take (i := 9) (v := ?_) gO kR (by exact fun _ _ _ h => h) (Or.inl ⟨by rfl, ?_⟩) hH.out ?_
          rotate_left
          · intro w hSw; go_simp; try with_reducible rfl
          try simp only [Act.put, sX, sY, sZ]
          refine anyE_take (i := 10) (v := ?_) gO kR (by exact fun _ _ _ h => h) (Or.inl ⟨by rfl, ?_⟩) hH.out ?_
          rotate_left
          · intro w hSw; go_simp; try with_reducible rfl
          try simp only [Act.put, sX, sY, sZ]
          refine anyE_take (i := 11) (v := ?_) gO kR (by exact fun _ _ _ h => h) (Or.inl ⟨by rfl, ?_⟩) hH.out ?_
          rotate_left
          · intro w hSw; have c := cellB hSw CX3; have c' := cellB hSw CX3'; go_simp; try with_reducible rfl
          try simp only [Act.put, sX, sY, sZ]
          refine anyE_take (i := 12) (v := ?_) gO kR (by exact fun _ _ _ h => h) (Or.inl ⟨by rfl, ?_⟩) hH.out ?_
          rotate_left
          · intro w hSw; go_simp; try with_reducible rfl
          try simp only [Act.put, sX, sY, sZ]
          refine anyE_take (i := 13) (v := ?_) gO kR (by exact fun _ _ _ h => h) (Or.inl ⟨by rfl, ?_⟩) hH.out ?_
          rotate_left
          · intro w hSw; go_simp; try with_reducible rfl
          try simp only [Act.put, sX, sY, sZ]
          refine anyE_take (i := 14) (v := ?_) gO kR (by exact fun _ _ _ h => h) (Or.inl ⟨by rfl, ?_⟩) hH.out ?_
          rotate_left
          · intro w hSw; go_simp; try with_reducible rfl
          try simp only [Act.put, sX, sY, sZ]
          refine anyE_take (i := 15) (v := ?_) gO kR (by exact fun _ _ _ h => h) (Or.inl ⟨by rfl, ?_⟩) hH.out ?_
          rotate_left
          · intro w hSw; go_simp; try with_reducible rfl
          try simp only [Act.put, sX, sY, sZ]
          refine anyE_take (i := 16) (v := ?_) gO kR (by exact fun _ _ _ h => h) (Or.inl ⟨by rfl, ?_⟩) hH.out ?_
          rotate_left
          · intro w hSw; go_simp; try with_reducible rfl
          try simp only [Act.put, sX, sY, sZ]
          refine anyE_one (i := 17) gO kR (fun wi2_17 hbwi2_17 K hK => ?_)
          go_simp
          go_at_call 22
          refine (ref7_New false _ _ _ 0 _ (NumAt.nil _ _ _)).mono ?_
          rw [show sg false 0 = 0 from rfl]
          rintro e w8 ⟨A8, n8, c8, rfl, h8, hb8⟩
          have l8 := h8.le_of (by decide) 0 (show (0 : Int).natAbs < 65536 ^ 0 by decide)
          go_simp
          refine hK.out _ _ (show Below wi2_17.heap.size wi2_17 w8 from bW) ?_
          clear hK K
          replace hH := Lib.hid (nx hH.out (show Below w7.heap.size w7 w8 from bW))
          try simp only [Act.put, sX, sY, sZ]
          refine anyE_one (i := 18) gO kR (fun wi2_18 hbwi2_18 K hK => ?_)
          go_simp
          go_at_call 17
          refine (law7_Like _ _ _ _ _ _ 0 _ (h5.to bW) (h8.to bW) (by omega) (by omega)).mono ?_
          rintro e w9 ⟨rfl, hb9⟩
          go_simp
          refine hK.out _ _ (show Below wi2_18.heap.size wi2_18 w9 from bW) ?_
          clear hK K
          replace hH := Lib.hid (nx hH.out (show Below w8.heap.size w8 w9 from bW))
          try simp only [Act.put, sX, sY, sZ]
          refine anyE_take (i := 19) (v := ?_) gO kR (by exact fun _ _ _ h => h) (Or.inl ⟨by rfl, ?_⟩) hH.out ?_
          rotate_left
          · intro w hSw; go_simp; try with_reducible rfl
          try simp only [Act.put, sX, sY, sZ]
          refine anyE_take (i := 20) (v := ?_) gO kR (by exact fun _ _ _ h => h) (Or.inl ⟨by rfl, ?_⟩) hH.out ?_
          rotate_left
          · intro w hSw; go_simp; try with_reducible rfl
          try simp only [Act.put, sX, sY, sZ]
          refine anyE_done kR (fun wzE2 hbzE2 => ?_)
          refine FinD_nil ?_
          try simp only [Act.put, sX, sY, sZ]
          have hbtE2 := Lib.hid (show Below we3.heap.size we3 wzE2 from nx hbdE2 (nx hH.out hbzE2))
          clear hH
          refine anyT_done kR ?_ _
          clear CX1 CX1' CX3 CX3'
          go_wp2_with fail
          go_ret
          exact ⟨rfl, bW⟩
        · have H0 := Lib.hid h0
          have HO := Lib.hid (show okd (s.extract 1 s.size) from Classical.byContradiction fun h => h0 (if_neg h))
          have HK := Lib.hid (show okz s from ⟨by rw [HB.out]; exact HO.out, fun h => H0.out (by have := h.2; rw [HB.out] at this; exact this)⟩)
          have HV := Lib.hid (show zv s = sg true (rdv (s.extract 1 s.size)) by rw [ZS.out, HN.out, HB.out])
          clear h0
          go_enter Try.func4, Try.ntmps4
          go_wp2_with fail
          have X1 := Blk2.newAt w (w.heap.size) 24 (.bool b) (.slice A n c) (by first | rfl | simp)
          have hbwe1 : Below w.heap.size w (w.alloc (.cells #[.bool b, .slice A n c] 24)) := bW
          generalize (w.alloc (.cells #[.bool b, .slice A n c] 24)) = we1 at X1 hbwe1  ⊢
          refine (awake7 _).mono ?_
          rintro e w1 ⟨rfl, hb1⟩
          have d1 := (show Blk2 w1 _ _ _ _ from X1.to bW).cell
          have d1' := (show Blk2 w1 _ _ _ _ from X1.to bW).cell1
          have d2 := (show Blk2 w1 _ _ _ _ from X1.to bW).cell
          have d2' := (show Blk2 w1 _ _ _ _ from X1.to bW).cell1
          go_wp2_with fail
          clear d1 d1' d2 d2'
          refine (law7_Ref b _ _ _ u _ (k1.to bW) (by omega)).mono ?_
          rw [← HSx.out]
          rintro e w2 ⟨A2, n2, c2, rfl, h2, hb2⟩
          have l2 := h2.le_of (by decide) _ (rtx)
          go_wp2_with fail
          have X2 := Blk2.newAt w2 (w2.heap.size) 34 (.bool (bz x)) (.slice A2 n2 c2) (by first | rfl | simp)
          have hbwe2 : Below w2.heap.size w2 (w2.alloc (.cells #[.bool (bz x), .slice A2 n2 c2] 34)) := bW
          generalize (w2.alloc (.cells #[.bool (bz x), .slice A2 n2 c2] 34)) = we2 at X2 hbwe2  ⊢
          refine (ref6_Text _ _ _ _ _ (h2.to bW) (by omega)).mono ?_
          rintro e w3 ⟨rfl, hb3⟩
          have hb0 := HBX.out
          have d3 := (show Blk2 w3 _ _ _ _ from X2.to bW).cell
          have d3' := (show Blk2 w3 _ _ _ _ from X2.to bW).cell1
          go_wp2_with fail
          clear d3 d3'
          refine wp_regionE [] kR kR (mk_nil) (by exact fun _ _ _ _ _ h => h) (by exact fun _ _ _ _ _ h => h) (f := 4) (by rfl) ?_
          have hbdE1 : Below w3.heap.size w3 w3.drew := nxw (Below.refl _ _)
          generalize w3.drew = wdE1 at hbdE1 ⊢
          have hH := Lib.hid (Below.refl wdE1.heap.size wdE1)
          refine anyE_take (i := 0) (v := ?_) gO kR (by exact fun _ _ _ h => h) (Or.inl ⟨by rfl, ?_⟩) hH.out ?_
          rotate_left
          · intro w hSw; go_simp; try with_reducible rfl
          try simp only [Act.put, sX, sY, sZ]
          refine anyE_take (i := 1) (v := ?_) gO kR (by exact fun _ _ _ h => h) (Or.inl ⟨by rfl, ?_⟩) hH.out ?_
          rotate_left
          · intro w hSw; go_simp; try with_reducible rfl
          try simp only [Act.put, sX, sY, sZ]
          refine anyE_take (i := 2) (v := ?_) gO kR (by exact fun _ _ _ h => h) (Or.inl ⟨by rfl, ?_⟩) hH.out ?_
          rotate_left
          · intro w hSw; go_simp; try with_reducible rfl
          try simp only [Act.put, sX, sY, sZ]
          refine anyE_take (i := 3) (v := ?_) gO kR (by exact fun _ _ _ h => h) (Or.inl ⟨by rfl, ?_⟩) hH.out ?_
          rotate_left
          · intro w hSw; go_simp; try with_reducible rfl
          try simp only [Act.put, sX, sY, sZ]
          refine anyE_done kR (fun wzE1 hbzE1 => ?_)
          refine FinD_nil ?_
          try simp only [Act.put, sX, sY, sZ]
          have hbtE1 := Lib.hid (show Below w3.heap.size w3 wzE1 from nx hbdE1 (nx hH.out hbzE1))
          clear hH
          refine anyT_done kR ?_ _
          go_wp2_with fail
          clear hb0
          rw [HCC.out]
          refine (ref6_Read (s.extract 1 s.size) _ (by omega)).mono ?_
          rw [decide_eq_true HO.out]
          rintro e w4 ⟨A4, n4, c4, rfl, h4, hb4⟩
          have l4 := h4.le_of (by decide) _ (rdv_ref (s.extract 1 s.size))
          go_wp2_with fail
          refine (integer_Read s _ (by omega)).mono ?_
          rw [decide_eq_true HK.out]
          rintro e w5 ⟨A5, n5, c5, rfl, h5, hb5⟩
          have q5 := h5.le_of _ (zv_words s)
          have zn : (((n4 : Nat) : Int) == 0) = false := by have : n4 ≠ 0 := (fun e => H0.out ((h4.zero_iff (by decide)).2 e)); simp; omega
          go_wp2_with fail
          have X3 := Blk2.newAt w5 (w5.heap.size) 29 (.bool (bz (zv s))) (.slice A5 n5 c5) (by first | rfl | simp)
          have hbwe3 : Below w5.heap.size w5 (w5.alloc (.cells #[.bool (bz (zv s)), .slice A5 n5 c5] 29)) := bW
          generalize (w5.alloc (.cells #[.bool (bz (zv s)), .slice A5 n5 c5] 29)) = we3 at X3 hbwe3  ⊢
          have CX1 := (show Blk2 we3 _ _ _ _ from X1.to bW).cell
          have CX1' := (show Blk2 we3 _ _ _ _ from X1.to bW).cell1
          have CX3 := (show Blk2 we3 _ _ _ _ from X3.to bW).cell
          have CX3' := (show Blk2 we3 _ _ _ _ from X3.to bW).cell1
          refine wp_regionE [] kR kR (mk_nil) (by exact fun _ _ _ _ _ h => h) (by exact fun _ _ _ _ _ h => h) (f := 21) (by rfl) ?_
          have hbdE2 : Below we3.heap.size we3 we3.drew := nxw (Below.refl _ _)
          generalize we3.drew = wdE2 at hbdE2 ⊢
          replace CX1 := cellB hbdE2 CX1
          replace CX1' := cellB hbdE2 CX1'
          replace CX3 := cellB hbdE2 CX3
          replace CX3' := cellB hbdE2 CX3'
          have hH := Lib.hid (Below.refl wdE2.heap.size wdE2)
          refine anyE_take (i := 0) (v := ?_) gO kR (by exact fun _ _ _ h => h) (Or.inl ⟨by rfl, ?_⟩) hH.out ?_
          rotate_left
          · intro w hSw; have c := cellB hSw CX1; have c' := cellB hSw CX1'; go_simp; try with_reducible rfl
          try simp only [Act.put, sX, sY, sZ]
          refine anyE_take (i := 3) (v := ?_) gO kR (by exact fun _ _ _ h => h) (Or.inl ⟨by rfl, ?_⟩) hH.out ?_
          rotate_left
          · intro w hSw; go_simp; try with_reducible rfl
          try simp only [Act.put, sX, sY, sZ]
          refine anyE_one (i := 1) gO kR (fun wi2_1 hbwi2_1 K hK => ?_)
          go_simp
          go_at_call 12
          refine (law7_Make b _ _ _ u _ (k1.to bW) (by omega)).mono ?_
          rw [← HSx.out]
          rintro e w6 ⟨A6, n6, c6, rfl, h6, hb6⟩
          have q6 := h6.le_of _ (ltx)
          go_simp
          refine hK.out _ _ (show Below wi2_1.heap.size wi2_1 w6 from bW) ?_
          clear hK K
          replace hH := Lib.hid (nx hH.out (show Below wdE2.heap.size wdE2 w6 from bW))
          try simp only [Act.put, sX, sY, sZ]
          refine anyE_one (i := 2) gO kR (fun wi2_2 hbwi2_2 K hK => ?_)
          go_simp
          go_at_call 21
          refine (integer_Text _ _ _ x _ (h6.to bW) (by omega)).mono ?_
          rintro e w7 ⟨rfl, hb7⟩
          go_simp
          refine hK.out _ _ (show Below wi2_2.heap.size wi2_2 w7 from bW) ?_
          clear hK K
          replace hH := Lib.hid (nx hH.out (show Below w6.heap.size w6 w7 from bW))
          try simp only [Act.put, sX, sY, sZ]
          refine anyE_take (i := 4) (v := ?_) gO kR (by exact fun _ _ _ h => h) (Or.inl ⟨by rfl, ?_⟩) hH.out ?_
          rotate_left
          · intro w hSw; go_simp; try with_reducible rfl
          try simp only [Act.put, sX, sY, sZ]
          refine anyE_take (i := 5) (v := ?_) gO kR (by exact fun _ _ _ h => h) (Or.inl ⟨by rfl, ?_⟩) hH.out ?_
          rotate_left
          · intro w hSw; go_simp; try with_reducible rfl
          try simp only [Act.put, sX, sY, sZ]
          refine anyE_take (i := 6) (v := ?_) gO kR (by exact fun _ _ _ h => h) (Or.inl ⟨by rfl, ?_⟩) hH.out ?_
          rotate_left
          · intro w hSw; go_simp; try with_reducible rfl
          try simp only [Act.put, sX, sY, sZ]
          refine anyE_take (i := 7) (v := ?_) gO kR (by exact fun _ _ _ h => h) (Or.inl ⟨by rfl, ?_⟩) hH.out ?_
          rotate_left
          · intro w hSw; go_simp; try with_reducible rfl
          try simp only [Act.put, sX, sY, sZ]
          refine anyE_take (i := 8) (v := ?_) gO kR (by exact fun _ _ _ h => h) (Or.inl ⟨by rfl, ?_⟩) hH.out ?_
          rotate_left
          · intro w hSw; go_simp; try with_reducible rfl
          try simp only [Act.put, sX, sY, sZ]
          refine anyE_take (i := 9) (v := ?_) gO kR (by exact fun _ _ _ h => h) (Or.inl ⟨by rfl, ?_⟩) hH.out ?_
          rotate_left
          · intro w hSw; go_simp; try with_reducible rfl
          try simp only [Act.put, sX, sY, sZ]
          refine anyE_take (i := 10) (v := ?_) gO kR (by exact fun _ _ _ h => h) (Or.inl ⟨by rfl, ?_⟩) hH.out ?_
          rotate_left
          · intro w hSw; go_simp; try with_reducible rfl
          try simp only [Act.put, sX, sY, sZ]
          refine anyE_take (i := 11) (v := ?_) gO kR (by exact fun _ _ _ h => h) (Or.inl ⟨by rfl, ?_⟩) hH.out ?_
          rotate_left
          · intro w hSw; have c := cellB hSw CX3; have c' := cellB hSw CX3'; go_simp; try with_reducible rfl
          try simp only [Act.put, sX, sY, sZ]
          refine anyE_take (i := 12) (v := ?_) gO kR (by exact fun _ _ _ h => h) (Or.inl ⟨by rfl, ?_⟩) hH.out ?_
          rotate_left
          · intro w hSw; go_simp; try with_reducible rfl
          try simp only [Act.put, sX, sY, sZ]
          refine anyE_take (i := 13) (v := ?_) gO kR (by exact fun _ _ _ h => h) (Or.inl ⟨by rfl, ?_⟩) hH.out ?_
          rotate_left
          · intro w hSw; go_simp; try with_reducible rfl
          try simp only [Act.put, sX, sY, sZ]
          refine anyE_take (i := 14) (v := ?_) gO kR (by exact fun _ _ _ h => h) (Or.inl ⟨by rfl, ?_⟩) hH.out ?_
          rotate_left
          · intro w hSw; go_simp; try with_reducible rfl
          try simp only [Act.put, sX, sY, sZ]
          refine anyE_take (i := 15) (v := ?_) gO kR (by exact fun _ _ _ h => h) (Or.inl ⟨by rfl, ?_⟩) hH.out ?_
          rotate_left
          · intro w hSw; go_simp; try with_reducible rfl
          try simp only [Act.put, sX, sY, sZ]
          refine anyE_take (i := 16) (v := ?_) gO kR (by exact fun _ _ _ h => h) (Or.inl ⟨by rfl, ?_⟩) hH.out ?_
          rotate_left
          · intro w hSw; go_simp; try with_reducible rfl
          try simp only [Act.put, sX, sY, sZ]
          refine anyE_one (i := 17) gO kR (fun wi2_17 hbwi2_17 K hK => ?_)
          go_simp
          go_at_call 22
          refine (ref7_New true _ _ _ (rdv (s.extract 1 s.size)) _ (h4.to bW)).mono ?_
          rw [← HV.out]
          rintro e w8 ⟨A8, n8, c8, rfl, h8, hb8⟩
          have l8 := h8.le_of (by decide) _ (zv_ref s)
          go_simp
          refine hK.out _ _ (show Below wi2_17.heap.size wi2_17 w8 from bW) ?_
          clear hK K
          replace hH := Lib.hid (nx hH.out (show Below w7.heap.size w7 w8 from bW))
          try simp only [Act.put, sX, sY, sZ]
          refine anyE_one (i := 18) gO kR (fun wi2_18 hbwi2_18 K hK => ?_)
          go_simp
          go_at_call 17
          refine (law7_Like _ _ _ _ _ _ (zv s) _ (h5.to bW) (h8.to bW) (by omega) (by omega)).mono ?_
          rintro e w9 ⟨rfl, hb9⟩
          go_simp
          refine hK.out _ _ (show Below wi2_18.heap.size wi2_18 w9 from bW) ?_
          clear hK K
          replace hH := Lib.hid (nx hH.out (show Below w8.heap.size w8 w9 from bW))
          try simp only [Act.put, sX, sY, sZ]
          refine anyE_take (i := 19) (v := ?_) gO kR (by exact fun _ _ _ h => h) (Or.inl ⟨by rfl, ?_⟩) hH.out ?_
          rotate_left
          · intro w hSw; go_simp; try with_reducible rfl
          try simp only [Act.put, sX, sY, sZ]
          refine anyE_take (i := 20) (v := ?_) gO kR (by exact fun _ _ _ h => h) (Or.inl ⟨by rfl, ?_⟩) hH.out ?_
          rotate_left
          · intro w hSw; go_simp; try with_reducible rfl
          try simp only [Act.put, sX, sY, sZ]
          refine anyE_done kR (fun wzE2 hbzE2 => ?_)
          refine FinD_nil ?_
          try simp only [Act.put, sX, sY, sZ]
          have hbtE2 := Lib.hid (show Below we3.heap.size we3 wzE2 from nx hbdE2 (nx hH.out hbzE2))
          clear hH
          refine anyT_done kR ?_ _
          clear CX1 CX1' CX3 CX3'
          go_wp2_with fail
          go_ret
          exact ⟨rfl, bW⟩
  case false =>
    have HBX := Lib.hid hbx
    have HCC := Lib.hid (ztx_pos hbx).symm
    clear hbx
    rcases Nat.eq_zero_or_pos s.size with hz | hz
    · have HN := Lib.hid (show nb s = false from decide_eq_false (fun h => by omega))
      have e1 := toList_empty hz
      have HB := Lib.hid (show body s = s by unfold body; rw [HN.out]; rfl)
      obtain ⟨d, hd⟩ : ∃ d, d = decide (okd s) := ⟨_, rfl⟩
      have HD := Lib.hid hd
      have HK := Lib.hid (show decide (okz s) = d by rw [hd]; exact decide_eq_decide.2 ⟨fun h => by have := h.1; rw [HB.out] at this; exact this, fun h => ⟨by rw [HB.out]; exact h, fun hh => by have := HN.out; rw [hh.1] at this; cases this⟩⟩)
      have HV := Lib.hid (show zv s = sg false (rdv s) by rw [ZS.out, HN.out, HB.out])
      clear hd
      clear hz
      go_enter Try.func4, Try.ntmps4
      go_wp2_with fail
      have X1 := Blk2.newAt w (w.heap.size) 24 (.bool b) (.slice A n c) (by first | rfl | simp)
      have hbwe1 : Below w.heap.size w (w.alloc (.cells #[.bool b, .slice A n c] 24)) := bW
      generalize (w.alloc (.cells #[.bool b, .slice A n c] 24)) = we1 at X1 hbwe1  ⊢
      refine (awake7 _).mono ?_
      rintro e w1 ⟨rfl, hb1⟩
      have d1 := (show Blk2 w1 _ _ _ _ from X1.to bW).cell
      have d1' := (show Blk2 w1 _ _ _ _ from X1.to bW).cell1
      have d2 := (show Blk2 w1 _ _ _ _ from X1.to bW).cell
      have d2' := (show Blk2 w1 _ _ _ _ from X1.to bW).cell1
      go_wp2_with fail
      clear d1 d1' d2 d2'
      refine (law7_Ref b _ _ _ u _ (k1.to bW) (by omega)).mono ?_
      rw [← HSx.out]
      rintro e w2 ⟨A2, n2, c2, rfl, h2, hb2⟩
      have l2 := h2.le_of (by decide) _ (rtx)
      go_wp2_with fail
      have X2 := Blk2.newAt w2 (w2.heap.size) 34 (.bool (bz x)) (.slice A2 n2 c2) (by first | rfl | simp)
      have hbwe2 : Below w2.heap.size w2 (w2.alloc (.cells #[.bool (bz x), .slice A2 n2 c2] 34)) := bW
      generalize (w2.alloc (.cells #[.bool (bz x), .slice A2 n2 c2] 34)) = we2 at X2 hbwe2  ⊢
      refine (ref6_Text _ _ _ _ _ (h2.to bW) (by omega)).mono ?_
      rw [HCC.out]
      rintro e w3 ⟨rfl, hb3⟩
      have hb0 := HBX.out
      have d3 := (show Blk2 w3 _ _ _ _ from X2.to bW).cell
      have d3' := (show Blk2 w3 _ _ _ _ from X2.to bW).cell1
      go_wp2_with fail
      clear d3 d3'
      clear hb0
      refine (ref6_Read s _ (by omega)).mono ?_
      rw [← HD.out]
      rintro e w4 ⟨A4, n4, c4, rfl, h4, hb4⟩
      have l4 := h4.le_of (by decide) _ (rdv_ref s)
      go_wp2_with fail
      refine (integer_Read s _ (by omega)).mono ?_
      rw [HK.out]
      rintro e w5 ⟨A5, n5, c5, rfl, h5, hb5⟩
      have q5 := h5.le_of _ (zv_words s)
      go_wp2_with fail
      have X3 := Blk2.newAt w5 (w5.heap.size) 29 (.bool (bz (zv s))) (.slice A5 n5 c5) (by first | rfl | simp)
      have hbwe3 : Below w5.heap.size w5 (w5.alloc (.cells #[.bool (bz (zv s)), .slice A5 n5 c5] 29)) := bW
      generalize (w5.alloc (.cells #[.bool (bz (zv s)), .slice A5 n5 c5] 29)) = we3 at X3 hbwe3  ⊢
      have CX1 := (show Blk2 we3 _ _ _ _ from X1.to bW).cell
      have CX1' := (show Blk2 we3 _ _ _ _ from X1.to bW).cell1
      have CX3 := (show Blk2 we3 _ _ _ _ from X3.to bW).cell
      have CX3' := (show Blk2 we3 _ _ _ _ from X3.to bW).cell1
      refine wp_regionE [] kR kR (mk_nil) (by exact fun _ _ _ _ _ h => h) (by exact fun _ _ _ _ _ h => h) (f := 21) (by rfl) ?_
      have hbdE1 : Below we3.heap.size we3 we3.drew := nxw (Below.refl _ _)
      generalize we3.drew = wdE1 at hbdE1 ⊢
      replace CX1 := cellB hbdE1 CX1
      replace CX1' := cellB hbdE1 CX1'
      replace CX3 := cellB hbdE1 CX3
      replace CX3' := cellB hbdE1 CX3'
      have hH := Lib.hid (Below.refl wdE1.heap.size wdE1)
      refine anyE_take (i := 0) (v := ?_) gO kR (by exact fun _ _ _ h => h) (Or.inl ⟨by rfl, ?_⟩) hH.out ?_
      rotate_left
      · intro w hSw; have c := cellB hSw CX1; have c' := cellB hSw CX1'; go_simp; try with_reducible rfl
      try simp only [Act.put, sX, sY, sZ]
      refine anyE_take (i := 3) (v := ?_) gO kR (by exact fun _ _ _ h => h) (Or.inl ⟨by rfl, ?_⟩) hH.out ?_
      rotate_left
      · intro w hSw; go_simp; try with_reducible rfl
      try simp only [Act.put, sX, sY, sZ]
      refine anyE_one (i := 1) gO kR (fun wi1_1 hbwi1_1 K hK => ?_)
      go_simp
      go_at_call 12
      refine (law7_Make b _ _ _ u _ (k1.to bW) (by omega)).mono ?_
      rw [← HSx.out]
      rintro e w6 ⟨A6, n6, c6, rfl, h6, hb6⟩
      have q6 := h6.le_of _ (ltx)
      go_simp
      refine hK.out _ _ (show Below wi1_1.heap.size wi1_1 w6 from bW) ?_
      clear hK K
      replace hH := Lib.hid (nx hH.out (show Below wdE1.heap.size wdE1 w6 from bW))
      try simp only [Act.put, sX, sY, sZ]
      refine anyE_one (i := 2) gO kR (fun wi1_2 hbwi1_2 K hK => ?_)
      go_simp
      go_at_call 21
      refine (integer_Text _ _ _ x _ (h6.to bW) (by omega)).mono ?_
      rintro e w7 ⟨rfl, hb7⟩
      go_simp
      refine hK.out _ _ (show Below wi1_2.heap.size wi1_2 w7 from bW) ?_
      clear hK K
      replace hH := Lib.hid (nx hH.out (show Below w6.heap.size w6 w7 from bW))
      try simp only [Act.put, sX, sY, sZ]
      refine anyE_take (i := 4) (v := ?_) gO kR (by exact fun _ _ _ h => h) (Or.inl ⟨by rfl, ?_⟩) hH.out ?_
      rotate_left
      · intro w hSw; go_simp; try with_reducible rfl
      try simp only [Act.put, sX, sY, sZ]
      refine anyE_take (i := 5) (v := ?_) gO kR (by exact fun _ _ _ h => h) (Or.inl ⟨by rfl, ?_⟩) hH.out ?_
      rotate_left
      · intro w hSw; go_simp; try with_reducible rfl
      try simp only [Act.put, sX, sY, sZ]
      refine anyE_take (i := 6) (v := ?_) gO kR (by exact fun _ _ _ h => h) (Or.inl ⟨by rfl, ?_⟩) hH.out ?_
      rotate_left
      · intro w hSw; go_simp; try with_reducible rfl
      try simp only [Act.put, sX, sY, sZ]
      refine anyE_take (i := 7) (v := ?_) gO kR (by exact fun _ _ _ h => h) (Or.inl ⟨by rfl, ?_⟩) hH.out ?_
      rotate_left
      · intro w hSw; go_simp; try with_reducible rfl
      try simp only [Act.put, sX, sY, sZ]
      refine anyE_take (i := 8) (v := ?_) gO kR (by exact fun _ _ _ h => h) (Or.inl ⟨by rfl, ?_⟩) hH.out ?_
      rotate_left
      · intro w hSw; go_simp; try with_reducible rfl
      try simp only [Act.put, sX, sY, sZ]
      refine anyE_take (i := 9) (v := ?_) gO kR (by exact fun _ _ _ h => h) (Or.inl ⟨by rfl, ?_⟩) hH.out ?_
      rotate_left
      · intro w hSw; go_simp; try with_reducible rfl
      try simp only [Act.put, sX, sY, sZ]
      refine anyE_take (i := 10) (v := ?_) gO kR (by exact fun _ _ _ h => h) (Or.inl ⟨by rfl, ?_⟩) hH.out ?_
      rotate_left
      · intro w hSw; go_simp; try with_reducible rfl
      try simp only [Act.put, sX, sY, sZ]
      refine anyE_take (i := 11) (v := ?_) gO kR (by exact fun _ _ _ h => h) (Or.inl ⟨by rfl, ?_⟩) hH.out ?_
      rotate_left
      · intro w hSw; have c := cellB hSw CX3; have c' := cellB hSw CX3'; go_simp; try with_reducible rfl
      try simp only [Act.put, sX, sY, sZ]
      refine anyE_take (i := 12) (v := ?_) gO kR (by exact fun _ _ _ h => h) (Or.inl ⟨by rfl, ?_⟩) hH.out ?_
      rotate_left
      · intro w hSw; go_simp; try with_reducible rfl
      try simp only [Act.put, sX, sY, sZ]
      refine anyE_take (i := 13) (v := ?_) gO kR (by exact fun _ _ _ h => h) (Or.inl ⟨by rfl, ?_⟩) hH.out ?_
      rotate_left
      · intro w hSw; go_simp; try with_reducible rfl
      try simp only [Act.put, sX, sY, sZ]
      refine anyE_take (i := 14) (v := undef) gO kR (by exact fun _ _ _ h => h) (Or.inr ⟨by rfl, rfl⟩) hH.out ?_
      try simp only [Act.put, sX, sY, sZ]
      refine anyE_take (i := 15) (v := ?_) gO kR (by exact fun _ _ _ h => h) (Or.inl ⟨by rfl, ?_⟩) hH.out ?_
      rotate_left
      · intro w hSw; go_simp; try with_reducible rfl
      try simp only [Act.put, sX, sY, sZ]
      refine anyE_take (i := 16) (v := ?_) gO kR (by exact fun _ _ _ h => h) (Or.inl ⟨by rfl, ?_⟩) hH.out ?_
      rotate_left
      · intro w hSw; go_simp; try with_reducible rfl
      try simp only [Act.put, sX, sY, sZ]
      refine anyE_one (i := 17) gO kR (fun wi1_17 hbwi1_17 K hK => ?_)
      go_simp
      go_at_call 22
      refine (ref7_New false _ _ _ (rdv s) _ (h4.to bW)).mono ?_
      rw [← HV.out]
      rintro e w8 ⟨A8, n8, c8, rfl, h8, hb8⟩
      have l8 := h8.le_of (by decide) _ (zv_ref s)
      go_simp
      refine hK.out _ _ (show Below wi1_17.heap.size wi1_17 w8 from bW) ?_
      clear hK K
      replace hH := Lib.hid (nx hH.out (show Below w7.heap.size w7 w8 from bW))
      try simp only [Act.put, sX, sY, sZ]
      refine anyE_one (i := 18) gO kR (fun wi1_18 hbwi1_18 K hK => ?_)
      go_simp
      go_at_call 17
      refine (law7_Like _ _ _ _ _ _ (zv s) _ (h5.to bW) (h8.to bW) (by omega) (by omega)).mono ?_
      rintro e w9 ⟨rfl, hb9⟩
      go_simp
      refine hK.out _ _ (show Below wi1_18.heap.size wi1_18 w9 from bW) ?_
      clear hK K
      replace hH := Lib.hid (nx hH.out (show Below w8.heap.size w8 w9 from bW))
      try simp only [Act.put, sX, sY, sZ]
      refine anyE_take (i := 19) (v := ?_) gO kR (by exact fun _ _ _ h => h) (Or.inl ⟨by rfl, ?_⟩) hH.out ?_
      rotate_left
      · intro w hSw; go_simp; try with_reducible rfl
      try simp only [Act.put, sX, sY, sZ]
      refine anyE_take (i := 20) (v := ?_) gO kR (by exact fun _ _ _ h => h) (Or.inl ⟨by rfl, ?_⟩) hH.out ?_
      rotate_left
      · intro w hSw; go_simp; try with_reducible rfl
      try simp only [Act.put, sX, sY, sZ]
      refine anyE_done kR (fun wzE1 hbzE1 => ?_)
      refine FinD_nil ?_
      try simp only [Act.put, sX, sY, sZ]
      have hbtE1 := Lib.hid (show Below we3.heap.size we3 wzE1 from nx hbdE1 (nx hH.out hbzE1))
      clear hH
      refine anyT_done kR ?_ _
      clear CX1 CX1' CX3 CX3'
      go_wp2_with fail
      go_ret
      exact ⟨rfl, bW⟩
    · have e1 := toList_some hz
      have e2 := isEmpty_some hz
      have SG := sd_get s
      have hz9 : 1 ≤ s.size := hz
      have hz8 : (1 : Int) ≤ (s.size : Int) := by omega
      by_cases h45 : sd s 0 = 45
      rotate_left
      · have z1 : (((sd s 0 : Nat) : Int) == 45) = false := by simp; omega
        have HN := Lib.hid (show nb s = false from decide_eq_false (fun h => h45 h.2))
        have HB := Lib.hid (show body s = s by unfold body; rw [HN.out]; rfl)
        obtain ⟨d, hd⟩ : ∃ d, d = decide (okd s) := ⟨_, rfl⟩
        have HD := Lib.hid hd
        have HK := Lib.hid (show decide (okz s) = d by rw [hd]; exact decide_eq_decide.2 ⟨fun h => by have := h.1; rw [HB.out] at this; exact this, fun h => ⟨by rw [HB.out]; exact h, fun hh => by have := HN.out; rw [hh.1] at this; cases this⟩⟩)
        have HV := Lib.hid (show zv s = sg false (rdv s) by rw [ZS.out, HN.out, HB.out])
        clear hd
        clear h45
        go_enter Try.func4, Try.ntmps4
        go_wp2_with fail
        have X1 := Blk2.newAt w (w.heap.size) 24 (.bool b) (.slice A n c) (by first | rfl | simp)
        have hbwe1 : Below w.heap.size w (w.alloc (.cells #[.bool b, .slice A n c] 24)) := bW
        generalize (w.alloc (.cells #[.bool b, .slice A n c] 24)) = we1 at X1 hbwe1  ⊢
        refine (awake7 _).mono ?_
        rintro e w1 ⟨rfl, hb1⟩
        have d1 := (show Blk2 w1 _ _ _ _ from X1.to bW).cell
        have d1' := (show Blk2 w1 _ _ _ _ from X1.to bW).cell1
        have d2 := (show Blk2 w1 _ _ _ _ from X1.to bW).cell
        have d2' := (show Blk2 w1 _ _ _ _ from X1.to bW).cell1
        go_wp2_with fail
        clear d1 d1' d2 d2'
        refine (law7_Ref b _ _ _ u _ (k1.to bW) (by omega)).mono ?_
        rw [← HSx.out]
        rintro e w2 ⟨A2, n2, c2, rfl, h2, hb2⟩
        have l2 := h2.le_of (by decide) _ (rtx)
        go_wp2_with fail
        have X2 := Blk2.newAt w2 (w2.heap.size) 34 (.bool (bz x)) (.slice A2 n2 c2) (by first | rfl | simp)
        have hbwe2 : Below w2.heap.size w2 (w2.alloc (.cells #[.bool (bz x), .slice A2 n2 c2] 34)) := bW
        generalize (w2.alloc (.cells #[.bool (bz x), .slice A2 n2 c2] 34)) = we2 at X2 hbwe2  ⊢
        refine (ref6_Text _ _ _ _ _ (h2.to bW) (by omega)).mono ?_
        rw [HCC.out]
        rintro e w3 ⟨rfl, hb3⟩
        have hb0 := HBX.out
        have d3 := (show Blk2 w3 _ _ _ _ from X2.to bW).cell
        have d3' := (show Blk2 w3 _ _ _ _ from X2.to bW).cell1
        go_wp2_with fail
        clear d3 d3'
        clear hb0
        refine (ref6_Read s _ (by omega)).mono ?_
        rw [← HD.out]
        rintro e w4 ⟨A4, n4, c4, rfl, h4, hb4⟩
        have l4 := h4.le_of (by decide) _ (rdv_ref s)
        go_wp2_with fail
        refine (integer_Read s _ (by omega)).mono ?_
        rw [HK.out]
        rintro e w5 ⟨A5, n5, c5, rfl, h5, hb5⟩
        have q5 := h5.le_of _ (zv_words s)
        go_wp2_with fail
        have X3 := Blk2.newAt w5 (w5.heap.size) 29 (.bool (bz (zv s))) (.slice A5 n5 c5) (by first | rfl | simp)
        have hbwe3 : Below w5.heap.size w5 (w5.alloc (.cells #[.bool (bz (zv s)), .slice A5 n5 c5] 29)) := bW
        generalize (w5.alloc (.cells #[.bool (bz (zv s)), .slice A5 n5 c5] 29)) = we3 at X3 hbwe3  ⊢
        have CX1 := (show Blk2 we3 _ _ _ _ from X1.to bW).cell
        have CX1' := (show Blk2 we3 _ _ _ _ from X1.to bW).cell1
        have CX3 := (show Blk2 we3 _ _ _ _ from X3.to bW).cell
        have CX3' := (show Blk2 we3 _ _ _ _ from X3.to bW).cell1
        refine wp_regionE [] kR kR (mk_nil) (by exact fun _ _ _ _ _ h => h) (by exact fun _ _ _ _ _ h => h) (f := 21) (by rfl) ?_
        have hbdE1 : Below we3.heap.size we3 we3.drew := nxw (Below.refl _ _)
        generalize we3.drew = wdE1 at hbdE1 ⊢
        replace CX1 := cellB hbdE1 CX1
        replace CX1' := cellB hbdE1 CX1'
        replace CX3 := cellB hbdE1 CX3
        replace CX3' := cellB hbdE1 CX3'
        have hH := Lib.hid (Below.refl wdE1.heap.size wdE1)
        refine anyE_take (i := 0) (v := ?_) gO kR (by exact fun _ _ _ h => h) (Or.inl ⟨by rfl, ?_⟩) hH.out ?_
        rotate_left
        · intro w hSw; have c := cellB hSw CX1; have c' := cellB hSw CX1'; go_simp; try with_reducible rfl
        try simp only [Act.put, sX, sY, sZ]
        refine anyE_take (i := 3) (v := ?_) gO kR (by exact fun _ _ _ h => h) (Or.inl ⟨by rfl, ?_⟩) hH.out ?_
        rotate_left
        · intro w hSw; go_simp; try with_reducible rfl
        try simp only [Act.put, sX, sY, sZ]
        refine anyE_one (i := 1) gO kR (fun wi1_1 hbwi1_1 K hK => ?_)
        go_simp
        go_at_call 12
        refine (law7_Make b _ _ _ u _ (k1.to bW) (by omega)).mono ?_
        rw [← HSx.out]
        rintro e w6 ⟨A6, n6, c6, rfl, h6, hb6⟩
        have q6 := h6.le_of _ (ltx)
        go_simp
        refine hK.out _ _ (show Below wi1_1.heap.size wi1_1 w6 from bW) ?_
        clear hK K
        replace hH := Lib.hid (nx hH.out (show Below wdE1.heap.size wdE1 w6 from bW))
        try simp only [Act.put, sX, sY, sZ]
        refine anyE_one (i := 2) gO kR (fun wi1_2 hbwi1_2 K hK => ?_)
        go_simp
        go_at_call 21
        refine (integer_Text _ _ _ x _ (h6.to bW) (by omega)).mono ?_
        rintro e w7 ⟨rfl, hb7⟩
        go_simp
        refine hK.out _ _ (show Below wi1_2.heap.size wi1_2 w7 from bW) ?_
        clear hK K
        replace hH := Lib.hid (nx hH.out (show Below w6.heap.size w6 w7 from bW))
        try simp only [Act.put, sX, sY, sZ]
        refine anyE_take (i := 4) (v := ?_) gO kR (by exact fun _ _ _ h => h) (Or.inl ⟨by rfl, ?_⟩) hH.out ?_
        rotate_left
        · intro w hSw; go_simp; try with_reducible rfl
        try simp only [Act.put, sX, sY, sZ]
        refine anyE_take (i := 5) (v := ?_) gO kR (by exact fun _ _ _ h => h) (Or.inl ⟨by rfl, ?_⟩) hH.out ?_
        rotate_left
        · intro w hSw; go_simp; try with_reducible rfl
        try simp only [Act.put, sX, sY, sZ]
        refine anyE_take (i := 6) (v := ?_) gO kR (by exact fun _ _ _ h => h) (Or.inl ⟨by rfl, ?_⟩) hH.out ?_
        rotate_left
        · intro w hSw; go_simp; try with_reducible rfl
        try simp only [Act.put, sX, sY, sZ]
        refine anyE_take (i := 7) (v := ?_) gO kR (by exact fun _ _ _ h => h) (Or.inl ⟨by rfl, ?_⟩) hH.out ?_
        rotate_left
        · intro w hSw; go_simp; try with_reducible rfl
        try simp only [Act.put, sX, sY, sZ]
        refine anyE_take (i := 8) (v := ?_) gO kR (by exact fun _ _ _ h => h) (Or.inl ⟨by rfl, ?_⟩) hH.out ?_
        rotate_left
        · intro w hSw; go_simp; try with_reducible rfl
        try simp only [Act.put, sX, sY, sZ]
        refine anyE_take (i := 9) (v := ?_) gO kR (by exact fun _ _ _ h => h) (Or.inl ⟨by rfl, ?_⟩) hH.out ?_
        rotate_left
        · intro w hSw; go_simp; try with_reducible rfl
        try simp only [Act.put, sX, sY, sZ]
        refine anyE_take (i := 10) (v := ?_) gO kR (by exact fun _ _ _ h => h) (Or.inl ⟨by rfl, ?_⟩) hH.out ?_
        rotate_left
        · intro w hSw; go_simp; try with_reducible rfl
        try simp only [Act.put, sX, sY, sZ]
        refine anyE_take (i := 11) (v := ?_) gO kR (by exact fun _ _ _ h => h) (Or.inl ⟨by rfl, ?_⟩) hH.out ?_
        rotate_left
        · intro w hSw; have c := cellB hSw CX3; have c' := cellB hSw CX3'; go_simp; try with_reducible rfl
        try simp only [Act.put, sX, sY, sZ]
        refine anyE_take (i := 12) (v := ?_) gO kR (by exact fun _ _ _ h => h) (Or.inl ⟨by rfl, ?_⟩) hH.out ?_
        rotate_left
        · intro w hSw; go_simp; try with_reducible rfl
        try simp only [Act.put, sX, sY, sZ]
        refine anyE_take (i := 13) (v := ?_) gO kR (by exact fun _ _ _ h => h) (Or.inl ⟨by rfl, ?_⟩) hH.out ?_
        rotate_left
        · intro w hSw; go_simp; try with_reducible rfl
        try simp only [Act.put, sX, sY, sZ]
        refine anyE_take (i := 14) (v := undef) gO kR (by exact fun _ _ _ h => h) (Or.inr ⟨by rfl, rfl⟩) hH.out ?_
        try simp only [Act.put, sX, sY, sZ]
        refine anyE_take (i := 15) (v := ?_) gO kR (by exact fun _ _ _ h => h) (Or.inl ⟨by rfl, ?_⟩) hH.out ?_
        rotate_left
        · intro w hSw; go_simp; try with_reducible rfl
        try simp only [Act.put, sX, sY, sZ]
        refine anyE_take (i := 16) (v := ?_) gO kR (by exact fun _ _ _ h => h) (Or.inl ⟨by rfl, ?_⟩) hH.out ?_
        rotate_left
        · intro w hSw; go_simp; try with_reducible rfl
        try simp only [Act.put, sX, sY, sZ]
        refine anyE_one (i := 17) gO kR (fun wi1_17 hbwi1_17 K hK => ?_)
        go_simp
        go_at_call 22
        refine (ref7_New false _ _ _ (rdv s) _ (h4.to bW)).mono ?_
        rw [← HV.out]
        rintro e w8 ⟨A8, n8, c8, rfl, h8, hb8⟩
        have l8 := h8.le_of (by decide) _ (zv_ref s)
        go_simp
        refine hK.out _ _ (show Below wi1_17.heap.size wi1_17 w8 from bW) ?_
        clear hK K
        replace hH := Lib.hid (nx hH.out (show Below w7.heap.size w7 w8 from bW))
        try simp only [Act.put, sX, sY, sZ]
        refine anyE_one (i := 18) gO kR (fun wi1_18 hbwi1_18 K hK => ?_)
        go_simp
        go_at_call 17
        refine (law7_Like _ _ _ _ _ _ (zv s) _ (h5.to bW) (h8.to bW) (by omega) (by omega)).mono ?_
        rintro e w9 ⟨rfl, hb9⟩
        go_simp
        refine hK.out _ _ (show Below wi1_18.heap.size wi1_18 w9 from bW) ?_
        clear hK K
        replace hH := Lib.hid (nx hH.out (show Below w8.heap.size w8 w9 from bW))
        try simp only [Act.put, sX, sY, sZ]
        refine anyE_take (i := 19) (v := ?_) gO kR (by exact fun _ _ _ h => h) (Or.inl ⟨by rfl, ?_⟩) hH.out ?_
        rotate_left
        · intro w hSw; go_simp; try with_reducible rfl
        try simp only [Act.put, sX, sY, sZ]
        refine anyE_take (i := 20) (v := ?_) gO kR (by exact fun _ _ _ h => h) (Or.inl ⟨by rfl, ?_⟩) hH.out ?_
        rotate_left
        · intro w hSw; go_simp; try with_reducible rfl
        try simp only [Act.put, sX, sY, sZ]
        refine anyE_done kR (fun wzE1 hbzE1 => ?_)
        refine FinD_nil ?_
        try simp only [Act.put, sX, sY, sZ]
        have hbtE1 := Lib.hid (show Below we3.heap.size we3 wzE1 from nx hbdE1 (nx hH.out hbzE1))
        clear hH
        refine anyT_done kR ?_ _
        clear CX1 CX1' CX3 CX3'
        go_wp2_with fail
        go_ret
        exact ⟨rfl, bW⟩
      · have z1 : (((sd s 0 : Nat) : Int) == 45) = true := by simp; omega
        have HN := Lib.hid (show nb s = true from decide_eq_true ⟨hz, h45⟩)
        have HB := Lib.hid (show body s = s.extract 1 s.size by unfold body; rw [HN.out]; rfl)
        clear h45
        by_cases h0 : rdv (s.extract 1 s.size) = 0
        · have H0 := Lib.hid h0
          have HK := Lib.hid (show ¬ okz s from fun h => h.2 ⟨HN.out, by rw [HB.out]; exact h0⟩)
          obtain ⟨d, hd⟩ : ∃ d, d = decide (okd (s.extract 1 s.size)) := ⟨_, rfl⟩
          have HD := Lib.hid hd
          clear h0 hd
          go_enter Try.func4, Try.ntmps4
          go_wp2_with fail
          have X1 := Blk2.newAt w (w.heap.size) 24 (.bool b) (.slice A n c) (by first | rfl | simp)
          have hbwe1 : Below w.heap.size w (w.alloc (.cells #[.bool b, .slice A n c] 24)) := bW
          generalize (w.alloc (.cells #[.bool b, .slice A n c] 24)) = we1 at X1 hbwe1  ⊢
          refine (awake7 _).mono ?_
          rintro e w1 ⟨rfl, hb1⟩
          have d1 := (show Blk2 w1 _ _ _ _ from X1.to bW).cell
          have d1' := (show Blk2 w1 _ _ _ _ from X1.to bW).cell1
          have d2 := (show Blk2 w1 _ _ _ _ from X1.to bW).cell
          have d2' := (show Blk2 w1 _ _ _ _ from X1.to bW).cell1
          go_wp2_with fail
          clear d1 d1' d2 d2'
          refine (law7_Ref b _ _ _ u _ (k1.to bW) (by omega)).mono ?_
          rw [← HSx.out]
          rintro e w2 ⟨A2, n2, c2, rfl, h2, hb2⟩
          have l2 := h2.le_of (by decide) _ (rtx)
          go_wp2_with fail
          have X2 := Blk2.newAt w2 (w2.heap.size) 34 (.bool (bz x)) (.slice A2 n2 c2) (by first | rfl | simp)
          have hbwe2 : Below w2.heap.size w2 (w2.alloc (.cells #[.bool (bz x), .slice A2 n2 c2] 34)) := bW
          generalize (w2.alloc (.cells #[.bool (bz x), .slice A2 n2 c2] 34)) = we2 at X2 hbwe2  ⊢
          refine (ref6_Text _ _ _ _ _ (h2.to bW) (by omega)).mono ?_
          rw [HCC.out]
          rintro e w3 ⟨rfl, hb3⟩
          have hb0 := HBX.out
          have d3 := (show Blk2 w3 _ _ _ _ from X2.to bW).cell
          have d3' := (show Blk2 w3 _ _ _ _ from X2.to bW).cell1
          go_wp2_with fail
          clear d3 d3'
          refine wp_regionE [] kR kR (mk_nil) (by exact fun _ _ _ _ _ h => h) (by exact fun _ _ _ _ _ h => h) (f := 4) (by rfl) ?_
          have hbdE1 : Below w3.heap.size w3 w3.drew := nxw (Below.refl _ _)
          generalize w3.drew = wdE1 at hbdE1 ⊢
          have hH := Lib.hid (Below.refl wdE1.heap.size wdE1)
          refine anyE_take (i := 0) (v := ?_) gO kR (by exact fun _ _ _ h => h) (Or.inl ⟨by rfl, ?_⟩) hH.out ?_
          rotate_left
          · intro w hSw; go_simp; try with_reducible rfl
          try simp only [Act.put, sX, sY, sZ]
          refine anyE_take (i := 1) (v := ?_) gO kR (by exact fun _ _ _ h => h) (Or.inl ⟨by rfl, ?_⟩) hH.out ?_
          rotate_left
          · intro w hSw; go_simp; try with_reducible rfl
          try simp only [Act.put, sX, sY, sZ]
          refine anyE_take (i := 2) (v := ?_) gO kR (by exact fun _ _ _ h => h) (Or.inl ⟨by rfl, ?_⟩) hH.out ?_
          rotate_left
          · intro w hSw; go_simp; try with_reducible rfl
          try simp only [Act.put, sX, sY, sZ]
          refine anyE_take (i := 3) (v := ?_) gO kR (by exact fun _ _ _ h => h) (Or.inl ⟨by rfl, ?_⟩) hH.out ?_
          rotate_left
          · intro w hSw; go_simp; try with_reducible rfl
          try simp only [Act.put, sX, sY, sZ]
          refine anyE_done kR (fun wzE1 hbzE1 => ?_)
          refine FinD_nil ?_
          try simp only [Act.put, sX, sY, sZ]
          have hbtE1 := Lib.hid (show Below w3.heap.size w3 wzE1 from nx hbdE1 (nx hH.out hbzE1))
          clear hH
          refine anyT_done kR ?_ _
          go_wp2_with fail
          clear hb0
          refine (ref6_Read (s.extract 1 s.size) _ (by omega)).mono ?_
          rw [← HD.out]
          rintro e w4 ⟨A4, n4, c4, rfl, h4, hb4⟩
          have l4 := h4.le_of (by decide) _ (rdv_ref (s.extract 1 s.size))
          go_wp2_with fail
          refine (integer_Read s _ (by omega)).mono ?_
          rw [show zv s = 0 from if_neg HK.out, decide_eq_false HK.out]
          rintro e w5 ⟨A5, n5, c5, rfl, h5, hb5⟩
          have q5 := h5.le_of _ ((show (0 : Int).natAbs < W ^ 0 by decide))
          have zn : (((n4 : Nat) : Int) == 0) = true := by have := (h4.zero_iff (by decide)).1 H0.out; simp; omega
          go_wp2_with fail
          have X3 := Blk2.newAt w5 (w5.heap.size) 29 (.bool (bz 0)) (.slice A5 n5 c5) (by first | rfl | simp)
          have hbwe3 : Below w5.heap.size w5 (w5.alloc (.cells #[.bool (bz 0), .slice A5 n5 c5] 29)) := bW
          generalize (w5.alloc (.cells #[.bool (bz 0), .slice A5 n5 c5] 29)) = we3 at X3 hbwe3  ⊢
          have CX1 := (show Blk2 we3 _ _ _ _ from X1.to bW).cell
          have CX1' := (show Blk2 we3 _ _ _ _ from X1.to bW).cell1
          have CX3 := (show Blk2 we3 _ _ _ _ from X3.to bW).cell
          have CX3' := (show Blk2 we3 _ _ _ _ from X3.to bW).cell1
          refine wp_regionE [] kR kR (mk_nil) (by exact fun _ _ _ _ _ h => h) (by exact fun _ _ _ _ _ h => h) (f := 21) (by rfl) ?_
          have hbdE2 : Below we3.heap.size we3 we3.drew := nxw (Below.refl _ _)
          generalize we3.drew = wdE2 at hbdE2 ⊢
          replace CX1 := cellB hbdE2 CX1
          replace CX1' := cellB hbdE2 CX1'
          replace CX3 := cellB hbdE2 CX3
          replace CX3' := cellB hbdE2 CX3'
          have hH := Lib.hid (Below.refl wdE2.heap.size wdE2)
          refine anyE_take (i := 0) (v := ?_) gO kR (by exact fun _ _ _ h => h) (Or.inl ⟨by rfl, ?_⟩) hH.out ?_
          rotate_left
          · intro w hSw; have c := cellB hSw CX1; have c' := cellB hSw CX1'; go_simp; try with_reducible rfl
          try simp only [Act.put, sX, sY, sZ]
          refine anyE_take (i := 3) (v := ?_) gO kR (by exact fun _ _ _ h => h) (Or.inl ⟨by rfl, ?_⟩) hH.out ?_
          rotate_left
          · intro w hSw; go_simp; try with_reducible rfl
          try simp only [Act.put, sX, sY, sZ]
          refine anyE_one (i := 1) gO kR (fun wi2_1 hbwi2_1 K hK => ?_)
          go_simp
          go_at_call 12
          refine (law7_Make b _ _ _ u _ (k1.to bW) (by omega)).mono ?_
          rw [← HSx.out]
          rintro e w6 ⟨A6, n6, c6, rfl, h6, hb6⟩
          have q6 := h6.le_of _ (ltx)
          go_simp
          refine hK.out _ _ (show Below wi2_1.heap.size wi2_1 w6 from bW) ?_
          clear hK K
          replace hH := Lib.hid (nx hH.out (show Below wdE2.heap.size wdE2 w6 from bW))
          try simp only [Act.put, sX, sY, sZ]
          refine anyE_one (i := 2) gO kR (fun wi2_2 hbwi2_2 K hK => ?_)
          go_simp
          go_at_call 21
          refine (integer_Text _ _ _ x _ (h6.to bW) (by omega)).mono ?_
          rintro e w7 ⟨rfl, hb7⟩
          go_simp
          refine hK.out _ _ (show Below wi2_2.heap.size wi2_2 w7 from bW) ?_
          clear hK K
          replace hH := Lib.hid (nx hH.out (show Below w6.heap.size w6 w7 from bW))
          try simp only [Act.put, sX, sY, sZ]
          refine anyE_take (i := 4) (v := ?_) gO kR (by exact fun _ _ _ h => h) (Or.inl ⟨by rfl, ?_⟩) hH.out ?_
          rotate_left
          · intro w hSw; go_simp; try with_reducible rfl
          try simp only [Act.put, sX, sY, sZ]
          refine anyE_take (i := 5) (v := ?_) gO kR (by exact fun _ _ _ h => h) (Or.inl ⟨by rfl, ?_⟩) hH.out ?_
          rotate_left
          · intro w hSw; go_simp; try with_reducible rfl
          try simp only [Act.put, sX, sY, sZ]
          refine anyE_take (i := 6) (v := ?_) gO kR (by exact fun _ _ _ h => h) (Or.inl ⟨by rfl, ?_⟩) hH.out ?_
          rotate_left
          · intro w hSw; go_simp; try with_reducible rfl
          try simp only [Act.put, sX, sY, sZ]
          refine anyE_take (i := 7) (v := ?_) gO kR (by exact fun _ _ _ h => h) (Or.inl ⟨by rfl, ?_⟩) hH.out ?_
          rotate_left
          · intro w hSw; go_simp; try with_reducible rfl
          try simp only [Act.put, sX, sY, sZ]
          refine anyE_take (i := 8) (v := ?_) gO kR (by exact fun _ _ _ h => h) (Or.inl ⟨by rfl, ?_⟩) hH.out ?_
          rotate_left
          · intro w hSw; go_simp; try with_reducible rfl
          try simp only [Act.put, sX, sY, sZ]
          refine anyE_take (i := 9) (v := ?_) gO kR (by exact fun _ _ _ h => h) (Or.inl ⟨by rfl, ?_⟩) hH.out ?_
          rotate_left
          · intro w hSw; go_simp; try with_reducible rfl
          try simp only [Act.put, sX, sY, sZ]
          refine anyE_take (i := 10) (v := ?_) gO kR (by exact fun _ _ _ h => h) (Or.inl ⟨by rfl, ?_⟩) hH.out ?_
          rotate_left
          · intro w hSw; go_simp; try with_reducible rfl
          try simp only [Act.put, sX, sY, sZ]
          refine anyE_take (i := 11) (v := ?_) gO kR (by exact fun _ _ _ h => h) (Or.inl ⟨by rfl, ?_⟩) hH.out ?_
          rotate_left
          · intro w hSw; have c := cellB hSw CX3; have c' := cellB hSw CX3'; go_simp; try with_reducible rfl
          try simp only [Act.put, sX, sY, sZ]
          refine anyE_take (i := 12) (v := ?_) gO kR (by exact fun _ _ _ h => h) (Or.inl ⟨by rfl, ?_⟩) hH.out ?_
          rotate_left
          · intro w hSw; go_simp; try with_reducible rfl
          try simp only [Act.put, sX, sY, sZ]
          refine anyE_take (i := 13) (v := ?_) gO kR (by exact fun _ _ _ h => h) (Or.inl ⟨by rfl, ?_⟩) hH.out ?_
          rotate_left
          · intro w hSw; go_simp; try with_reducible rfl
          try simp only [Act.put, sX, sY, sZ]
          refine anyE_take (i := 14) (v := ?_) gO kR (by exact fun _ _ _ h => h) (Or.inl ⟨by rfl, ?_⟩) hH.out ?_
          rotate_left
          · intro w hSw; go_simp; try with_reducible rfl
          try simp only [Act.put, sX, sY, sZ]
          refine anyE_take (i := 15) (v := ?_) gO kR (by exact fun _ _ _ h => h) (Or.inl ⟨by rfl, ?_⟩) hH.out ?_
          rotate_left
          · intro w hSw; go_simp; try with_reducible rfl
          try simp only [Act.put, sX, sY, sZ]
          refine anyE_take (i := 16) (v := ?_) gO kR (by exact fun _ _ _ h => h) (Or.inl ⟨by rfl, ?_⟩) hH.out ?_
          rotate_left
          · intro w hSw; go_simp; try with_reducible rfl
          try simp only [Act.put, sX, sY, sZ]
          refine anyE_one (i := 17) gO kR (fun wi2_17 hbwi2_17 K hK => ?_)
          go_simp
          go_at_call 22
          refine (ref7_New false _ _ _ 0 _ (NumAt.nil _ _ _)).mono ?_
          rw [show sg false 0 = 0 from rfl]
          rintro e w8 ⟨A8, n8, c8, rfl, h8, hb8⟩
          have l8 := h8.le_of (by decide) 0 (show (0 : Int).natAbs < 65536 ^ 0 by decide)
          go_simp
          refine hK.out _ _ (show Below wi2_17.heap.size wi2_17 w8 from bW) ?_
          clear hK K
          replace hH := Lib.hid (nx hH.out (show Below w7.heap.size w7 w8 from bW))
          try simp only [Act.put, sX, sY, sZ]
          refine anyE_one (i := 18) gO kR (fun wi2_18 hbwi2_18 K hK => ?_)
          go_simp
          go_at_call 17
          refine (law7_Like _ _ _ _ _ _ 0 _ (h5.to bW) (h8.to bW) (by omega) (by omega)).mono ?_
          rintro e w9 ⟨rfl, hb9⟩
          go_simp
          refine hK.out _ _ (show Below wi2_18.heap.size wi2_18 w9 from bW) ?_
          clear hK K
          replace hH := Lib.hid (nx hH.out (show Below w8.heap.size w8 w9 from bW))
          try simp only [Act.put, sX, sY, sZ]
          refine anyE_take (i := 19) (v := ?_) gO kR (by exact fun _ _ _ h => h) (Or.inl ⟨by rfl, ?_⟩) hH.out ?_
          rotate_left
          · intro w hSw; go_simp; try with_reducible rfl
          try simp only [Act.put, sX, sY, sZ]
          refine anyE_take (i := 20) (v := ?_) gO kR (by exact fun _ _ _ h => h) (Or.inl ⟨by rfl, ?_⟩) hH.out ?_
          rotate_left
          · intro w hSw; go_simp; try with_reducible rfl
          try simp only [Act.put, sX, sY, sZ]
          refine anyE_done kR (fun wzE2 hbzE2 => ?_)
          refine FinD_nil ?_
          try simp only [Act.put, sX, sY, sZ]
          have hbtE2 := Lib.hid (show Below we3.heap.size we3 wzE2 from nx hbdE2 (nx hH.out hbzE2))
          clear hH
          refine anyT_done kR ?_ _
          clear CX1 CX1' CX3 CX3'
          go_wp2_with fail
          go_ret
          exact ⟨rfl, bW⟩
        · have H0 := Lib.hid h0
          have HO := Lib.hid (show okd (s.extract 1 s.size) from Classical.byContradiction fun h => h0 (if_neg h))
          have HK := Lib.hid (show okz s from ⟨by rw [HB.out]; exact HO.out, fun h => H0.out (by have := h.2; rw [HB.out] at this; exact this)⟩)
          have HV := Lib.hid (show zv s = sg true (rdv (s.extract 1 s.size)) by rw [ZS.out, HN.out, HB.out])
          clear h0
          go_enter Try.func4, Try.ntmps4
          go_wp2_with fail
          have X1 := Blk2.newAt w (w.heap.size) 24 (.bool b) (.slice A n c) (by first | rfl | simp)
          have hbwe1 : Below w.heap.size w (w.alloc (.cells #[.bool b, .slice A n c] 24)) := bW
          generalize (w.alloc (.cells #[.bool b, .slice A n c] 24)) = we1 at X1 hbwe1  ⊢
          refine (awake7 _).mono ?_
          rintro e w1 ⟨rfl, hb1⟩
          have d1 := (show Blk2 w1 _ _ _ _ from X1.to bW).cell
          have d1' := (show Blk2 w1 _ _ _ _ from X1.to bW).cell1
          have d2 := (show Blk2 w1 _ _ _ _ from X1.to bW).cell
          have d2' := (show Blk2 w1 _ _ _ _ from X1.to bW).cell1
          go_wp2_with fail
          clear d1 d1' d2 d2'
          refine (law7_Ref b _ _ _ u _ (k1.to bW) (by omega)).mono ?_
          rw [← HSx.out]
          rintro e w2 ⟨A2, n2, c2, rfl, h2, hb2⟩
          have l2 := h2.le_of (by decide) _ (rtx)
          go_wp2_with fail
          have X2 := Blk2.newAt w2 (w2.heap.size) 34 (.bool (bz x)) (.slice A2 n2 c2) (by first | rfl | simp)
          have hbwe2 : Below w2.heap.size w2 (w2.alloc (.cells #[.bool (bz x), .slice A2 n2 c2] 34)) := bW
          generalize (w2.alloc (.cells #[.bool (bz x), .slice A2 n2 c2] 34)) = we2 at X2 hbwe2  ⊢
          refine (ref6_Text _ _ _ _ _ (h2.to bW) (by omega)).mono ?_
          rw [HCC.out]
          rintro e w3 ⟨rfl, hb3⟩
          have hb0 := HBX.out
          have d3 := (show Blk2 w3 _ _ _ _ from X2.to bW).cell
          have d3' := (show Blk2 w3 _ _ _ _ from X2.to bW).cell1
          go_wp2_with fail
          clear d3 d3'
          refine wp_regionE [] kR kR (mk_nil) (by exact fun _ _ _ _ _ h => h) (by exact fun _ _ _ _ _ h => h) (f := 4) (by rfl) ?_
          have hbdE1 : Below w3.heap.size w3 w3.drew := nxw (Below.refl _ _)
          generalize w3.drew = wdE1 at hbdE1 ⊢
          have hH := Lib.hid (Below.refl wdE1.heap.size wdE1)
          refine anyE_take (i := 0) (v := ?_) gO kR (by exact fun _ _ _ h => h) (Or.inl ⟨by rfl, ?_⟩) hH.out ?_
          rotate_left
          · intro w hSw; go_simp; try with_reducible rfl
          try simp only [Act.put, sX, sY, sZ]
          refine anyE_take (i := 1) (v := ?_) gO kR (by exact fun _ _ _ h => h) (Or.inl ⟨by rfl, ?_⟩) hH.out ?_
          rotate_left
          · intro w hSw; go_simp; try with_reducible rfl
          try simp only [Act.put, sX, sY, sZ]
          refine anyE_take (i := 2) (v := ?_) gO kR (by exact fun _ _ _ h => h) (Or.inl ⟨by rfl, ?_⟩) hH.out ?_
          rotate_left
          · intro w hSw; go_simp; try with_reducible rfl
          try simp only [Act.put, sX, sY, sZ]
          refine anyE_take (i := 3) (v := ?_) gO kR (by exact fun _ _ _ h => h) (Or.inl ⟨by rfl, ?_⟩) hH.out ?_
          rotate_left
          · intro w hSw; go_simp; try with_reducible rfl
          try simp only [Act.put, sX, sY, sZ]
          refine anyE_done kR (fun wzE1 hbzE1 => ?_)
          refine FinD_nil ?_
          try simp only [Act.put, sX, sY, sZ]
          have hbtE1 := Lib.hid (show Below w3.heap.size w3 wzE1 from nx hbdE1 (nx hH.out hbzE1))
          clear hH
          refine anyT_done kR ?_ _
          go_wp2_with fail
          clear hb0
          refine (ref6_Read (s.extract 1 s.size) _ (by omega)).mono ?_
          rw [decide_eq_true HO.out]
          rintro e w4 ⟨A4, n4, c4, rfl, h4, hb4⟩
          have l4 := h4.le_of (by decide) _ (rdv_ref (s.extract 1 s.size))
          go_wp2_with fail
          refine (integer_Read s _ (by omega)).mono ?_
          rw [decide_eq_true HK.out]
          rintro e w5 ⟨A5, n5, c5, rfl, h5, hb5⟩
          have q5 := h5.le_of _ (zv_words s)
          have zn : (((n4 : Nat) : Int) == 0) = false := by have : n4 ≠ 0 := (fun e => H0.out ((h4.zero_iff (by decide)).2 e)); simp; omega
          go_wp2_with fail
          have X3 := Blk2.newAt w5 (w5.heap.size) 29 (.bool (bz (zv s))) (.slice A5 n5 c5) (by first | rfl | simp)
          have hbwe3 : Below w5.heap.size w5 (w5.alloc (.cells #[.bool (bz (zv s)), .slice A5 n5 c5] 29)) := bW
          generalize (w5.alloc (.cells #[.bool (bz (zv s)), .slice A5 n5 c5] 29)) = we3 at X3 hbwe3  ⊢
          have CX1 := (show Blk2 we3 _ _ _ _ from X1.to bW).cell
          have CX1' := (show Blk2 we3 _ _ _ _ from X1.to bW).cell1
          have CX3 := (show Blk2 we3 _ _ _ _ from X3.to bW).cell
          have CX3' := (show Blk2 we3 _ _ _ _ from X3.to bW).cell1
          refine wp_regionE [] kR kR (mk_nil) (by exact fun _ _ _ _ _ h => h) (by exact fun _ _ _ _ _ h => h) (f := 21) (by rfl) ?_
          have hbdE2 : Below we3.heap.size we3 we3.drew := nxw (Below.refl _ _)
          generalize we3.drew = wdE2 at hbdE2 ⊢
          replace CX1 := cellB hbdE2 CX1
          replace CX1' := cellB hbdE2 CX1'
          replace CX3 := cellB hbdE2 CX3
          replace CX3' := cellB hbdE2 CX3'
          have hH := Lib.hid (Below.refl wdE2.heap.size wdE2)
          refine anyE_take (i := 0) (v := ?_) gO kR (by exact fun _ _ _ h => h) (Or.inl ⟨by rfl, ?_⟩) hH.out ?_
          rotate_left
          · intro w hSw; have c := cellB hSw CX1; have c' := cellB hSw CX1'; go_simp; try with_reducible rfl
          try simp only [Act.put, sX, sY, sZ]
          refine anyE_take (i := 3) (v := ?_) gO kR (by exact fun _ _ _ h => h) (Or.inl ⟨by rfl, ?_⟩) hH.out ?_
          rotate_left
          · intro w hSw; go_simp; try with_reducible rfl
          try simp only [Act.put, sX, sY, sZ]
          refine anyE_one (i := 1) gO kR (fun wi2_1 hbwi2_1 K hK => ?_)
          go_simp
          go_at_call 12
          refine (law7_Make b _ _ _ u _ (k1.to bW) (by omega)).mono ?_
          rw [← HSx.out]
          rintro e w6 ⟨A6, n6, c6, rfl, h6, hb6⟩
          have q6 := h6.le_of _ (ltx)
          go_simp
          refine hK.out _ _ (show Below wi2_1.heap.size wi2_1 w6 from bW) ?_
          clear hK K
          replace hH := Lib.hid (nx hH.out (show Below wdE2.heap.size wdE2 w6 from bW))
          try simp only [Act.put, sX, sY, sZ]
          refine anyE_one (i := 2) gO kR (fun wi2_2 hbwi2_2 K hK => ?_)
          go_simp
          go_at_call 21
          refine (integer_Text _ _ _ x _ (h6.to bW) (by omega)).mono ?_
          rintro e w7 ⟨rfl, hb7⟩
          go_simp
          refine hK.out _ _ (show Below wi2_2.heap.size wi2_2 w7 from bW) ?_
          clear hK K
          replace hH := Lib.hid (nx hH.out (show Below w6.heap.size w6 w7 from bW))
          try simp only [Act.put, sX, sY, sZ]
          refine anyE_take (i := 4) (v := ?_) gO kR (by exact fun _ _ _ h => h) (Or.inl ⟨by rfl, ?_⟩) hH.out ?_
          rotate_left
          · intro w hSw; go_simp; try with_reducible rfl
          try simp only [Act.put, sX, sY, sZ]
          refine anyE_take (i := 5) (v := ?_) gO kR (by exact fun _ _ _ h => h) (Or.inl ⟨by rfl, ?_⟩) hH.out ?_
          rotate_left
          · intro w hSw; go_simp; try with_reducible rfl
          try simp only [Act.put, sX, sY, sZ]
          refine anyE_take (i := 6) (v := ?_) gO kR (by exact fun _ _ _ h => h) (Or.inl ⟨by rfl, ?_⟩) hH.out ?_
          rotate_left
          · intro w hSw; go_simp; try with_reducible rfl
          try simp only [Act.put, sX, sY, sZ]
          refine anyE_take (i := 7) (v := ?_) gO kR (by exact fun _ _ _ h => h) (Or.inl ⟨by rfl, ?_⟩) hH.out ?_
          rotate_left
          · intro w hSw; go_simp; try with_reducible rfl
          try simp only [Act.put, sX, sY, sZ]
          refine anyE_take (i := 8) (v := ?_) gO kR (by exact fun _ _ _ h => h) (Or.inl ⟨by rfl, ?_⟩) hH.out ?_
          rotate_left
          · intro w hSw; go_simp; try with_reducible rfl
          try simp only [Act.put, sX, sY, sZ]
          refine anyE_take (i := 9) (v := ?_) gO kR (by exact fun _ _ _ h => h) (Or.inl ⟨by rfl, ?_⟩) hH.out ?_
          rotate_left
          · intro w hSw; go_simp; try with_reducible rfl
          try simp only [Act.put, sX, sY, sZ]
          refine anyE_take (i := 10) (v := ?_) gO kR (by exact fun _ _ _ h => h) (Or.inl ⟨by rfl, ?_⟩) hH.out ?_
          rotate_left
          · intro w hSw; go_simp; try with_reducible rfl
          try simp only [Act.put, sX, sY, sZ]
          refine anyE_take (i := 11) (v := ?_) gO kR (by exact fun _ _ _ h => h) (Or.inl ⟨by rfl, ?_⟩) hH.out ?_
          rotate_left
          · intro w hSw; have c := cellB hSw CX3; have c' := cellB hSw CX3'; go_simp; try with_reducible rfl
          try simp only [Act.put, sX, sY, sZ]
          refine anyE_take (i := 12) (v := ?_) gO kR (by exact fun _ _ _ h => h) (Or.inl ⟨by rfl, ?_⟩) hH.out ?_
          rotate_left
          · intro w hSw; go_simp; try with_reducible rfl
          try simp only [Act.put, sX, sY, sZ]
          refine anyE_take (i := 13) (v := ?_) gO kR (by exact fun _ _ _ h => h) (Or.inl ⟨by rfl, ?_⟩) hH.out ?_
          rotate_left
          · intro w hSw; go_simp; try with_reducible rfl
          try simp only [Act.put, sX, sY, sZ]
          refine anyE_take (i := 14) (v := ?_) gO kR (by exact fun _ _ _ h => h) (Or.inl ⟨by rfl, ?_⟩) hH.out ?_
          rotate_left
          · intro w hSw; go_simp; try with_reducible rfl
          try simp only [Act.put, sX, sY, sZ]
          refine anyE_take (i := 15) (v := ?_) gO kR (by exact fun _ _ _ h => h) (Or.inl ⟨by rfl, ?_⟩) hH.out ?_
          rotate_left
          · intro w hSw; go_simp; try with_reducible rfl
          try simp only [Act.put, sX, sY, sZ]
          refine anyE_take (i := 16) (v := ?_) gO kR (by exact fun _ _ _ h => h) (Or.inl ⟨by rfl, ?_⟩) hH.out ?_
          rotate_left
          · intro w hSw; go_simp; try with_reducible rfl
          try simp only [Act.put, sX, sY, sZ]
          refine anyE_one (i := 17) gO kR (fun wi2_17 hbwi2_17 K hK => ?_)
          go_simp
          go_at_call 22
          refine (ref7_New true _ _ _ (rdv (s.extract 1 s.size)) _ (h4.to bW)).mono ?_
          rw [← HV.out]
          rintro e w8 ⟨A8, n8, c8, rfl, h8, hb8⟩
          have l8 := h8.le_of (by decide) _ (zv_ref s)
          go_simp
          refine hK.out _ _ (show Below wi2_17.heap.size wi2_17 w8 from bW) ?_
          clear hK K
          replace hH := Lib.hid (nx hH.out (show Below w7.heap.size w7 w8 from bW))
          try simp only [Act.put, sX, sY, sZ]
          refine anyE_one (i := 18) gO kR (fun wi2_18 hbwi2_18 K hK => ?_)
          go_simp
          go_at_call 17
          refine (law7_Like _ _ _ _ _ _ (zv s) _ (h5.to bW) (h8.to bW) (by omega) (by omega)).mono ?_
          rintro e w9 ⟨rfl, hb9⟩
          go_simp
          refine hK.out _ _ (show Below wi2_18.heap.size wi2_18 w9 from bW) ?_
          clear hK K
          replace hH := Lib.hid (nx hH.out (show Below w8.heap.size w8 w9 from bW))
          try simp only [Act.put, sX, sY, sZ]
          refine anyE_take (i := 19) (v := ?_) gO kR (by exact fun _ _ _ h => h) (Or.inl ⟨by rfl, ?_⟩) hH.out ?_
          rotate_left
          · intro w hSw; go_simp; try with_reducible rfl
          try simp only [Act.put, sX, sY, sZ]
          refine anyE_take (i := 20) (v := ?_) gO kR (by exact fun _ _ _ h => h) (Or.inl ⟨by rfl, ?_⟩) hH.out ?_
          rotate_left
          · intro w hSw; go_simp; try with_reducible rfl
          try simp only [Act.put, sX, sY, sZ]
          refine anyE_done kR (fun wzE2 hbzE2 => ?_)
          refine FinD_nil ?_
          try simp only [Act.put, sX, sY, sZ]
          have hbtE2 := Lib.hid (show Below we3.heap.size we3 wzE2 from nx hbdE2 (nx hH.out hbzE2))
          clear hH
          refine anyT_done kR ?_ _
          clear CX1 CX1' CX3 CX3'
          go_wp2_with fail
          go_ret
          exact ⟨rfl, bW⟩
end Go.Proofs.Ytihbpkljjmpkjaa
