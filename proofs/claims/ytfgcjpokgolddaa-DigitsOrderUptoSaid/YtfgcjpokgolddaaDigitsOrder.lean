/- The walk of 'DigitsOrder'. -/
import Derived.Test.YtfgcjpokgolddaaAwake6
set_option linter.unusedVariables false
set_option linter.unusedSimpArgs false
namespace Go.Proofs.Ytfgcjpokgolddaa
open Go.RowKit
set_option maxRecDepth 100000
theorem str_beq {l r : List UInt8} (h : l = r) : (l == r) = true := by rw [h]; exact beq_self_eq_true r
theorem str_bne {l r : List UInt8} (h : l ≠ r) : (l == r) = false := by rw [beq_eq_false_iff_ne]; exact h
theorem bl_inj {x y n m : Nat} (hx : IsLen 256 x n) (hy : IsLen 256 y m) (h : bl n (rv 256 n x) = bl m (rv 256 m y)) : x = y := by
  have e : n = m := by rw [← bl_length n (rv 256 n x), h, bl_length]
  subst e
  have l1 := bl_less hx hy
  have l2 := bl_less hy hx
  rw [h] at l1 l2
  have l3 : Op.bytesLess (bl n (rv 256 n y)) (bl n (rv 256 n y)) = decide (y < y) := bl_less hy hy
  rw [l3] at l1 l2
  have a1 : decide (y < y) = false := decide_eq_false (Nat.lt_irrefl y)
  rw [a1] at l1 l2
  have b1 := of_decide_eq_false l1.symm
  have b2 := of_decide_eq_false l2.symm
  omega
set_option maxHeartbeats 4000000 in
theorem law_DigitsOrder (A n c x) (A' n' c' y) (w : World) (k1 : Dig .u64 W w A n c x) (k2 : Dig .u64 W w A' n' c' y) (r1 : n ≤ 1048576) (r2 : n' ≤ 1048576) :
    Calls Try.prog 7 #[.slice A n c, .slice A' n' c'] w (Ret w (.bool true)) := by
  go_enter Try.func7, Try.ntmps7
  go_wp2_with fail
  refine (awake6 _).mono ?_
  rintro e w1 ⟨rfl, hb1⟩
  go_wp2_with fail
  refine (nat_Of _ _ _ _ _ (k1.to (by with_reducible repeat (first | exact Below.refl _ _ | refine nxa ?_ _ | refine nxd ?_ _ | refine nxw ?_ | refine nx ?_ (by assumption)))) (by omega)).mono ?_
  rintro e w2 ⟨A2, n2, c2, rfl, h2, hb2, m2⟩
  go_wp2_with fail
  refine (nat_Of _ _ _ _ _ (k2.to (by with_reducible repeat (first | exact Below.refl _ _ | refine nxa ?_ _ | refine nxd ?_ _ | refine nxw ?_ | refine nx ?_ (by assumption)))) (by omega)).mono ?_
  rintro e w3 ⟨A3, n3, c3, rfl, h3, hb3, m3⟩
  go_wp2_with fail
  have X1 := Blk1.newAt w3 (w3.heap.size) 25 (.slice A2 n2 c2) (by first | rfl | simp)
  have X2 := Blk1.newAt (w3.alloc (.cells #[.slice A2 n2 c2] 25)) (w3.heap.size + 1) 25 (.slice A3 n3 c3) (by first | rfl | simp)
  replace X1 := (show Blk1 ((w3.alloc (.cells #[.slice A2 n2 c2] 25)).alloc (.cells #[.slice A3 n3 c3] 25)) _ _ _ from X1.to (by with_reducible repeat (first | exact Below.refl _ _ | refine nxa ?_ _ | refine nxd ?_ _ | refine nxw ?_ | refine nx ?_ (by assumption))))
  have hbwe1 : Below w3.heap.size w3 ((w3.alloc (.cells #[.slice A2 n2 c2] 25)).alloc (.cells #[.slice A3 n3 c3] 25)) := (by with_reducible repeat (first | exact Below.refl _ _ | refine nxa ?_ _ | refine nxd ?_ _ | refine nxw ?_ | refine nx ?_ (by assumption)))
  generalize ((w3.alloc (.cells #[.slice A2 n2 c2] 25)).alloc (.cells #[.slice A3 n3 c3] 25)) = we1 at X1 X2 hbwe1  ⊢
  have CX1 := (show Blk1 we1 _ _ _ from X1.to (by with_reducible repeat (first | exact Below.refl _ _ | refine nxa ?_ _ | refine nxd ?_ _ | refine nxw ?_ | refine nx ?_ (by assumption)))).cell
  have CX2 := (show Blk1 we1 _ _ _ from X2.to (by with_reducible repeat (first | exact Below.refl _ _ | refine nxa ?_ _ | refine nxd ?_ _ | refine nxw ?_ | refine nx ?_ (by assumption)))).cell
  refine wp_regionE [] (by kernel_rfl) (by kernel_rfl) (mk_nil) (by exact fun _ _ _ _ _ h => h) (by exact fun _ _ _ _ _ h => h) (f := 6) (by rfl) ?_
  have hbdE1 : Below we1.heap.size we1 we1.drew := nxw (Below.refl _ _)
  generalize we1.drew = wdE1 at hbdE1 ⊢
  replace CX1 := cellB hbdE1 CX1
  replace CX2 := cellB hbdE1 CX2
  have hH := Lib.hid (Below.refl wdE1.heap.size wdE1)
  refine anyE_take (i := 0) (v := ?_) (by simp only [List.getElem?_toArray, List.getElem?_cons_succ, List.getElem?_cons_zero]; rfl) (by kernel_rfl) (by exact fun _ _ _ h => h) (Or.inl ⟨by rfl, ?_⟩) hH.out ?_
  rotate_left
  · intro w hSw; have c := cellB hSw CX1; go_simp; try with_reducible rfl
  try simp only [Act.put, List.setIfInBounds_toArray, List.set_cons_zero, List.set_cons_succ]
  refine anyE_take (i := 2) (v := ?_) (by simp only [List.getElem?_toArray, List.getElem?_cons_succ, List.getElem?_cons_zero]; rfl) (by kernel_rfl) (by exact fun _ _ _ h => h) (Or.inl ⟨by rfl, ?_⟩) hH.out ?_
  rotate_left
  · intro w hSw; have c := cellB hSw CX2; go_simp; try with_reducible rfl
  try simp only [Act.put, List.setIfInBounds_toArray, List.set_cons_zero, List.set_cons_succ]
  refine anyE_one (i := 1) (by simp only [List.getElem?_toArray, List.getElem?_cons_succ, List.getElem?_cons_zero]; rfl) (by kernel_rfl) (fun wi1_1 hbwi1_1 K hK => ?_)
  go_simp
  go_at_call 15
  (with_reducible refine (digits_Text_any _ _ _ _ _ (h2.to (by with_reducible repeat (first | exact Below.refl _ _ | refine nxa ?_ _ | refine nxd ?_ _ | refine nxw ?_ | refine nx ?_ (by assumption)))) (by omega)).mono ?_)
  rintro e w4 ⟨rfl, hb4⟩
  go_simp
  refine hK.out _ _ (show Below wi1_1.heap.size wi1_1 w4 from (by with_reducible repeat (first | exact Below.refl _ _ | refine nxa ?_ _ | refine nxd ?_ _ | refine nxw ?_ | refine nx ?_ (by assumption)))) ?_
  clear hK K
  replace hH := Lib.hid (nx hH.out (show Below wdE1.heap.size wdE1 w4 from (by with_reducible repeat (first | exact Below.refl _ _ | refine nxa ?_ _ | refine nxd ?_ _ | refine nxw ?_ | refine nx ?_ (by assumption)))))
  try simp only [Act.put, List.setIfInBounds_toArray, List.set_cons_zero, List.set_cons_succ]
  refine anyE_one (i := 3) (by simp only [List.getElem?_toArray, List.getElem?_cons_succ, List.getElem?_cons_zero]; rfl) (by kernel_rfl) (fun wi1_3 hbwi1_3 K hK => ?_)
  go_simp
  go_at_call 15
  (with_reducible refine (digits_Text_any _ _ _ _ _ (h3.to (by with_reducible repeat (first | exact Below.refl _ _ | refine nxa ?_ _ | refine nxd ?_ _ | refine nxw ?_ | refine nx ?_ (by assumption)))) (by omega)).mono ?_)
  rintro e w5 ⟨rfl, hb5⟩
  go_simp
  refine hK.out _ _ (show Below wi1_3.heap.size wi1_3 w5 from (by with_reducible repeat (first | exact Below.refl _ _ | refine nxa ?_ _ | refine nxd ?_ _ | refine nxw ?_ | refine nx ?_ (by assumption)))) ?_
  clear hK K
  replace hH := Lib.hid (nx hH.out (show Below w4.heap.size w4 w5 from (by with_reducible repeat (first | exact Below.refl _ _ | refine nxa ?_ _ | refine nxd ?_ _ | refine nxw ?_ | refine nx ?_ (by assumption)))))
  try simp only [Act.put, List.setIfInBounds_toArray, List.set_cons_zero, List.set_cons_succ]
  refine anyE_take (i := 4) (v := ?_) (by simp only [List.getElem?_toArray, List.getElem?_cons_succ, List.getElem?_cons_zero]; rfl) (by kernel_rfl) (by exact fun _ _ _ h => h) (Or.inl ⟨by rfl, ?_⟩) hH.out ?_
  rotate_left
  · intro w hSw; go_simp; try with_reducible rfl
  try simp only [Act.put, List.setIfInBounds_toArray, List.set_cons_zero, List.set_cons_succ]
  refine anyE_take (i := 5) (v := ?_) (by simp only [List.getElem?_toArray, List.getElem?_cons_succ, List.getElem?_cons_zero]; rfl) (by kernel_rfl) (by exact fun _ _ _ h => h) (Or.inl ⟨by rfl, ?_⟩) hH.out ?_
  rotate_left
  · intro w hSw; go_simp; try with_reducible rfl
  try simp only [Act.put, List.setIfInBounds_toArray, List.set_cons_zero, List.set_cons_succ]
  refine anyE_done (by kernel_rfl) (fun wzE1 hbzE1 => ?_)
  refine FinD_nil ?_
  try simp only [Act.put, List.setIfInBounds_toArray, List.set_cons_zero, List.set_cons_succ]
  have hbtE1 := Lib.hid (show Below we1.heap.size we1 wzE1 from nx hbdE1 (nx hH.out hbzE1))
  clear hH
  refine anyT_done (by kernel_rfl) ?_ _
  clear CX1 CX2
  go_wp2_with fail
  have CX1 := (show Blk1 wzE1 _ _ _ from X1.to (by with_reducible repeat (first | exact Below.refl _ _ | refine nxa ?_ _ | refine nxd ?_ _ | refine nxw ?_ | refine nx ?_ (by assumption)))).cell
  have CX2 := (show Blk1 wzE1 _ _ _ from X2.to (by with_reducible repeat (first | exact Below.refl _ _ | refine nxa ?_ _ | refine nxd ?_ _ | refine nxw ?_ | refine nx ?_ (by assumption)))).cell
  refine wp_regionE [] (by kernel_rfl) (by kernel_rfl) (mk_nil) (by exact fun _ _ _ _ _ h => h) (by exact fun _ _ _ _ _ h => h) (f := 8) (by rfl) ?_
  have hbdE2 : Below wzE1.heap.size wzE1 wzE1.drew := nxw (Below.refl _ _)
  generalize wzE1.drew = wdE2 at hbdE2 ⊢
  replace CX1 := cellB hbdE2 CX1
  replace CX2 := cellB hbdE2 CX2
  have hH := Lib.hid (Below.refl wdE2.heap.size wdE2)
  refine anyE_take (i := 0) (v := ?_) (by simp only [List.getElem?_toArray, List.getElem?_cons_succ, List.getElem?_cons_zero]; rfl) (by kernel_rfl) (by exact fun _ _ _ h => h) (Or.inl ⟨by rfl, ?_⟩) hH.out ?_
  rotate_left
  · intro w hSw; have c := cellB hSw CX1; go_simp; try with_reducible rfl
  try simp only [Act.put, List.setIfInBounds_toArray, List.set_cons_zero, List.set_cons_succ]
  refine anyE_take (i := 3) (v := ?_) (by simp only [List.getElem?_toArray, List.getElem?_cons_succ, List.getElem?_cons_zero]; rfl) (by kernel_rfl) (by exact fun _ _ _ h => h) (Or.inl ⟨by rfl, ?_⟩) hH.out ?_
  rotate_left
  · intro w hSw; have c := cellB hSw CX2; go_simp; try with_reducible rfl
  try simp only [Act.put, List.setIfInBounds_toArray, List.set_cons_zero, List.set_cons_succ]
  refine anyE_one (i := 1) (by simp only [List.getElem?_toArray, List.getElem?_cons_succ, List.getElem?_cons_zero]; rfl) (by kernel_rfl) (fun wi2_1 hbwi2_1 K hK => ?_)
  go_simp
  go_at_call 12
  (with_reducible refine (digits_Bytes_dig _ _ _ _ _ (h2.to (by with_reducible repeat (first | exact Below.refl _ _ | refine nxa ?_ _ | refine nxd ?_ _ | refine nxw ?_ | refine nx ?_ (by assumption)))) (by omega)).mono ?_)
  rintro e w6 ⟨A6, c6, rfl, h6, hb6, hf6⟩
  have y6 := bsize_le h2.lt
  go_simp
  refine hK.out _ _ (show Below wi2_1.heap.size wi2_1 w6 from (by with_reducible repeat (first | exact Below.refl _ _ | refine nxa ?_ _ | refine nxd ?_ _ | refine nxw ?_ | refine nx ?_ (by assumption)))) ?_
  clear hK K
  replace hH := Lib.hid (nx hH.out (show Below wdE2.heap.size wdE2 w6 from (by with_reducible repeat (first | exact Below.refl _ _ | refine nxa ?_ _ | refine nxd ?_ _ | refine nxw ?_ | refine nx ?_ (by assumption)))))
  try simp only [Act.put, List.setIfInBounds_toArray, List.set_cons_zero, List.set_cons_succ]
  refine anyE_take (i := 2) (v := ?_) (by simp only [List.getElem?_toArray, List.getElem?_cons_succ, List.getElem?_cons_zero]; rfl) (by kernel_rfl) (by exact fun _ _ _ h => h) (Or.inl ⟨by rfl, ?_⟩) (Below.refl _ _) ?_
  rotate_left
  · intro w hSw; have c := conv_dig (show Dig .u8 256 w _ _ _ _ from h6.to (by with_reducible repeat (first | exact Below.refl _ _ | refine nxa ?_ _ | refine nxd ?_ _ | refine nxw ?_ | refine nx ?_ (by assumption)))) Try.underlying30 Try.underlying5 Try.underlying9; go_simp; try with_reducible rfl
  try simp only [Act.put, List.setIfInBounds_toArray, List.set_cons_zero, List.set_cons_succ]
  refine anyE_one (i := 4) (by simp only [List.getElem?_toArray, List.getElem?_cons_succ, List.getElem?_cons_zero]; rfl) (by kernel_rfl) (fun wi2_4 hbwi2_4 K hK => ?_)
  go_simp
  go_at_call 12
  (with_reducible refine (digits_Bytes_dig _ _ _ _ _ (h3.to (by with_reducible repeat (first | exact Below.refl _ _ | refine nxa ?_ _ | refine nxd ?_ _ | refine nxw ?_ | refine nx ?_ (by assumption)))) (by omega)).mono ?_)
  rintro e w7 ⟨A7, c7, rfl, h7, hb7, hf7⟩
  have y7 := bsize_le h3.lt
  go_simp
  refine hK.out _ _ (show Below wi2_4.heap.size wi2_4 w7 from (by with_reducible repeat (first | exact Below.refl _ _ | refine nxa ?_ _ | refine nxd ?_ _ | refine nxw ?_ | refine nx ?_ (by assumption)))) ?_
  clear hK K
  replace hH := Lib.hid (nx hH.out (show Below w6.heap.size w6 w7 from (by with_reducible repeat (first | exact Below.refl _ _ | refine nxa ?_ _ | refine nxd ?_ _ | refine nxw ?_ | refine nx ?_ (by assumption)))))
  try simp only [Act.put, List.setIfInBounds_toArray, List.set_cons_zero, List.set_cons_succ]
  refine anyE_take (i := 5) (v := ?_) (by simp only [List.getElem?_toArray, List.getElem?_cons_succ, List.getElem?_cons_zero]; rfl) (by kernel_rfl) (by exact fun _ _ _ h => h) (Or.inl ⟨by rfl, ?_⟩) (Below.refl _ _) ?_
  rotate_left
  · intro w hSw; have c := conv_dig (show Dig .u8 256 w _ _ _ _ from h7.to (by with_reducible repeat (first | exact Below.refl _ _ | refine nxa ?_ _ | refine nxd ?_ _ | refine nxw ?_ | refine nx ?_ (by assumption)))) Try.underlying30 Try.underlying5 Try.underlying9; go_simp; try with_reducible rfl
  try simp only [Act.put, List.setIfInBounds_toArray, List.set_cons_zero, List.set_cons_succ]
  refine anyE_take (i := 6) (v := ?_) (by simp only [List.getElem?_toArray, List.getElem?_cons_succ, List.getElem?_cons_zero]; rfl) (by kernel_rfl) (by exact fun _ _ _ h => h) (Or.inl ⟨by rfl, ?_⟩) hH.out ?_
  rotate_left
  · intro w hSw; go_simp; try with_reducible rfl
  try simp only [Act.put, List.setIfInBounds_toArray, List.set_cons_zero, List.set_cons_succ]
  refine anyE_take (i := 7) (v := ?_) (by simp only [List.getElem?_toArray, List.getElem?_cons_succ, List.getElem?_cons_zero]; rfl) (by kernel_rfl) (by exact fun _ _ _ h => h) (Or.inl ⟨by rfl, ?_⟩) hH.out ?_
  rotate_left
  · intro w hSw; go_simp; try with_reducible rfl
  try simp only [Act.put, List.setIfInBounds_toArray, List.set_cons_zero, List.set_cons_succ]
  refine anyE_done (by kernel_rfl) (fun wzE2 hbzE2 => ?_)
  refine FinD_nil ?_
  try simp only [Act.put, List.setIfInBounds_toArray, List.set_cons_zero, List.set_cons_succ]
  have hbtE2 := Lib.hid (show Below wzE1.heap.size wzE1 wzE2 from nx hbdE2 (nx hH.out hbzE2))
  clear hH
  refine anyT_done (by kernel_rfl) ?_ _
  clear CX1 CX2
  rcases Nat.lt_trichotomy x y with hlt | hxy | hgt
  · skip
    have hne : x ≠ y := by omega
    have u1 : ¬ tw y < tw x := fun h => by have := tw_mono h; omega
    have u2 : ¬ bsize y < bsize x := fun h => by have := len_mono (by decide) (bsize_len y) (bsize_len x) h; omega
    rcases Nat.lt_or_ge (tw x) (tw y) with hta | hta
    · skip
      rcases Nat.lt_or_ge (bsize x) (bsize y) with htb | htb
      · skip
        have ltx : (tx x).length = tw x := tx_length x
        have lty : (tx y).length = tw y := tx_length y
        have mt : decide (tw x < tw y) = true := decide_eq_true (by omega)
        have it : ((tw x : Nat) : Int) < ((tw y : Nat) : Int) := by omega
        have qt : ((tx x) == (tx y)) = false := str_bne (fun h => hne (tx_inj h))
        have lbx : (bl (bsize x) (rv 256 (bsize x) x)).length = bsize x := bl_length _ _
        have lby : (bl (bsize y) (rv 256 (bsize y) y)).length = bsize y := bl_length _ _
        have mb : decide (bsize x < bsize y) = true := decide_eq_true (by omega)
        have ib : ((bsize x : Nat) : Int) < ((bsize y : Nat) : Int) := by omega
        have qb : ((bl (bsize x) (rv 256 (bsize x) x)) == (bl (bsize y) (rv 256 (bsize y) y))) = false := str_bne (fun h => hne (bl_inj (bsize_len x) (bsize_len y) h))
        have HC := Lib.hid (cmpI_lt hlt)
        clear hne
        clear hlt hta htb u1 u2
        have d1 := (show Blk1 wzE2 _ _ _ from X1.to (by with_reducible repeat (first | exact Below.refl _ _ | refine nxa ?_ _ | refine nxd ?_ _ | refine nxw ?_ | refine nx ?_ (by assumption)))).cell
        have d2 := (show Blk1 wzE2 _ _ _ from X2.to (by with_reducible repeat (first | exact Below.refl _ _ | refine nxa ?_ _ | refine nxd ?_ _ | refine nxw ?_ | refine nx ?_ (by assumption)))).cell
        go_wp2_with fail
        clear d1 d2
        refine (nat_Cmp _ _ _ _ _ _ _ _ _ (h2.to (by with_reducible repeat (first | exact Below.refl _ _ | refine nxa ?_ _ | refine nxd ?_ _ | refine nxw ?_ | refine nx ?_ (by assumption)))) (h3.to (by with_reducible repeat (first | exact Below.refl _ _ | refine nxa ?_ _ | refine nxd ?_ _ | refine nxw ?_ | refine nx ?_ (by assumption))))).mono ?_
        rw [HC.out]
        rintro e w8 ⟨rfl, hb8⟩
        go_wp2_with fail
        go_ret
        exact ⟨rfl, (by with_reducible repeat (first | exact Below.refl _ _ | refine nxa ?_ _ | refine nxd ?_ _ | refine nxw ?_ | refine nx ?_ (by assumption)))⟩
      · skip
        have ltx : (tx x).length = tw x := tx_length x
        have lty : (tx y).length = tw y := tx_length y
        have mt : decide (tw x < tw y) = true := decide_eq_true (by omega)
        have it : ((tw x : Nat) : Int) < ((tw y : Nat) : Int) := by omega
        have qt : ((tx x) == (tx y)) = false := str_bne (fun h => hne (tx_inj h))
        have lbx : (bl (bsize x) (rv 256 (bsize x) x)).length = bsize x := bl_length _ _
        have lby : (bl (bsize y) (rv 256 (bsize y) y)).length = bsize y := bl_length _ _
        have mb : decide (bsize x < bsize y) = false := decide_eq_false (by omega)
        have ib : (((bsize x : Nat) : Int) == ((bsize y : Nat) : Int)) = true := by simp; omega
        have jb : ¬ ((bsize x : Nat) : Int) < ((bsize y : Nat) : Int) := by omega
        have qb : ((bl (bsize x) (rv 256 (bsize x) x)) == (bl (bsize y) (rv 256 (bsize y) y))) = false := str_bne (fun h => hne (bl_inj (bsize_len x) (bsize_len y) h))
        have sb : Op.bytesLess (bl (bsize x) (rv 256 (bsize x) x)) (bl (bsize y) (rv 256 (bsize y) y)) = true := by have e := bl_less (x := x) (y := y) (bsize_len x) (show IsLen 256 y (bsize x) by rw [show bsize x = bsize y by omega]; exact bsize_len y); rw [show bsize x = bsize y by omega] at e ⊢; exact e.trans (decide_eq_true hlt)
        have HC := Lib.hid (cmpI_lt hlt)
        clear hne
        clear hlt hta htb u1 u2
        have d1 := (show Blk1 wzE2 _ _ _ from X1.to (by with_reducible repeat (first | exact Below.refl _ _ | refine nxa ?_ _ | refine nxd ?_ _ | refine nxw ?_ | refine nx ?_ (by assumption)))).cell
        have d2 := (show Blk1 wzE2 _ _ _ from X2.to (by with_reducible repeat (first | exact Below.refl _ _ | refine nxa ?_ _ | refine nxd ?_ _ | refine nxw ?_ | refine nx ?_ (by assumption)))).cell
        go_wp2_with fail
        clear d1 d2
        refine (nat_Cmp _ _ _ _ _ _ _ _ _ (h2.to (by with_reducible repeat (first | exact Below.refl _ _ | refine nxa ?_ _ | refine nxd ?_ _ | refine nxw ?_ | refine nx ?_ (by assumption)))) (h3.to (by with_reducible repeat (first | exact Below.refl _ _ | refine nxa ?_ _ | refine nxd ?_ _ | refine nxw ?_ | refine nx ?_ (by assumption))))).mono ?_
        rw [HC.out]
        rintro e w8 ⟨rfl, hb8⟩
        go_wp2_with fail
        go_ret
        exact ⟨rfl, (by with_reducible repeat (first | exact Below.refl _ _ | refine nxa ?_ _ | refine nxd ?_ _ | refine nxw ?_ | refine nx ?_ (by assumption)))⟩
    · skip
      rcases Nat.lt_or_ge (bsize x) (bsize y) with htb | htb
      · skip
        have ltx : (tx x).length = tw x := tx_length x
        have lty : (tx y).length = tw y := tx_length y
        have mt : decide (tw x < tw y) = false := decide_eq_false (by omega)
        have it : (((tw x : Nat) : Int) == ((tw y : Nat) : Int)) = true := by simp; omega
        have jt : ¬ ((tw x : Nat) : Int) < ((tw y : Nat) : Int) := by omega
        have qt : ((tx x) == (tx y)) = false := str_bne (fun h => hne (tx_inj h))
        have st : Op.bytesLess (tx x) (tx y) = true := (tx_less (by omega)).trans (decide_eq_true hlt)
        have lbx : (bl (bsize x) (rv 256 (bsize x) x)).length = bsize x := bl_length _ _
        have lby : (bl (bsize y) (rv 256 (bsize y) y)).length = bsize y := bl_length _ _
        have mb : decide (bsize x < bsize y) = true := decide_eq_true (by omega)
        have ib : ((bsize x : Nat) : Int) < ((bsize y : Nat) : Int) := by omega
        have qb : ((bl (bsize x) (rv 256 (bsize x) x)) == (bl (bsize y) (rv 256 (bsize y) y))) = false := str_bne (fun h => hne (bl_inj (bsize_len x) (bsize_len y) h))
        have HC := Lib.hid (cmpI_lt hlt)
        clear hne
        clear hlt hta htb u1 u2
        have d1 := (show Blk1 wzE2 _ _ _ from X1.to (by with_reducible repeat (first | exact Below.refl _ _ | refine nxa ?_ _ | refine nxd ?_ _ | refine nxw ?_ | refine nx ?_ (by assumption)))).cell
        have d2 := (show Blk1 wzE2 _ _ _ from X2.to (by with_reducible repeat (first | exact Below.refl _ _ | refine nxa ?_ _ | refine nxd ?_ _ | refine nxw ?_ | refine nx ?_ (by assumption)))).cell
        go_wp2_with fail
        clear d1 d2
        refine (nat_Cmp _ _ _ _ _ _ _ _ _ (h2.to (by with_reducible repeat (first | exact Below.refl _ _ | refine nxa ?_ _ | refine nxd ?_ _ | refine nxw ?_ | refine nx ?_ (by assumption)))) (h3.to (by with_reducible repeat (first | exact Below.refl _ _ | refine nxa ?_ _ | refine nxd ?_ _ | refine nxw ?_ | refine nx ?_ (by assumption))))).mono ?_
        rw [HC.out]
        rintro e w8 ⟨rfl, hb8⟩
        go_wp2_with fail
        go_ret
        exact ⟨rfl, (by with_reducible repeat (first | exact Below.refl _ _ | refine nxa ?_ _ | refine nxd ?_ _ | refine nxw ?_ | refine nx ?_ (by assumption)))⟩
      · skip
        have ltx : (tx x).length = tw x := tx_length x
        have lty : (tx y).length = tw y := tx_length y
        have mt : decide (tw x < tw y) = false := decide_eq_false (by omega)
        have it : (((tw x : Nat) : Int) == ((tw y : Nat) : Int)) = true := by simp; omega
        have jt : ¬ ((tw x : Nat) : Int) < ((tw y : Nat) : Int) := by omega
        have qt : ((tx x) == (tx y)) = false := str_bne (fun h => hne (tx_inj h))
        have st : Op.bytesLess (tx x) (tx y) = true := (tx_less (by omega)).trans (decide_eq_true hlt)
        have lbx : (bl (bsize x) (rv 256 (bsize x) x)).length = bsize x := bl_length _ _
        have lby : (bl (bsize y) (rv 256 (bsize y) y)).length = bsize y := bl_length _ _
        have mb : decide (bsize x < bsize y) = false := decide_eq_false (by omega)
        have ib : (((bsize x : Nat) : Int) == ((bsize y : Nat) : Int)) = true := by simp; omega
        have jb : ¬ ((bsize x : Nat) : Int) < ((bsize y : Nat) : Int) := by omega
        have qb : ((bl (bsize x) (rv 256 (bsize x) x)) == (bl (bsize y) (rv 256 (bsize y) y))) = false := str_bne (fun h => hne (bl_inj (bsize_len x) (bsize_len y) h))
        have sb : Op.bytesLess (bl (bsize x) (rv 256 (bsize x) x)) (bl (bsize y) (rv 256 (bsize y) y)) = true := by have e := bl_less (x := x) (y := y) (bsize_len x) (show IsLen 256 y (bsize x) by rw [show bsize x = bsize y by omega]; exact bsize_len y); rw [show bsize x = bsize y by omega] at e ⊢; exact e.trans (decide_eq_true hlt)
        have HC := Lib.hid (cmpI_lt hlt)
        clear hne
        clear hlt hta htb u1 u2
        have d1 := (show Blk1 wzE2 _ _ _ from X1.to (by with_reducible repeat (first | exact Below.refl _ _ | refine nxa ?_ _ | refine nxd ?_ _ | refine nxw ?_ | refine nx ?_ (by assumption)))).cell
        have d2 := (show Blk1 wzE2 _ _ _ from X2.to (by with_reducible repeat (first | exact Below.refl _ _ | refine nxa ?_ _ | refine nxd ?_ _ | refine nxw ?_ | refine nx ?_ (by assumption)))).cell
        go_wp2_with fail
        clear d1 d2
        refine (nat_Cmp _ _ _ _ _ _ _ _ _ (h2.to (by with_reducible repeat (first | exact Below.refl _ _ | refine nxa ?_ _ | refine nxd ?_ _ | refine nxw ?_ | refine nx ?_ (by assumption)))) (h3.to (by with_reducible repeat (first | exact Below.refl _ _ | refine nxa ?_ _ | refine nxd ?_ _ | refine nxw ?_ | refine nx ?_ (by assumption))))).mono ?_
        rw [HC.out]
        rintro e w8 ⟨rfl, hb8⟩
        go_wp2_with fail
        go_ret
        exact ⟨rfl, (by with_reducible repeat (first | exact Below.refl _ _ | refine nxa ?_ _ | refine nxd ?_ _ | refine nxw ?_ | refine nx ?_ (by assumption)))⟩
  · skip
    have u1 : tw x = tw y := by rw [hxy]
    have u2 : bsize x = bsize y := by rw [hxy]
    have hta := u1
    have htb := u2
    have ltx : (tx x).length = tw x := tx_length x
    have lty : (tx y).length = tw y := tx_length y
    have mt : decide (tw x < tw y) = false := decide_eq_false (by omega)
    have it : (((tw x : Nat) : Int) == ((tw y : Nat) : Int)) = true := by simp; omega
    have jt : ¬ ((tw x : Nat) : Int) < ((tw y : Nat) : Int) := by omega
    have qt : ((tx x) == (tx y)) = true := str_beq (by rw [hxy])
    have st : Op.bytesLess (tx x) (tx y) = false := (tx_less (by omega)).trans (decide_eq_false (by omega))
    have lbx : (bl (bsize x) (rv 256 (bsize x) x)).length = bsize x := bl_length _ _
    have lby : (bl (bsize y) (rv 256 (bsize y) y)).length = bsize y := bl_length _ _
    have mb : decide (bsize x < bsize y) = false := decide_eq_false (by omega)
    have ib : (((bsize x : Nat) : Int) == ((bsize y : Nat) : Int)) = true := by simp; omega
    have jb : ¬ ((bsize x : Nat) : Int) < ((bsize y : Nat) : Int) := by omega
    have qb : ((bl (bsize x) (rv 256 (bsize x) x)) == (bl (bsize y) (rv 256 (bsize y) y))) = true := str_beq (by rw [hxy])
    have sb : Op.bytesLess (bl (bsize x) (rv 256 (bsize x) x)) (bl (bsize y) (rv 256 (bsize y) y)) = false := by have e := bl_less (x := x) (y := y) (bsize_len x) (show IsLen 256 y (bsize x) by rw [show bsize x = bsize y by omega]; exact bsize_len y); rw [show bsize x = bsize y by omega] at e ⊢; exact e.trans (decide_eq_false (by omega))
    have HC := Lib.hid (cmpI_eq hxy)
    clear hxy hta htb u1 u2
    have d1 := (show Blk1 wzE2 _ _ _ from X1.to (by with_reducible repeat (first | exact Below.refl _ _ | refine nxa ?_ _ | refine nxd ?_ _ | refine nxw ?_ | refine nx ?_ (by assumption)))).cell
    have d2 := (show Blk1 wzE2 _ _ _ from X2.to (by with_reducible repeat (first | exact Below.refl _ _ | refine nxa ?_ _ | refine nxd ?_ _ | refine nxw ?_ | refine nx ?_ (by assumption)))).cell
    go_wp2_with fail
    clear d1 d2
    refine (nat_Cmp _ _ _ _ _ _ _ _ _ (h2.to (by with_reducible repeat (first | exact Below.refl _ _ | refine nxa ?_ _ | refine nxd ?_ _ | refine nxw ?_ | refine nx ?_ (by assumption)))) (h3.to (by with_reducible repeat (first | exact Below.refl _ _ | refine nxa ?_ _ | refine nxd ?_ _ | refine nxw ?_ | refine nx ?_ (by assumption))))).mono ?_
    rw [HC.out]
    rintro e w8 ⟨rfl, hb8⟩
    go_wp2_with fail
    go_ret
    exact ⟨rfl, (by with_reducible repeat (first | exact Below.refl _ _ | refine nxa ?_ _ | refine nxd ?_ _ | refine nxw ?_ | refine nx ?_ (by assumption)))⟩
  · skip
    have hne : x ≠ y := by omega
    have u1 : ¬ tw x < tw y := fun h => by have := tw_mono h; omega
    have u2 : ¬ bsize x < bsize y := fun h => by have := len_mono (by decide) (bsize_len x) (bsize_len y) h; omega
    rcases Nat.lt_or_ge (tw y) (tw x) with hta | hta
    · skip
      rcases Nat.lt_or_ge (bsize y) (bsize x) with htb | htb
      · skip
        have ltx : (tx x).length = tw x := tx_length x
        have lty : (tx y).length = tw y := tx_length y
        have mt : decide (tw x < tw y) = false := decide_eq_false (by omega)
        have it : (((tw x : Nat) : Int) == ((tw y : Nat) : Int)) = false := by simp; omega
        have jt : ¬ ((tw x : Nat) : Int) < ((tw y : Nat) : Int) := by omega
        have qt : ((tx x) == (tx y)) = false := str_bne (fun h => hne (tx_inj h))
        have lbx : (bl (bsize x) (rv 256 (bsize x) x)).length = bsize x := bl_length _ _
        have lby : (bl (bsize y) (rv 256 (bsize y) y)).length = bsize y := bl_length _ _
        have mb : decide (bsize x < bsize y) = false := decide_eq_false (by omega)
        have ib : (((bsize x : Nat) : Int) == ((bsize y : Nat) : Int)) = false := by simp; omega
        have jb : ¬ ((bsize x : Nat) : Int) < ((bsize y : Nat) : Int) := by omega
        have qb : ((bl (bsize x) (rv 256 (bsize x) x)) == (bl (bsize y) (rv 256 (bsize y) y))) = false := str_bne (fun h => hne (bl_inj (bsize_len x) (bsize_len y) h))
        have HC := Lib.hid (cmpI_gt hgt)
        clear hne
        clear hgt hta htb u1 u2
        have d1 := (show Blk1 wzE2 _ _ _ from X1.to (by with_reducible repeat (first | exact Below.refl _ _ | refine nxa ?_ _ | refine nxd ?_ _ | refine nxw ?_ | refine nx ?_ (by assumption)))).cell
        have d2 := (show Blk1 wzE2 _ _ _ from X2.to (by with_reducible repeat (first | exact Below.refl _ _ | refine nxa ?_ _ | refine nxd ?_ _ | refine nxw ?_ | refine nx ?_ (by assumption)))).cell
        go_wp2_with fail
        clear d1 d2
        refine (nat_Cmp _ _ _ _ _ _ _ _ _ (h2.to (by with_reducible repeat (first | exact Below.refl _ _ | refine nxa ?_ _ | refine nxd ?_ _ | refine nxw ?_ | refine nx ?_ (by assumption)))) (h3.to (by with_reducible repeat (first | exact Below.refl _ _ | refine nxa ?_ _ | refine nxd ?_ _ | refine nxw ?_ | refine nx ?_ (by assumption))))).mono ?_
        rw [HC.out]
        rintro e w8 ⟨rfl, hb8⟩
        go_wp2_with fail
        go_ret
        exact ⟨rfl, (by with_reducible repeat (first | exact Below.refl _ _ | refine nxa ?_ _ | refine nxd ?_ _ | refine nxw ?_ | refine nx ?_ (by assumption)))⟩
      · skip
        have ltx : (tx x).length = tw x := tx_length x
        have lty : (tx y).length = tw y := tx_length y
        have mt : decide (tw x < tw y) = false := decide_eq_false (by omega)
        have it : (((tw x : Nat) : Int) == ((tw y : Nat) : Int)) = false := by simp; omega
        have jt : ¬ ((tw x : Nat) : Int) < ((tw y : Nat) : Int) := by omega
        have qt : ((tx x) == (tx y)) = false := str_bne (fun h => hne (tx_inj h))
        have lbx : (bl (bsize x) (rv 256 (bsize x) x)).length = bsize x := bl_length _ _
        have lby : (bl (bsize y) (rv 256 (bsize y) y)).length = bsize y := bl_length _ _
        have mb : decide (bsize x < bsize y) = false := decide_eq_false (by omega)
        have ib : (((bsize x : Nat) : Int) == ((bsize y : Nat) : Int)) = true := by simp; omega
        have jb : ¬ ((bsize x : Nat) : Int) < ((bsize y : Nat) : Int) := by omega
        have qb : ((bl (bsize x) (rv 256 (bsize x) x)) == (bl (bsize y) (rv 256 (bsize y) y))) = false := str_bne (fun h => hne (bl_inj (bsize_len x) (bsize_len y) h))
        have sb : Op.bytesLess (bl (bsize x) (rv 256 (bsize x) x)) (bl (bsize y) (rv 256 (bsize y) y)) = false := by have e := bl_less (x := x) (y := y) (bsize_len x) (show IsLen 256 y (bsize x) by rw [show bsize x = bsize y by omega]; exact bsize_len y); rw [show bsize x = bsize y by omega] at e ⊢; exact e.trans (decide_eq_false (by omega))
        have HC := Lib.hid (cmpI_gt hgt)
        clear hne
        clear hgt hta htb u1 u2
        have d1 := (show Blk1 wzE2 _ _ _ from X1.to (by with_reducible repeat (first | exact Below.refl _ _ | refine nxa ?_ _ | refine nxd ?_ _ | refine nxw ?_ | refine nx ?_ (by assumption)))).cell
        have d2 := (show Blk1 wzE2 _ _ _ from X2.to (by with_reducible repeat (first | exact Below.refl _ _ | refine nxa ?_ _ | refine nxd ?_ _ | refine nxw ?_ | refine nx ?_ (by assumption)))).cell
        go_wp2_with fail
        clear d1 d2
        refine (nat_Cmp _ _ _ _ _ _ _ _ _ (h2.to (by with_reducible repeat (first | exact Below.refl _ _ | refine nxa ?_ _ | refine nxd ?_ _ | refine nxw ?_ | refine nx ?_ (by assumption)))) (h3.to (by with_reducible repeat (first | exact Below.refl _ _ | refine nxa ?_ _ | refine nxd ?_ _ | refine nxw ?_ | refine nx ?_ (by assumption))))).mono ?_
        rw [HC.out]
        rintro e w8 ⟨rfl, hb8⟩
        go_wp2_with fail
        go_ret
        exact ⟨rfl, (by with_reducible repeat (first | exact Below.refl _ _ | refine nxa ?_ _ | refine nxd ?_ _ | refine nxw ?_ | refine nx ?_ (by assumption)))⟩
    · skip
      rcases Nat.lt_or_ge (bsize y) (bsize x) with htb | htb
      · skip
        have ltx : (tx x).length = tw x := tx_length x
        have lty : (tx y).length = tw y := tx_length y
        have mt : decide (tw x < tw y) = false := decide_eq_false (by omega)
        have it : (((tw x : Nat) : Int) == ((tw y : Nat) : Int)) = true := by simp; omega
        have jt : ¬ ((tw x : Nat) : Int) < ((tw y : Nat) : Int) := by omega
        have qt : ((tx x) == (tx y)) = false := str_bne (fun h => hne (tx_inj h))
        have st : Op.bytesLess (tx x) (tx y) = false := (tx_less (by omega)).trans (decide_eq_false (by omega))
        have lbx : (bl (bsize x) (rv 256 (bsize x) x)).length = bsize x := bl_length _ _
        have lby : (bl (bsize y) (rv 256 (bsize y) y)).length = bsize y := bl_length _ _
        have mb : decide (bsize x < bsize y) = false := decide_eq_false (by omega)
        have ib : (((bsize x : Nat) : Int) == ((bsize y : Nat) : Int)) = false := by simp; omega
        have jb : ¬ ((bsize x : Nat) : Int) < ((bsize y : Nat) : Int) := by omega
        have qb : ((bl (bsize x) (rv 256 (bsize x) x)) == (bl (bsize y) (rv 256 (bsize y) y))) = false := str_bne (fun h => hne (bl_inj (bsize_len x) (bsize_len y) h))
        have HC := Lib.hid (cmpI_gt hgt)
        clear hne
        clear hgt hta htb u1 u2
        have d1 := (show Blk1 wzE2 _ _ _ from X1.to (by with_reducible repeat (first | exact Below.refl _ _ | refine nxa ?_ _ | refine nxd ?_ _ | refine nxw ?_ | refine nx ?_ (by assumption)))).cell
        have d2 := (show Blk1 wzE2 _ _ _ from X2.to (by with_reducible repeat (first | exact Below.refl _ _ | refine nxa ?_ _ | refine nxd ?_ _ | refine nxw ?_ | refine nx ?_ (by assumption)))).cell
        go_wp2_with fail
        clear d1 d2
        refine (nat_Cmp _ _ _ _ _ _ _ _ _ (h2.to (by with_reducible repeat (first | exact Below.refl _ _ | refine nxa ?_ _ | refine nxd ?_ _ | refine nxw ?_ | refine nx ?_ (by assumption)))) (h3.to (by with_reducible repeat (first | exact Below.refl _ _ | refine nxa ?_ _ | refine nxd ?_ _ | refine nxw ?_ | refine nx ?_ (by assumption))))).mono ?_
        rw [HC.out]
        rintro e w8 ⟨rfl, hb8⟩
        go_wp2_with fail
        go_ret
        exact ⟨rfl, (by with_reducible repeat (first | exact Below.refl _ _ | refine nxa ?_ _ | refine nxd ?_ _ | refine nxw ?_ | refine nx ?_ (by assumption)))⟩
      · skip
        have ltx : (tx x).length = tw x := tx_length x
        have lty : (tx y).length = tw y := tx_length y
        have mt : decide (tw x < tw y) = false := decide_eq_false (by omega)
        have it : (((tw x : Nat) : Int) == ((tw y : Nat) : Int)) = true := by simp; omega
        have jt : ¬ ((tw x : Nat) : Int) < ((tw y : Nat) : Int) := by omega
        have qt : ((tx x) == (tx y)) = false := str_bne (fun h => hne (tx_inj h))
        have st : Op.bytesLess (tx x) (tx y) = false := (tx_less (by omega)).trans (decide_eq_false (by omega))
        have lbx : (bl (bsize x) (rv 256 (bsize x) x)).length = bsize x := bl_length _ _
        have lby : (bl (bsize y) (rv 256 (bsize y) y)).length = bsize y := bl_length _ _
        have mb : decide (bsize x < bsize y) = false := decide_eq_false (by omega)
        have ib : (((bsize x : Nat) : Int) == ((bsize y : Nat) : Int)) = true := by simp; omega
        have jb : ¬ ((bsize x : Nat) : Int) < ((bsize y : Nat) : Int) := by omega
        have qb : ((bl (bsize x) (rv 256 (bsize x) x)) == (bl (bsize y) (rv 256 (bsize y) y))) = false := str_bne (fun h => hne (bl_inj (bsize_len x) (bsize_len y) h))
        have sb : Op.bytesLess (bl (bsize x) (rv 256 (bsize x) x)) (bl (bsize y) (rv 256 (bsize y) y)) = false := by have e := bl_less (x := x) (y := y) (bsize_len x) (show IsLen 256 y (bsize x) by rw [show bsize x = bsize y by omega]; exact bsize_len y); rw [show bsize x = bsize y by omega] at e ⊢; exact e.trans (decide_eq_false (by omega))
        have HC := Lib.hid (cmpI_gt hgt)
        clear hne
        clear hgt hta htb u1 u2
        have d1 := (show Blk1 wzE2 _ _ _ from X1.to (by with_reducible repeat (first | exact Below.refl _ _ | refine nxa ?_ _ | refine nxd ?_ _ | refine nxw ?_ | refine nx ?_ (by assumption)))).cell
        have d2 := (show Blk1 wzE2 _ _ _ from X2.to (by with_reducible repeat (first | exact Below.refl _ _ | refine nxa ?_ _ | refine nxd ?_ _ | refine nxw ?_ | refine nx ?_ (by assumption)))).cell
        go_wp2_with fail
        clear d1 d2
        refine (nat_Cmp _ _ _ _ _ _ _ _ _ (h2.to (by with_reducible repeat (first | exact Below.refl _ _ | refine nxa ?_ _ | refine nxd ?_ _ | refine nxw ?_ | refine nx ?_ (by assumption)))) (h3.to (by with_reducible repeat (first | exact Below.refl _ _ | refine nxa ?_ _ | refine nxd ?_ _ | refine nxw ?_ | refine nx ?_ (by assumption))))).mono ?_
        rw [HC.out]
        rintro e w8 ⟨rfl, hb8⟩
        go_wp2_with fail
        go_ret
        exact ⟨rfl, (by with_reducible repeat (first | exact Below.refl _ _ | refine nxa ?_ _ | refine nxd ?_ _ | refine nxw ?_ | refine nx ?_ (by assumption)))⟩
end Go.Proofs.Ytfgcjpokgolddaa
