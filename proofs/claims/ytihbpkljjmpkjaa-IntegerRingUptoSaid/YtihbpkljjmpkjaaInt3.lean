/- The walks of package integer, second part. -/
import Derived.Test.YtihbpkljjmpkjaaInt2
import Derived.Test.YtihbpkljjmpkjaaKF
set_option linter.unusedVariables false
set_option linter.unusedSimpArgs false
namespace Go.Proofs.Ytihbpkljjmpkjaa
open Go.RowKit
set_option maxRecDepth 100000
theorem cmpZ_pp {x y : Int} (hx : bz x = false) (hy : bz y = false) : cmpZ x y = cmpI x.natAbs y.natAbs := by
  have := bz_false.1 hx; have := bz_false.1 hy
  rcases Nat.lt_trichotomy x.natAbs y.natAbs with h | h | h
  · rw [cmpZ_lt (by omega), cmpI_lt h]
  · rw [cmpZ_eq (by omega), cmpI_eq h]
  · rw [cmpZ_gt (by omega), cmpI_gt h]
theorem cmpZ_nn {x y : Int} (hx : bz x = true) (hy : bz y = true) : cmpZ x y = cmpI y.natAbs x.natAbs := by
  have := bz_true.1 hx; have := bz_true.1 hy
  rcases Nat.lt_trichotomy y.natAbs x.natAbs with h | h | h
  · rw [cmpZ_lt (by omega), cmpI_lt h]
  · rw [cmpZ_eq (by omega), cmpI_eq h]
  · rw [cmpZ_gt (by omega), cmpI_gt h]
theorem cmpZ_np {x y : Int} (hx : bz x = true) (hy : bz y = false) : cmpZ x y = -1 := by
  have := bz_true.1 hx; have := bz_false.1 hy; exact cmpZ_lt (by omega)
theorem cmpZ_pn {x y : Int} (hx : bz x = false) (hy : bz y = true) : cmpZ x y = 1 := by
  have := bz_false.1 hx; have := bz_true.1 hy; exact cmpZ_gt (by omega)
set_option maxHeartbeats 4000000 in
theorem integer_Cmp (A : Option Addr) (n c : Nat) (x : Int) (A' : Option Addr) (n' c' : Nat) (y : Int) (w : World) (h : NatAt w A n c x.natAbs) (h' : NatAt w A' n' c' y.natAbs) :
    Calls Try.prog 23 #[.agg #[.bool (bz x), .slice A n c], .agg #[.bool (bz y), .slice A' n' c']] w (Ret w (.int .i64 (cmpZ x y))) := by
  cases hx : bz x
  case false =>
    cases hy : bz y
    case false =>
      rw [cmpZ_pp hx hy]
      clear hx hy
      go_enter Try.func23, Try.ntmps23
      go_wp2_with fail
      have X1 := Blk2.newAt w (w.heap.size) 29 (.bool false) (.slice A n c) (by first | rfl | simp)
      have X2 := Blk2.newAt (w.alloc (.cells #[.bool false, .slice A n c] 29)) (w.heap.size + 1) 29 (.bool false) (.slice A' n' c') (by first | rfl | simp)
      replace X1 := (show Blk2 ((w.alloc (.cells #[.bool false, .slice A n c] 29)).alloc (.cells #[.bool false, .slice A' n' c'] 29)) _ _ _ _ from X1.to bW)
      have hbwe1 : Below w.heap.size w ((w.alloc (.cells #[.bool false, .slice A n c] 29)).alloc (.cells #[.bool false, .slice A' n' c'] 29)) := bW
      generalize ((w.alloc (.cells #[.bool false, .slice A n c] 29)).alloc (.cells #[.bool false, .slice A' n' c'] 29)) = we1 at X1 X2 hbwe1  ⊢
      refine (nat_Cmp _ _ _ _ _ _ _ _ _ (h.to bW) (h'.to bW)).mono ?_
      rintro e w1 ⟨rfl, hb1⟩
      go_wp2_with fail
      go_ret
      exact ⟨rfl, bW⟩
    case true =>
      rw [cmpZ_pn hx hy]
      clear hx hy
      go_enter Try.func23, Try.ntmps23
      go_wp2_with fail
      have X1 := Blk2.newAt w (w.heap.size) 29 (.bool false) (.slice A n c) (by first | rfl | simp)
      have X2 := Blk2.newAt (w.alloc (.cells #[.bool false, .slice A n c] 29)) (w.heap.size + 1) 29 (.bool true) (.slice A' n' c') (by first | rfl | simp)
      replace X1 := (show Blk2 ((w.alloc (.cells #[.bool false, .slice A n c] 29)).alloc (.cells #[.bool true, .slice A' n' c'] 29)) _ _ _ _ from X1.to bW)
      have hbwe1 : Below w.heap.size w ((w.alloc (.cells #[.bool false, .slice A n c] 29)).alloc (.cells #[.bool true, .slice A' n' c'] 29)) := bW
      generalize ((w.alloc (.cells #[.bool false, .slice A n c] 29)).alloc (.cells #[.bool true, .slice A' n' c'] 29)) = we1 at X1 X2 hbwe1  ⊢
      go_ret
      exact ⟨rfl, bW⟩
  case true =>
    cases hy : bz y
    case false =>
      rw [cmpZ_np hx hy]
      clear hx hy
      go_enter Try.func23, Try.ntmps23
      go_wp2_with fail
      have X1 := Blk2.newAt w (w.heap.size) 29 (.bool true) (.slice A n c) (by first | rfl | simp)
      have X2 := Blk2.newAt (w.alloc (.cells #[.bool true, .slice A n c] 29)) (w.heap.size + 1) 29 (.bool false) (.slice A' n' c') (by first | rfl | simp)
      replace X1 := (show Blk2 ((w.alloc (.cells #[.bool true, .slice A n c] 29)).alloc (.cells #[.bool false, .slice A' n' c'] 29)) _ _ _ _ from X1.to bW)
      have hbwe1 : Below w.heap.size w ((w.alloc (.cells #[.bool true, .slice A n c] 29)).alloc (.cells #[.bool false, .slice A' n' c'] 29)) := bW
      generalize ((w.alloc (.cells #[.bool true, .slice A n c] 29)).alloc (.cells #[.bool false, .slice A' n' c'] 29)) = we1 at X1 X2 hbwe1  ⊢
      go_ret
      exact ⟨rfl, bW⟩
    case true =>
      rw [cmpZ_nn hx hy]
      clear hx hy
      go_enter Try.func23, Try.ntmps23
      go_wp2_with fail
      have X1 := Blk2.newAt w (w.heap.size) 29 (.bool true) (.slice A n c) (by first | rfl | simp)
      have X2 := Blk2.newAt (w.alloc (.cells #[.bool true, .slice A n c] 29)) (w.heap.size + 1) 29 (.bool true) (.slice A' n' c') (by first | rfl | simp)
      replace X1 := (show Blk2 ((w.alloc (.cells #[.bool true, .slice A n c] 29)).alloc (.cells #[.bool true, .slice A' n' c'] 29)) _ _ _ _ from X1.to bW)
      have hbwe1 : Below w.heap.size w ((w.alloc (.cells #[.bool true, .slice A n c] 29)).alloc (.cells #[.bool true, .slice A' n' c'] 29)) := bW
      generalize ((w.alloc (.cells #[.bool true, .slice A n c] 29)).alloc (.cells #[.bool true, .slice A' n' c'] 29)) = we1 at X1 X2 hbwe1  ⊢
      refine (nat_Cmp _ _ _ _ _ _ _ _ _ (h'.to bW) (h.to bW)).mono ?_
      rintro e w1 ⟨rfl, hb1⟩
      go_wp2_with fail
      go_ret
      exact ⟨rfl, bW⟩
set_option maxHeartbeats 4000000 in
theorem integer_Add (A : Option Addr) (n c : Nat) (x : Int) (A' : Option Addr) (n' c' : Nat) (y : Int) (w : World) (h : NatAt w A n c x.natAbs) (h' : NatAt w A' n' c' y.natAbs) (hn : n ≤ 17592186044000) (hn' : n' ≤ 17592186044000) :
    Calls Try.prog 24 #[.agg #[.bool (bz x), .slice A n c], .agg #[.bool (bz y), .slice A' n' c']] w (RetInt w (x + y)) := by
  cases hx : bz x
  case false =>
    cases hy : bz y
    case false =>
      have HE := Lib.hid (show sg false (x.natAbs + y.natAbs) = x + y by have := add_same (x := x) (y := y) (hx.trans hy.symm); rwa [hx] at this)
      clear hx hy
      go_enter Try.func24, Try.ntmps24
      go_wp2_with fail
      have X1 := Blk2.newAt w (w.heap.size) 29 (.bool false) (.slice A n c) (by first | rfl | simp)
      have X2 := Blk2.newAt (w.alloc (.cells #[.bool false, .slice A n c] 29)) (w.heap.size + 1) 29 (.bool false) (.slice A' n' c') (by first | rfl | simp)
      have X3 := Blk2.newAt ((w.alloc (.cells #[.bool false, .slice A n c] 29)).alloc (.cells #[.bool false, .slice A' n' c'] 29)) (w.heap.size + 1 + 1) 29 (.bool false) (.slice none 0 0) (by first | rfl | simp)
      replace X1 := (show Blk2 (((w.alloc (.cells #[.bool false, .slice A n c] 29)).alloc (.cells #[.bool false, .slice A' n' c'] 29)).alloc (.cells #[.bool false, .slice none 0 0] 29)) _ _ _ _ from X1.to bW)
      replace X2 := (show Blk2 (((w.alloc (.cells #[.bool false, .slice A n c] 29)).alloc (.cells #[.bool false, .slice A' n' c'] 29)).alloc (.cells #[.bool false, .slice none 0 0] 29)) _ _ _ _ from X2.to bW)
      have hbwe1 : Below w.heap.size w (((w.alloc (.cells #[.bool false, .slice A n c] 29)).alloc (.cells #[.bool false, .slice A' n' c'] 29)).alloc (.cells #[.bool false, .slice none 0 0] 29)) := bW
      generalize (((w.alloc (.cells #[.bool false, .slice A n c] 29)).alloc (.cells #[.bool false, .slice A' n' c'] 29)).alloc (.cells #[.bool false, .slice none 0 0] 29)) = we1 at X1 X2 X3 hbwe1  ⊢
      have CX1 := (show Blk2 we1 _ _ _ _ from X1.to bW).cell
      have CX1' := (show Blk2 we1 _ _ _ _ from X1.to bW).cell1
      have CX2 := (show Blk2 we1 _ _ _ _ from X2.to bW).cell
      have CX2' := (show Blk2 we1 _ _ _ _ from X2.to bW).cell1
      have KP1 : ∀ w', Below we1.heap.size we1 w' → w'.cell? ⟨w.heap.size, 0, none⟩ = some (.bool false) ∧ w'.cell? ⟨w.heap.size, 1, none⟩ = some (.slice A n c) ∧ w'.cell? ⟨w.heap.size + 1, 0, none⟩ = some (.bool false) ∧ w'.cell? ⟨w.heap.size + 1, 1, none⟩ = some (.slice A' n' c') ∧ True := fun w' hw' => ⟨cellB hw' CX1, cellB hw' CX1', cellB hw' CX2, cellB hw' CX2', trivial⟩
      refine wp_regionT (S := fun w' => w'.cell? ⟨w.heap.size, 0, none⟩ = some (.bool false) ∧ w'.cell? ⟨w.heap.size, 1, none⟩ = some (.slice A n c) ∧ w'.cell? ⟨w.heap.size + 1, 0, none⟩ = some (.bool false) ∧ w'.cell? ⟨w.heap.size + 1, 1, none⟩ = some (.slice A' n' c') ∧ True) [] kR (by first | exact ⟨CSX1_1, CSX1'_1, CSX2_1, CSX2'_1, trivial⟩ | exact KP1 _ bW) (fun hHeld => ?_)
      have hbd1 : Below we1.heap.size we1 we1.drew := nxw (Below.refl _ _)
      generalize we1.drew = wd1 at hHeld hbd1 ⊢
      refine anyT_take (i := 0) (v := ?_) gO kR kR kR kR (by exact fun _ _ _ h => h) (Or.inl ⟨by rfl, ?_⟩) (by assumption) ?_
      rotate_left
      · intro w hSw; (try dsimp only at hSw); go_simp; try with_reducible rfl
      try simp only [Act.put, sX, sY, sZ]
      refine anyT_take (i := 1) (v := ?_) gO kR kR kR kR (by exact fun _ _ _ h => h) (Or.inl ⟨by rfl, ?_⟩) (by assumption) ?_
      rotate_left
      · intro w hSw; (try dsimp only at hSw); go_simp; try with_reducible rfl
      try simp only [Act.put, sX, sY, sZ]
      refine anyT_take (i := 2) (v := ?_) gO kR kR kR kR (by exact fun _ _ _ h => h) (Or.inl ⟨by rfl, ?_⟩) (by assumption) ?_
      rotate_left
      · intro w hSw; (try dsimp only at hSw); go_simp; try with_reducible rfl
      try simp only [Act.put, sX, sY, sZ]
      refine anyT_take (i := 3) (v := ?_) gO kR kR kR kR (by exact fun _ _ _ h => h) (Or.inl ⟨by rfl, ?_⟩) (by assumption) ?_
      rotate_left
      · intro w hSw; (try dsimp only at hSw); go_simp; try with_reducible rfl
      try simp only [Act.put, sX, sY, sZ]
      refine anyT_take (i := 4) (v := ?_) gO kR kR kR kR (by exact fun _ _ _ h => h) (Or.inl ⟨by rfl, ?_⟩) (by assumption) ?_
      rotate_left
      · intro w hSw; (try dsimp only at hSw); go_simp; try with_reducible rfl
      try simp only [Act.put, sX, sY, sZ]
      refine anyT_take (i := 5) (v := ?_) gO kR kR kR kR (by exact fun _ _ _ h => h) (Or.inl ⟨by rfl, ?_⟩) (by assumption) ?_
      rotate_left
      · intro w hSw; (try dsimp only at hSw); go_simp; try with_reducible rfl
      try simp only [Act.put, sX, sY, sZ]
      refine anyT_ready (rs := [6]) kR (by simp) (ReadyT.cons gO (fun K hK => ?_) ReadyT.nil)
      go_simp
      go_at_call 43
      (with_reducible refine (nat_Add _ _ _ _ _ _ _ _ _ (h.to bW) (h'.to bW) (by omega) (by omega)).mono ?_)
      rintro e w1 ⟨A1, n1, c1, rfl, h1, hb1⟩
      have q1 := h1.le_of _ (add_lt h.lt h'.lt)
      go_simp
      refine hK.out _ _ (by first | exact ⟨CSX1_1, CSX1'_1, CSX2_1, CSX2'_1, trivial⟩ | exact KP1 _ bW) (fun hHeld => ?_)
      clear hK K
      try simp only [Act.put, sX, sY, sZ]
      refine anyT_ready (rs := [7]) kR (by simp) (ReadyT.cons gO (fun K hK => ?_) ReadyT.nil)
      go_simp
      go_at_call 37
      refine (integer_New false _ _ _ (x.natAbs + y.natAbs) _ (h1.to bW)).mono ?_
      rw [HE.out]
      rintro e w2 ⟨A2, n2, c2, rfl, h2, hb2⟩
      go_simp
      refine hK.out _ _ (by first | exact ⟨CSX1_1, CSX1'_1, CSX2_1, CSX2'_1, trivial⟩ | exact KP1 _ bW) (fun hHeld => ?_)
      clear hK K
      try simp only [Act.put, sX, sY, sZ]
      refine anyT_ready (rs := [8]) kR (by simp) (ReadyT.cons gO (fun K hK => ?_) ReadyT.nil)
      have cqX3 := (show Blk2 w2 _ _ _ _ from X3.to bW).cell
      have cqX3' := (show Blk2 w2 _ _ _ _ from X3.to bW).cell1
      have fqX3 := (show Blk2 w2 _ _ _ _ from X3.to bW).free 0
      have fqX3' := (show Blk2 w2 _ _ _ _ from X3.to bW).free 1
      have CSX1_1 := (((show Blk2 w2 _ _ _ _ from X1.to bW).far (p := ⟨w.heap.size + 1 + 1, 0, none⟩) (by show w.heap.size ≠ w.heap.size + 1 + 1; omega) (.bool (bz (x + y)))).far (p := ⟨w.heap.size + 1 + 1, 1, none⟩) (by show w.heap.size ≠ w.heap.size + 1 + 1; omega) (.slice A2 n2 c2)).cell
      have CSX1'_1 := (((show Blk2 w2 _ _ _ _ from X1.to bW).far (p := ⟨w.heap.size + 1 + 1, 0, none⟩) (by show w.heap.size ≠ w.heap.size + 1 + 1; omega) (.bool (bz (x + y)))).far (p := ⟨w.heap.size + 1 + 1, 1, none⟩) (by show w.heap.size ≠ w.heap.size + 1 + 1; omega) (.slice A2 n2 c2)).cell1
      have CSX2_1 := (((show Blk2 w2 _ _ _ _ from X2.to bW).far (p := ⟨w.heap.size + 1 + 1, 0, none⟩) (by show w.heap.size + 1 ≠ w.heap.size + 1 + 1; omega) (.bool (bz (x + y)))).far (p := ⟨w.heap.size + 1 + 1, 1, none⟩) (by show w.heap.size + 1 ≠ w.heap.size + 1 + 1; omega) (.slice A2 n2 c2)).cell
      have CSX2'_1 := (((show Blk2 w2 _ _ _ _ from X2.to bW).far (p := ⟨w.heap.size + 1 + 1, 0, none⟩) (by show w.heap.size + 1 ≠ w.heap.size + 1 + 1; omega) (.bool (bz (x + y)))).far (p := ⟨w.heap.size + 1 + 1, 1, none⟩) (by show w.heap.size + 1 ≠ w.heap.size + 1 + 1; omega) (.slice A2 n2 c2)).cell1
      go_simp
      refine hK.out _ _ (by first | exact ⟨CSX1_1, CSX1'_1, CSX2_1, CSX2'_1, trivial⟩ | exact KP1 _ bW) (fun hHeld => ?_)
      clear hK K
      try simp only [Act.put, sX, sY, sZ]
      refine anyT_done kR ?_ _
      clear CSX1_1 CSX1'_1 CSX2_1 CSX2'_1
      clear hHeld cqX3 cqX3' fqX3' fqX3 CX1 CX1' CX2 CX2' KP1
      replace h := (show NatAt w2 _ _ _ _ from h.to bW)
      replace h' := (show NatAt w2 _ _ _ _ from h'.to bW)
      replace h1 := (show NatAt w2 _ _ _ _ from h1.to bW)
      replace h2 := (show NatAt w2 _ _ _ _ from h2.to bW)
      replace X1 := (show Blk2 w2 _ _ _ _ from X1.to bW)
      replace X2 := (show Blk2 w2 _ _ _ _ from X2.to bW)
      replace X3 := (show Blk2 w2 _ _ _ _ from X3.to bW)
      have hbws2 := below_put2 (show Below w.heap.size w w2 from bW) (g := w.heap.size + 1 + 1) (by show w.heap.size ≤ w.heap.size + 1 + 1; omega) (.bool (bz (x + y))) (.slice A2 n2 c2)
      replace h := h.put2 X3 (.bool (bz (x + y))) (.slice A2 n2 c2)
      replace h' := h'.put2 X3 (.bool (bz (x + y))) (.slice A2 n2 c2)
      replace h1 := h1.put2 X3 (.bool (bz (x + y))) (.slice A2 n2 c2)
      replace h2 := h2.put2 X3 (.bool (bz (x + y))) (.slice A2 n2 c2)
      replace X1 := X1.off2 (g := w.heap.size + 1 + 1) (by show w.heap.size ≠ w.heap.size + 1 + 1; omega) (.bool (bz (x + y))) (.slice A2 n2 c2)
      replace X2 := X2.off2 (g := w.heap.size + 1 + 1) (by show w.heap.size + 1 ≠ w.heap.size + 1 + 1; omega) (.bool (bz (x + y))) (.slice A2 n2 c2)
      replace X3 := X3.put2 (.bool (bz (x + y))) (.slice A2 n2 c2)
      rw [show (w2.setCell ⟨w.heap.size + 1 + 1, 0, none⟩ (.bool (bz (x + y)))).setCell ⟨w.heap.size + 1 + 1, 1, none⟩ (.slice A2 n2 c2) = put2 w2 (w.heap.size + 1 + 1) (.bool (bz (x + y))) (.slice A2 n2 c2) from rfl]
      generalize put2 w2 (w.heap.size + 1 + 1) (.bool (bz (x + y))) (.slice A2 n2 c2) = ws2 at h h' h1 h2 X1 X2 X3 hbws2 ⊢
      go_wp2_with fail
      have erX3 := (show Blk2 ws2 _ _ _ _ from X3.to bW).cell
      have erX3' := (show Blk2 ws2 _ _ _ _ from X3.to bW).cell1
      exact bodyPost_ret (v := .agg #[.bool (bz (x + y)), .slice A2 n2 c2]) (by simp [results, Try.results24, go_sem, erX3, erX3']) rfl ⟨_, _, _, rfl, (show NatAt ws2 _ _ _ _ from (h2.to bW)), (show Below w.heap.size w ws2 from bW)⟩
    case true =>
      by_cases hg : y.natAbs ≤ x.natAbs
      · have HE := Lib.hid (show sg false (x.natAbs - y.natAbs) = x + y by have := add_great (x := x) (y := y) (by rw [hx, hy]; decide) hg; rwa [hx] at this)
        have HG := Lib.hid hg
        clear hx hy hg
        go_enter Try.func24, Try.ntmps24
        go_wp2_with fail
        have X1 := Blk2.newAt w (w.heap.size) 29 (.bool false) (.slice A n c) (by first | rfl | simp)
        have X2 := Blk2.newAt (w.alloc (.cells #[.bool false, .slice A n c] 29)) (w.heap.size + 1) 29 (.bool true) (.slice A' n' c') (by first | rfl | simp)
        have X3 := Blk2.newAt ((w.alloc (.cells #[.bool false, .slice A n c] 29)).alloc (.cells #[.bool true, .slice A' n' c'] 29)) (w.heap.size + 1 + 1) 29 (.bool false) (.slice none 0 0) (by first | rfl | simp)
        replace X1 := (show Blk2 (((w.alloc (.cells #[.bool false, .slice A n c] 29)).alloc (.cells #[.bool true, .slice A' n' c'] 29)).alloc (.cells #[.bool false, .slice none 0 0] 29)) _ _ _ _ from X1.to bW)
        replace X2 := (show Blk2 (((w.alloc (.cells #[.bool false, .slice A n c] 29)).alloc (.cells #[.bool true, .slice A' n' c'] 29)).alloc (.cells #[.bool false, .slice none 0 0] 29)) _ _ _ _ from X2.to bW)
        have hbwe1 : Below w.heap.size w (((w.alloc (.cells #[.bool false, .slice A n c] 29)).alloc (.cells #[.bool true, .slice A' n' c'] 29)).alloc (.cells #[.bool false, .slice none 0 0] 29)) := bW
        generalize (((w.alloc (.cells #[.bool false, .slice A n c] 29)).alloc (.cells #[.bool true, .slice A' n' c'] 29)).alloc (.cells #[.bool false, .slice none 0 0] 29)) = we1 at X1 X2 X3 hbwe1  ⊢
        refine (nat_Sub _ _ _ _ _ _ _ _ _ (h.to bW) (h'.to bW) (by omega)).mono ?_
        rw [decide_eq_true HG.out]
        rintro e w1 ⟨A1, n1, c1, rfl, h1, hb1⟩
        have q1 := h1.le_of _ (Nat.lt_of_le_of_lt (Nat.sub_le x.natAbs y.natAbs) h.lt)
        have d1 := (show Blk2 (w1.alloc (.cells #[.slice A1 n1 c1] 27)) _ _ _ _ from X1.to bW).cell
        have d1' := (show Blk2 (w1.alloc (.cells #[.slice A1 n1 c1] 27)) _ _ _ _ from X1.to bW).cell1
        go_wp2_with fail
        clear d1 d1'
        have ltX1_w1 : w.heap.size < w1.heap.size := (show Blk2 w1 _ _ _ _ from X1.to bW).lt
        have ltX2_w1 : w.heap.size + 1 < w1.heap.size := (show Blk2 w1 _ _ _ _ from X2.to bW).lt
        have ltX3_w1 : w.heap.size + 1 + 1 < w1.heap.size := (show Blk2 w1 _ _ _ _ from X3.to bW).lt
        have X4 := Blk1.newAt w1 (w1.heap.size) 27 (.slice A1 n1 c1) (by first | rfl | simp)
        have hbwe2 : Below w1.heap.size w1 (w1.alloc (.cells #[.slice A1 n1 c1] 27)) := bW
        generalize (w1.alloc (.cells #[.slice A1 n1 c1] 27)) = we2 at X4 hbwe2  ⊢
        refine (integer_New false _ _ _ (x.natAbs - y.natAbs) _ (h1.to bW)).mono ?_
        rw [HE.out]
        rintro e w2 ⟨A2, n2, c2, rfl, h2, hb2⟩
        have d2 := (show Blk2 w2 _ _ _ _ from X3.to bW).cell
        have d2' := (show Blk2 w2 _ _ _ _ from X3.to bW).cell1
        have f0d2 := (show Blk2 w2 _ _ _ _ from X3.to bW).free 0
        have f1d2 := (show Blk2 w2 _ _ _ _ from X3.to bW).free 1
        go_wp2_with fail
        clear d2 d2' f0d2 f1d2
        replace h := (show NatAt w2 _ _ _ _ from h.to bW)
        replace h' := (show NatAt w2 _ _ _ _ from h'.to bW)
        replace h1 := (show NatAt w2 _ _ _ _ from h1.to bW)
        replace h2 := (show NatAt w2 _ _ _ _ from h2.to bW)
        replace X1 := (show Blk2 w2 _ _ _ _ from X1.to bW)
        replace X2 := (show Blk2 w2 _ _ _ _ from X2.to bW)
        replace X3 := (show Blk2 w2 _ _ _ _ from X3.to bW)
        replace X4 := (show Blk1 w2 _ _ _ from X4.to bW)
        have hbws3 := below_put2 (show Below w.heap.size w w2 from bW) (g := w.heap.size + 1 + 1) (by show w.heap.size ≤ w.heap.size + 1 + 1; omega) (.bool (bz (x + y))) (.slice A2 n2 c2)
        replace h := h.put2 X3 (.bool (bz (x + y))) (.slice A2 n2 c2)
        replace h' := h'.put2 X3 (.bool (bz (x + y))) (.slice A2 n2 c2)
        replace h1 := h1.put2 X3 (.bool (bz (x + y))) (.slice A2 n2 c2)
        replace h2 := h2.put2 X3 (.bool (bz (x + y))) (.slice A2 n2 c2)
        replace X1 := X1.off2 (g := w.heap.size + 1 + 1) (by show w.heap.size ≠ w.heap.size + 1 + 1; omega) (.bool (bz (x + y))) (.slice A2 n2 c2)
        replace X2 := X2.off2 (g := w.heap.size + 1 + 1) (by show w.heap.size + 1 ≠ w.heap.size + 1 + 1; omega) (.bool (bz (x + y))) (.slice A2 n2 c2)
        replace X4 := X4.off2 (g := w.heap.size + 1 + 1) (by show w1.heap.size ≠ w.heap.size + 1 + 1; omega) (.bool (bz (x + y))) (.slice A2 n2 c2)
        replace X3 := X3.put2 (.bool (bz (x + y))) (.slice A2 n2 c2)
        rw [show (w2.setCell ⟨w.heap.size + 1 + 1, 0, none⟩ (.bool (bz (x + y)))).setCell ⟨w.heap.size + 1 + 1, 1, none⟩ (.slice A2 n2 c2) = put2 w2 (w.heap.size + 1 + 1) (.bool (bz (x + y))) (.slice A2 n2 c2) from rfl]
        generalize put2 w2 (w.heap.size + 1 + 1) (.bool (bz (x + y))) (.slice A2 n2 c2) = ws3 at h h' h1 h2 X1 X2 X4 X3 hbws3 ⊢
        have erX3 := (show Blk2 ws3 _ _ _ _ from X3.to bW).cell
        have erX3' := (show Blk2 ws3 _ _ _ _ from X3.to bW).cell1
        exact bodyPost_ret (v := .agg #[.bool (bz (x + y)), .slice A2 n2 c2]) (by simp [results, Try.results24, go_sem, erX3, erX3']) rfl ⟨_, _, _, rfl, (show NatAt ws3 _ _ _ _ from (h2.to bW)), (show Below w.heap.size w ws3 from bW)⟩
      · have HE := Lib.hid (show sg true (y.natAbs - x.natAbs) = x + y by have := add_less (x := x) (y := y) (by rw [hx, hy]; decide) (by omega); rwa [hy] at this)
        have HG := Lib.hid hg
        have HG2 := Lib.hid (show x.natAbs ≤ y.natAbs by omega)
        clear hx hy hg
        go_enter Try.func24, Try.ntmps24
        go_wp2_with fail
        have X1 := Blk2.newAt w (w.heap.size) 29 (.bool false) (.slice A n c) (by first | rfl | simp)
        have X2 := Blk2.newAt (w.alloc (.cells #[.bool false, .slice A n c] 29)) (w.heap.size + 1) 29 (.bool true) (.slice A' n' c') (by first | rfl | simp)
        have X3 := Blk2.newAt ((w.alloc (.cells #[.bool false, .slice A n c] 29)).alloc (.cells #[.bool true, .slice A' n' c'] 29)) (w.heap.size + 1 + 1) 29 (.bool false) (.slice none 0 0) (by first | rfl | simp)
        replace X1 := (show Blk2 (((w.alloc (.cells #[.bool false, .slice A n c] 29)).alloc (.cells #[.bool true, .slice A' n' c'] 29)).alloc (.cells #[.bool false, .slice none 0 0] 29)) _ _ _ _ from X1.to bW)
        replace X2 := (show Blk2 (((w.alloc (.cells #[.bool false, .slice A n c] 29)).alloc (.cells #[.bool true, .slice A' n' c'] 29)).alloc (.cells #[.bool false, .slice none 0 0] 29)) _ _ _ _ from X2.to bW)
        have hbwe1 : Below w.heap.size w (((w.alloc (.cells #[.bool false, .slice A n c] 29)).alloc (.cells #[.bool true, .slice A' n' c'] 29)).alloc (.cells #[.bool false, .slice none 0 0] 29)) := bW
        generalize (((w.alloc (.cells #[.bool false, .slice A n c] 29)).alloc (.cells #[.bool true, .slice A' n' c'] 29)).alloc (.cells #[.bool false, .slice none 0 0] 29)) = we1 at X1 X2 X3 hbwe1  ⊢
        refine (nat_Sub _ _ _ _ _ _ _ _ _ (h.to bW) (h'.to bW) (by omega)).mono ?_
        rw [decide_eq_false HG.out]
        rintro e w1 ⟨A1, n1, c1, rfl, h1, hb1⟩
        have q1 := h1.le_of _ (Nat.lt_of_le_of_lt (Nat.sub_le x.natAbs y.natAbs) h.lt)
        have d1 := (show Blk2 (w1.alloc (.cells #[.slice A1 n1 c1] 27)) _ _ _ _ from X2.to bW).cell
        have d1' := (show Blk2 (w1.alloc (.cells #[.slice A1 n1 c1] 27)) _ _ _ _ from X2.to bW).cell1
        have d2 := (show Blk2 (w1.alloc (.cells #[.slice A1 n1 c1] 27)) _ _ _ _ from X1.to bW).cell
        have d2' := (show Blk2 (w1.alloc (.cells #[.slice A1 n1 c1] 27)) _ _ _ _ from X1.to bW).cell1
        go_wp2_with fail
        clear d1 d1' d2 d2'
        have ltX1_w1 : w.heap.size < w1.heap.size := (show Blk2 w1 _ _ _ _ from X1.to bW).lt
        have ltX2_w1 : w.heap.size + 1 < w1.heap.size := (show Blk2 w1 _ _ _ _ from X2.to bW).lt
        have ltX3_w1 : w.heap.size + 1 + 1 < w1.heap.size := (show Blk2 w1 _ _ _ _ from X3.to bW).lt
        have X4 := Blk1.newAt w1 (w1.heap.size) 27 (.slice A1 n1 c1) (by first | rfl | simp)
        have hbwe2 : Below w1.heap.size w1 (w1.alloc (.cells #[.slice A1 n1 c1] 27)) := bW
        generalize (w1.alloc (.cells #[.slice A1 n1 c1] 27)) = we2 at X4 hbwe2  ⊢
        refine (nat_Sub _ _ _ _ _ _ _ _ _ (h'.to bW) (h.to bW) (by omega)).mono ?_
        rw [decide_eq_true HG2.out]
        rintro e w2 ⟨A2, n2, c2, rfl, h2, hb2⟩
        have q2 := h2.le_of _ (Nat.lt_of_le_of_lt (Nat.sub_le y.natAbs x.natAbs) h'.lt)
        have d3 := (show Blk2 (w2.alloc (.cells #[.slice A2 n2 c2] 27)) _ _ _ _ from X2.to bW).cell
        have d3' := (show Blk2 (w2.alloc (.cells #[.slice A2 n2 c2] 27)) _ _ _ _ from X2.to bW).cell1
        go_wp2_with fail
        clear d3 d3'
        have ltX1_w2 : w.heap.size < w2.heap.size := (show Blk2 w2 _ _ _ _ from X1.to bW).lt
        have ltX2_w2 : w.heap.size + 1 < w2.heap.size := (show Blk2 w2 _ _ _ _ from X2.to bW).lt
        have ltX3_w2 : w.heap.size + 1 + 1 < w2.heap.size := (show Blk2 w2 _ _ _ _ from X3.to bW).lt
        have ltX4_w2 : w1.heap.size < w2.heap.size := (show Blk1 w2 _ _ _ from X4.to bW).lt
        have X5 := Blk1.newAt w2 (w2.heap.size) 27 (.slice A2 n2 c2) (by first | rfl | simp)
        have hbwe3 : Below w2.heap.size w2 (w2.alloc (.cells #[.slice A2 n2 c2] 27)) := bW
        generalize (w2.alloc (.cells #[.slice A2 n2 c2] 27)) = we3 at X5 hbwe3  ⊢
        refine (integer_New true _ _ _ (y.natAbs - x.natAbs) _ (h2.to bW)).mono ?_
        rw [HE.out]
        rintro e w3 ⟨A3, n3, c3, rfl, h3, hb3⟩
        have d4 := (show Blk2 w3 _ _ _ _ from X3.to bW).cell
        have d4' := (show Blk2 w3 _ _ _ _ from X3.to bW).cell1
        have f0d4 := (show Blk2 w3 _ _ _ _ from X3.to bW).free 0
        have f1d4 := (show Blk2 w3 _ _ _ _ from X3.to bW).free 1
        go_wp2_with fail
        clear d4 d4' f0d4 f1d4
        replace h := (show NatAt w3 _ _ _ _ from h.to bW)
        replace h' := (show NatAt w3 _ _ _ _ from h'.to bW)
        replace h1 := (show NatAt w3 _ _ _ _ from h1.to bW)
        replace h2 := (show NatAt w3 _ _ _ _ from h2.to bW)
        replace h3 := (show NatAt w3 _ _ _ _ from h3.to bW)
        replace X1 := (show Blk2 w3 _ _ _ _ from X1.to bW)
        replace X2 := (show Blk2 w3 _ _ _ _ from X2.to bW)
        replace X3 := (show Blk2 w3 _ _ _ _ from X3.to bW)
        replace X4 := (show Blk1 w3 _ _ _ from X4.to bW)
        replace X5 := (show Blk1 w3 _ _ _ from X5.to bW)
        have hbws4 := below_put2 (show Below w.heap.size w w3 from bW) (g := w.heap.size + 1 + 1) (by show w.heap.size ≤ w.heap.size + 1 + 1; omega) (.bool (bz (x + y))) (.slice A3 n3 c3)
        replace h := h.put2 X3 (.bool (bz (x + y))) (.slice A3 n3 c3)
        replace h' := h'.put2 X3 (.bool (bz (x + y))) (.slice A3 n3 c3)
        replace h1 := h1.put2 X3 (.bool (bz (x + y))) (.slice A3 n3 c3)
        replace h2 := h2.put2 X3 (.bool (bz (x + y))) (.slice A3 n3 c3)
        replace h3 := h3.put2 X3 (.bool (bz (x + y))) (.slice A3 n3 c3)
        replace X1 := X1.off2 (g := w.heap.size + 1 + 1) (by show w.heap.size ≠ w.heap.size + 1 + 1; omega) (.bool (bz (x + y))) (.slice A3 n3 c3)
        replace X2 := X2.off2 (g := w.heap.size + 1 + 1) (by show w.heap.size + 1 ≠ w.heap.size + 1 + 1; omega) (.bool (bz (x + y))) (.slice A3 n3 c3)
        replace X4 := X4.off2 (g := w.heap.size + 1 + 1) (by show w1.heap.size ≠ w.heap.size + 1 + 1; omega) (.bool (bz (x + y))) (.slice A3 n3 c3)
        replace X5 := X5.off2 (g := w.heap.size + 1 + 1) (by show w2.heap.size ≠ w.heap.size + 1 + 1; omega) (.bool (bz (x + y))) (.slice A3 n3 c3)
        replace X3 := X3.put2 (.bool (bz (x + y))) (.slice A3 n3 c3)
        rw [show (w3.setCell ⟨w.heap.size + 1 + 1, 0, none⟩ (.bool (bz (x + y)))).setCell ⟨w.heap.size + 1 + 1, 1, none⟩ (.slice A3 n3 c3) = put2 w3 (w.heap.size + 1 + 1) (.bool (bz (x + y))) (.slice A3 n3 c3) from rfl]
        generalize put2 w3 (w.heap.size + 1 + 1) (.bool (bz (x + y))) (.slice A3 n3 c3) = ws4 at h h' h1 h2 h3 X1 X2 X4 X5 X3 hbws4 ⊢
        have erX3 := (show Blk2 ws4 _ _ _ _ from X3.to bW).cell
        have erX3' := (show Blk2 ws4 _ _ _ _ from X3.to bW).cell1
        exact bodyPost_ret (v := .agg #[.bool (bz (x + y)), .slice A3 n3 c3]) (by simp [results, Try.results24, go_sem, erX3, erX3']) rfl ⟨_, _, _, rfl, (show NatAt ws4 _ _ _ _ from (h3.to bW)), (show Below w.heap.size w ws4 from bW)⟩
  case true =>
    cases hy : bz y
    case false =>
      by_cases hg : y.natAbs ≤ x.natAbs
      · have HE := Lib.hid (show sg true (x.natAbs - y.natAbs) = x + y by have := add_great (x := x) (y := y) (by rw [hx, hy]; decide) hg; rwa [hx] at this)
        have HG := Lib.hid hg
        clear hx hy hg
        go_enter Try.func24, Try.ntmps24
        go_wp2_with fail
        have X1 := Blk2.newAt w (w.heap.size) 29 (.bool true) (.slice A n c) (by first | rfl | simp)
        have X2 := Blk2.newAt (w.alloc (.cells #[.bool true, .slice A n c] 29)) (w.heap.size + 1) 29 (.bool false) (.slice A' n' c') (by first | rfl | simp)
        have X3 := Blk2.newAt ((w.alloc (.cells #[.bool true, .slice A n c] 29)).alloc (.cells #[.bool false, .slice A' n' c'] 29)) (w.heap.size + 1 + 1) 29 (.bool false) (.slice none 0 0) (by first | rfl | simp)
        replace X1 := (show Blk2 (((w.alloc (.cells #[.bool true, .slice A n c] 29)).alloc (.cells #[.bool false, .slice A' n' c'] 29)).alloc (.cells #[.bool false, .slice none 0 0] 29)) _ _ _ _ from X1.to bW)
        replace X2 := (show Blk2 (((w.alloc (.cells #[.bool true, .slice A n c] 29)).alloc (.cells #[.bool false, .slice A' n' c'] 29)).alloc (.cells #[.bool false, .slice none 0 0] 29)) _ _ _ _ from X2.to bW)
        have hbwe1 : Below w.heap.size w (((w.alloc (.cells #[.bool true, .slice A n c] 29)).alloc (.cells #[.bool false, .slice A' n' c'] 29)).alloc (.cells #[.bool false, .slice none 0 0] 29)) := bW
        generalize (((w.alloc (.cells #[.bool true, .slice A n c] 29)).alloc (.cells #[.bool false, .slice A' n' c'] 29)).alloc (.cells #[.bool false, .slice none 0 0] 29)) = we1 at X1 X2 X3 hbwe1  ⊢
        refine (nat_Sub _ _ _ _ _ _ _ _ _ (h.to bW) (h'.to bW) (by omega)).mono ?_
        rw [decide_eq_true HG.out]
        rintro e w1 ⟨A1, n1, c1, rfl, h1, hb1⟩
        have q1 := h1.le_of _ (Nat.lt_of_le_of_lt (Nat.sub_le x.natAbs y.natAbs) h.lt)
        have d1 := (show Blk2 (w1.alloc (.cells #[.slice A1 n1 c1] 27)) _ _ _ _ from X1.to bW).cell
        have d1' := (show Blk2 (w1.alloc (.cells #[.slice A1 n1 c1] 27)) _ _ _ _ from X1.to bW).cell1
        go_wp2_with fail
        clear d1 d1'
        have ltX1_w1 : w.heap.size < w1.heap.size := (show Blk2 w1 _ _ _ _ from X1.to bW).lt
        have ltX2_w1 : w.heap.size + 1 < w1.heap.size := (show Blk2 w1 _ _ _ _ from X2.to bW).lt
        have ltX3_w1 : w.heap.size + 1 + 1 < w1.heap.size := (show Blk2 w1 _ _ _ _ from X3.to bW).lt
        have X4 := Blk1.newAt w1 (w1.heap.size) 27 (.slice A1 n1 c1) (by first | rfl | simp)
        have hbwe2 : Below w1.heap.size w1 (w1.alloc (.cells #[.slice A1 n1 c1] 27)) := bW
        generalize (w1.alloc (.cells #[.slice A1 n1 c1] 27)) = we2 at X4 hbwe2  ⊢
        refine (integer_New true _ _ _ (x.natAbs - y.natAbs) _ (h1.to bW)).mono ?_
        rw [HE.out]
        rintro e w2 ⟨A2, n2, c2, rfl, h2, hb2⟩
        have d2 := (show Blk2 w2 _ _ _ _ from X3.to bW).cell
        have d2' := (show Blk2 w2 _ _ _ _ from X3.to bW).cell1
        have f0d2 := (show Blk2 w2 _ _ _ _ from X3.to bW).free 0
        have f1d2 := (show Blk2 w2 _ _ _ _ from X3.to bW).free 1
        go_wp2_with fail
        clear d2 d2' f0d2 f1d2
        replace h := (show NatAt w2 _ _ _ _ from h.to bW)
        replace h' := (show NatAt w2 _ _ _ _ from h'.to bW)
        replace h1 := (show NatAt w2 _ _ _ _ from h1.to bW)
        replace h2 := (show NatAt w2 _ _ _ _ from h2.to bW)
        replace X1 := (show Blk2 w2 _ _ _ _ from X1.to bW)
        replace X2 := (show Blk2 w2 _ _ _ _ from X2.to bW)
        replace X3 := (show Blk2 w2 _ _ _ _ from X3.to bW)
        replace X4 := (show Blk1 w2 _ _ _ from X4.to bW)
        have hbws3 := below_put2 (show Below w.heap.size w w2 from bW) (g := w.heap.size + 1 + 1) (by show w.heap.size ≤ w.heap.size + 1 + 1; omega) (.bool (bz (x + y))) (.slice A2 n2 c2)
        replace h := h.put2 X3 (.bool (bz (x + y))) (.slice A2 n2 c2)
        replace h' := h'.put2 X3 (.bool (bz (x + y))) (.slice A2 n2 c2)
        replace h1 := h1.put2 X3 (.bool (bz (x + y))) (.slice A2 n2 c2)
        replace h2 := h2.put2 X3 (.bool (bz (x + y))) (.slice A2 n2 c2)
        replace X1 := X1.off2 (g := w.heap.size + 1 + 1) (by show w.heap.size ≠ w.heap.size + 1 + 1; omega) (.bool (bz (x + y))) (.slice A2 n2 c2)
        replace X2 := X2.off2 (g := w.heap.size + 1 + 1) (by show w.heap.size + 1 ≠ w.heap.size + 1 + 1; omega) (.bool (bz (x + y))) (.slice A2 n2 c2)
        replace X4 := X4.off2 (g := w.heap.size + 1 + 1) (by show w1.heap.size ≠ w.heap.size + 1 + 1; omega) (.bool (bz (x + y))) (.slice A2 n2 c2)
        replace X3 := X3.put2 (.bool (bz (x + y))) (.slice A2 n2 c2)
        rw [show (w2.setCell ⟨w.heap.size + 1 + 1, 0, none⟩ (.bool (bz (x + y)))).setCell ⟨w.heap.size + 1 + 1, 1, none⟩ (.slice A2 n2 c2) = put2 w2 (w.heap.size + 1 + 1) (.bool (bz (x + y))) (.slice A2 n2 c2) from rfl]
        generalize put2 w2 (w.heap.size + 1 + 1) (.bool (bz (x + y))) (.slice A2 n2 c2) = ws3 at h h' h1 h2 X1 X2 X4 X3 hbws3 ⊢
        have erX3 := (show Blk2 ws3 _ _ _ _ from X3.to bW).cell
        have erX3' := (show Blk2 ws3 _ _ _ _ from X3.to bW).cell1
        exact bodyPost_ret (v := .agg #[.bool (bz (x + y)), .slice A2 n2 c2]) (by simp [results, Try.results24, go_sem, erX3, erX3']) rfl ⟨_, _, _, rfl, (show NatAt ws3 _ _ _ _ from (h2.to bW)), (show Below w.heap.size w ws3 from bW)⟩
      · have HE := Lib.hid (show sg false (y.natAbs - x.natAbs) = x + y by have := add_less (x := x) (y := y) (by rw [hx, hy]; decide) (by omega); rwa [hy] at this)
        have HG := Lib.hid hg
        have HG2 := Lib.hid (show x.natAbs ≤ y.natAbs by omega)
        clear hx hy hg
        go_enter Try.func24, Try.ntmps24
        go_wp2_with fail
        have X1 := Blk2.newAt w (w.heap.size) 29 (.bool true) (.slice A n c) (by first | rfl | simp)
        have X2 := Blk2.newAt (w.alloc (.cells #[.bool true, .slice A n c] 29)) (w.heap.size + 1) 29 (.bool false) (.slice A' n' c') (by first | rfl | simp)
        have X3 := Blk2.newAt ((w.alloc (.cells #[.bool true, .slice A n c] 29)).alloc (.cells #[.bool false, .slice A' n' c'] 29)) (w.heap.size + 1 + 1) 29 (.bool false) (.slice none 0 0) (by first | rfl | simp)
        replace X1 := (show Blk2 (((w.alloc (.cells #[.bool true, .slice A n c] 29)).alloc (.cells #[.bool false, .slice A' n' c'] 29)).alloc (.cells #[.bool false, .slice none 0 0] 29)) _ _ _ _ from X1.to bW)
        replace X2 := (show Blk2 (((w.alloc (.cells #[.bool true, .slice A n c] 29)).alloc (.cells #[.bool false, .slice A' n' c'] 29)).alloc (.cells #[.bool false, .slice none 0 0] 29)) _ _ _ _ from X2.to bW)
        have hbwe1 : Below w.heap.size w (((w.alloc (.cells #[.bool true, .slice A n c] 29)).alloc (.cells #[.bool false, .slice A' n' c'] 29)).alloc (.cells #[.bool false, .slice none 0 0] 29)) := bW
        generalize (((w.alloc (.cells #[.bool true, .slice A n c] 29)).alloc (.cells #[.bool false, .slice A' n' c'] 29)).alloc (.cells #[.bool false, .slice none 0 0] 29)) = we1 at X1 X2 X3 hbwe1  ⊢
        refine (nat_Sub _ _ _ _ _ _ _ _ _ (h.to bW) (h'.to bW) (by omega)).mono ?_
        rw [decide_eq_false HG.out]
        rintro e w1 ⟨A1, n1, c1, rfl, h1, hb1⟩
        have q1 := h1.le_of _ (Nat.lt_of_le_of_lt (Nat.sub_le x.natAbs y.natAbs) h.lt)
        have d1 := (show Blk2 (w1.alloc (.cells #[.slice A1 n1 c1] 27)) _ _ _ _ from X2.to bW).cell
        have d1' := (show Blk2 (w1.alloc (.cells #[.slice A1 n1 c1] 27)) _ _ _ _ from X2.to bW).cell1
        have d2 := (show Blk2 (w1.alloc (.cells #[.slice A1 n1 c1] 27)) _ _ _ _ from X1.to bW).cell
        have d2' := (show Blk2 (w1.alloc (.cells #[.slice A1 n1 c1] 27)) _ _ _ _ from X1.to bW).cell1
        go_wp2_with fail
        clear d1 d1' d2 d2'
        have ltX1_w1 : w.heap.size < w1.heap.size := (show Blk2 w1 _ _ _ _ from X1.to bW).lt
        have ltX2_w1 : w.heap.size + 1 < w1.heap.size := (show Blk2 w1 _ _ _ _ from X2.to bW).lt
        have ltX3_w1 : w.heap.size + 1 + 1 < w1.heap.size := (show Blk2 w1 _ _ _ _ from X3.to bW).lt
        have X4 := Blk1.newAt w1 (w1.heap.size) 27 (.slice A1 n1 c1) (by first | rfl | simp)
        have hbwe2 : Below w1.heap.size w1 (w1.alloc (.cells #[.slice A1 n1 c1] 27)) := bW
        generalize (w1.alloc (.cells #[.slice A1 n1 c1] 27)) = we2 at X4 hbwe2  ⊢
        refine (nat_Sub _ _ _ _ _ _ _ _ _ (h'.to bW) (h.to bW) (by omega)).mono ?_
        rw [decide_eq_true HG2.out]
        rintro e w2 ⟨A2, n2, c2, rfl, h2, hb2⟩
        have q2 := h2.le_of _ (Nat.lt_of_le_of_lt (Nat.sub_le y.natAbs x.natAbs) h'.lt)
        have d3 := (show Blk2 (w2.alloc (.cells #[.slice A2 n2 c2] 27)) _ _ _ _ from X2.to bW).cell
        have d3' := (show Blk2 (w2.alloc (.cells #[.slice A2 n2 c2] 27)) _ _ _ _ from X2.to bW).cell1
        go_wp2_with fail
        clear d3 d3'
        have ltX1_w2 : w.heap.size < w2.heap.size := (show Blk2 w2 _ _ _ _ from X1.to bW).lt
        have ltX2_w2 : w.heap.size + 1 < w2.heap.size := (show Blk2 w2 _ _ _ _ from X2.to bW).lt
        have ltX3_w2 : w.heap.size + 1 + 1 < w2.heap.size := (show Blk2 w2 _ _ _ _ from X3.to bW).lt
        have ltX4_w2 : w1.heap.size < w2.heap.size := (show Blk1 w2 _ _ _ from X4.to bW).lt
        have X5 := Blk1.newAt w2 (w2.heap.size) 27 (.slice A2 n2 c2) (by first | rfl | simp)
        have hbwe3 : Below w2.heap.size w2 (w2.alloc (.cells #[.slice A2 n2 c2] 27)) := bW
        generalize (w2.alloc (.cells #[.slice A2 n2 c2] 27)) = we3 at X5 hbwe3  ⊢
        refine (integer_New false _ _ _ (y.natAbs - x.natAbs) _ (h2.to bW)).mono ?_
        rw [HE.out]
        rintro e w3 ⟨A3, n3, c3, rfl, h3, hb3⟩
        have d4 := (show Blk2 w3 _ _ _ _ from X3.to bW).cell
        have d4' := (show Blk2 w3 _ _ _ _ from X3.to bW).cell1
        have f0d4 := (show Blk2 w3 _ _ _ _ from X3.to bW).free 0
        have f1d4 := (show Blk2 w3 _ _ _ _ from X3.to bW).free 1
        go_wp2_with fail
        clear d4 d4' f0d4 f1d4
        replace h := (show NatAt w3 _ _ _ _ from h.to bW)
        replace h' := (show NatAt w3 _ _ _ _ from h'.to bW)
        replace h1 := (show NatAt w3 _ _ _ _ from h1.to bW)
        replace h2 := (show NatAt w3 _ _ _ _ from h2.to bW)
        replace h3 := (show NatAt w3 _ _ _ _ from h3.to bW)
        replace X1 := (show Blk2 w3 _ _ _ _ from X1.to bW)
        replace X2 := (show Blk2 w3 _ _ _ _ from X2.to bW)
        replace X3 := (show Blk2 w3 _ _ _ _ from X3.to bW)
        replace X4 := (show Blk1 w3 _ _ _ from X4.to bW)
        replace X5 := (show Blk1 w3 _ _ _ from X5.to bW)
        have hbws4 := below_put2 (show Below w.heap.size w w3 from bW) (g := w.heap.size + 1 + 1) (by show w.heap.size ≤ w.heap.size + 1 + 1; omega) (.bool (bz (x + y))) (.slice A3 n3 c3)
        replace h := h.put2 X3 (.bool (bz (x + y))) (.slice A3 n3 c3)
        replace h' := h'.put2 X3 (.bool (bz (x + y))) (.slice A3 n3 c3)
        replace h1 := h1.put2 X3 (.bool (bz (x + y))) (.slice A3 n3 c3)
        replace h2 := h2.put2 X3 (.bool (bz (x + y))) (.slice A3 n3 c3)
        replace h3 := h3.put2 X3 (.bool (bz (x + y))) (.slice A3 n3 c3)
        replace X1 := X1.off2 (g := w.heap.size + 1 + 1) (by show w.heap.size ≠ w.heap.size + 1 + 1; omega) (.bool (bz (x + y))) (.slice A3 n3 c3)
        replace X2 := X2.off2 (g := w.heap.size + 1 + 1) (by show w.heap.size + 1 ≠ w.heap.size + 1 + 1; omega) (.bool (bz (x + y))) (.slice A3 n3 c3)
        replace X4 := X4.off2 (g := w.heap.size + 1 + 1) (by show w1.heap.size ≠ w.heap.size + 1 + 1; omega) (.bool (bz (x + y))) (.slice A3 n3 c3)
        replace X5 := X5.off2 (g := w.heap.size + 1 + 1) (by show w2.heap.size ≠ w.heap.size + 1 + 1; omega) (.bool (bz (x + y))) (.slice A3 n3 c3)
        replace X3 := X3.put2 (.bool (bz (x + y))) (.slice A3 n3 c3)
        rw [show (w3.setCell ⟨w.heap.size + 1 + 1, 0, none⟩ (.bool (bz (x + y)))).setCell ⟨w.heap.size + 1 + 1, 1, none⟩ (.slice A3 n3 c3) = put2 w3 (w.heap.size + 1 + 1) (.bool (bz (x + y))) (.slice A3 n3 c3) from rfl]
        generalize put2 w3 (w.heap.size + 1 + 1) (.bool (bz (x + y))) (.slice A3 n3 c3) = ws4 at h h' h1 h2 h3 X1 X2 X4 X5 X3 hbws4 ⊢
        have erX3 := (show Blk2 ws4 _ _ _ _ from X3.to bW).cell
        have erX3' := (show Blk2 ws4 _ _ _ _ from X3.to bW).cell1
        exact bodyPost_ret (v := .agg #[.bool (bz (x + y)), .slice A3 n3 c3]) (by simp [results, Try.results24, go_sem, erX3, erX3']) rfl ⟨_, _, _, rfl, (show NatAt ws4 _ _ _ _ from (h3.to bW)), (show Below w.heap.size w ws4 from bW)⟩
    case true =>
      have HE := Lib.hid (show sg true (x.natAbs + y.natAbs) = x + y by have := add_same (x := x) (y := y) (hx.trans hy.symm); rwa [hx] at this)
      clear hx hy
      go_enter Try.func24, Try.ntmps24
      go_wp2_with fail
      have X1 := Blk2.newAt w (w.heap.size) 29 (.bool true) (.slice A n c) (by first | rfl | simp)
      have X2 := Blk2.newAt (w.alloc (.cells #[.bool true, .slice A n c] 29)) (w.heap.size + 1) 29 (.bool true) (.slice A' n' c') (by first | rfl | simp)
      have X3 := Blk2.newAt ((w.alloc (.cells #[.bool true, .slice A n c] 29)).alloc (.cells #[.bool true, .slice A' n' c'] 29)) (w.heap.size + 1 + 1) 29 (.bool false) (.slice none 0 0) (by first | rfl | simp)
      replace X1 := (show Blk2 (((w.alloc (.cells #[.bool true, .slice A n c] 29)).alloc (.cells #[.bool true, .slice A' n' c'] 29)).alloc (.cells #[.bool false, .slice none 0 0] 29)) _ _ _ _ from X1.to bW)
      replace X2 := (show Blk2 (((w.alloc (.cells #[.bool true, .slice A n c] 29)).alloc (.cells #[.bool true, .slice A' n' c'] 29)).alloc (.cells #[.bool false, .slice none 0 0] 29)) _ _ _ _ from X2.to bW)
      have hbwe1 : Below w.heap.size w (((w.alloc (.cells #[.bool true, .slice A n c] 29)).alloc (.cells #[.bool true, .slice A' n' c'] 29)).alloc (.cells #[.bool false, .slice none 0 0] 29)) := bW
      generalize (((w.alloc (.cells #[.bool true, .slice A n c] 29)).alloc (.cells #[.bool true, .slice A' n' c'] 29)).alloc (.cells #[.bool false, .slice none 0 0] 29)) = we1 at X1 X2 X3 hbwe1  ⊢
      have CX1 := (show Blk2 we1 _ _ _ _ from X1.to bW).cell
      have CX1' := (show Blk2 we1 _ _ _ _ from X1.to bW).cell1
      have CX2 := (show Blk2 we1 _ _ _ _ from X2.to bW).cell
      have CX2' := (show Blk2 we1 _ _ _ _ from X2.to bW).cell1
      have KP1 : ∀ w', Below we1.heap.size we1 w' → w'.cell? ⟨w.heap.size, 0, none⟩ = some (.bool true) ∧ w'.cell? ⟨w.heap.size, 1, none⟩ = some (.slice A n c) ∧ w'.cell? ⟨w.heap.size + 1, 0, none⟩ = some (.bool true) ∧ w'.cell? ⟨w.heap.size + 1, 1, none⟩ = some (.slice A' n' c') ∧ True := fun w' hw' => ⟨cellB hw' CX1, cellB hw' CX1', cellB hw' CX2, cellB hw' CX2', trivial⟩
      refine wp_regionT (S := fun w' => w'.cell? ⟨w.heap.size, 0, none⟩ = some (.bool true) ∧ w'.cell? ⟨w.heap.size, 1, none⟩ = some (.slice A n c) ∧ w'.cell? ⟨w.heap.size + 1, 0, none⟩ = some (.bool true) ∧ w'.cell? ⟨w.heap.size + 1, 1, none⟩ = some (.slice A' n' c') ∧ True) [] kR (by first | exact ⟨CSX1_1, CSX1'_1, CSX2_1, CSX2'_1, trivial⟩ | exact KP1 _ bW) (fun hHeld => ?_)
      have hbd1 : Below we1.heap.size we1 we1.drew := nxw (Below.refl _ _)
      generalize we1.drew = wd1 at hHeld hbd1 ⊢
      refine anyT_take (i := 0) (v := ?_) gO kR kR kR kR (by exact fun _ _ _ h => h) (Or.inl ⟨by rfl, ?_⟩) (by assumption) ?_
      rotate_left
      · intro w hSw; (try dsimp only at hSw); go_simp; try with_reducible rfl
      try simp only [Act.put, sX, sY, sZ]
      refine anyT_take (i := 1) (v := ?_) gO kR kR kR kR (by exact fun _ _ _ h => h) (Or.inl ⟨by rfl, ?_⟩) (by assumption) ?_
      rotate_left
      · intro w hSw; (try dsimp only at hSw); go_simp; try with_reducible rfl
      try simp only [Act.put, sX, sY, sZ]
      refine anyT_take (i := 2) (v := ?_) gO kR kR kR kR (by exact fun _ _ _ h => h) (Or.inl ⟨by rfl, ?_⟩) (by assumption) ?_
      rotate_left
      · intro w hSw; (try dsimp only at hSw); go_simp; try with_reducible rfl
      try simp only [Act.put, sX, sY, sZ]
      refine anyT_take (i := 3) (v := ?_) gO kR kR kR kR (by exact fun _ _ _ h => h) (Or.inl ⟨by rfl, ?_⟩) (by assumption) ?_
      rotate_left
      · intro w hSw; (try dsimp only at hSw); go_simp; try with_reducible rfl
      try simp only [Act.put, sX, sY, sZ]
      refine anyT_take (i := 4) (v := ?_) gO kR kR kR kR (by exact fun _ _ _ h => h) (Or.inl ⟨by rfl, ?_⟩) (by assumption) ?_
      rotate_left
      · intro w hSw; (try dsimp only at hSw); go_simp; try with_reducible rfl
      try simp only [Act.put, sX, sY, sZ]
      refine anyT_take (i := 5) (v := ?_) gO kR kR kR kR (by exact fun _ _ _ h => h) (Or.inl ⟨by rfl, ?_⟩) (by assumption) ?_
      rotate_left
      · intro w hSw; (try dsimp only at hSw); go_simp; try with_reducible rfl
      try simp only [Act.put, sX, sY, sZ]
      refine anyT_ready (rs := [6]) kR (by simp) (ReadyT.cons gO (fun K hK => ?_) ReadyT.nil)
      go_simp
      go_at_call 43
      (with_reducible refine (nat_Add _ _ _ _ _ _ _ _ _ (h.to bW) (h'.to bW) (by omega) (by omega)).mono ?_)
      rintro e w1 ⟨A1, n1, c1, rfl, h1, hb1⟩
      have q1 := h1.le_of _ (add_lt h.lt h'.lt)
      go_simp
      refine hK.out _ _ (by first | exact ⟨CSX1_1, CSX1'_1, CSX2_1, CSX2'_1, trivial⟩ | exact KP1 _ bW) (fun hHeld => ?_)
      clear hK K
      try simp only [Act.put, sX, sY, sZ]
      refine anyT_ready (rs := [7]) kR (by simp) (ReadyT.cons gO (fun K hK => ?_) ReadyT.nil)
      go_simp
      go_at_call 37
      refine (integer_New true _ _ _ (x.natAbs + y.natAbs) _ (h1.to bW)).mono ?_
      rw [HE.out]
      rintro e w2 ⟨A2, n2, c2, rfl, h2, hb2⟩
      go_simp
      refine hK.out _ _ (by first | exact ⟨CSX1_1, CSX1'_1, CSX2_1, CSX2'_1, trivial⟩ | exact KP1 _ bW) (fun hHeld => ?_)
      clear hK K
      try simp only [Act.put, sX, sY, sZ]
      refine anyT_ready (rs := [8]) kR (by simp) (ReadyT.cons gO (fun K hK => ?_) ReadyT.nil)
      have cqX3 := (show Blk2 w2 _ _ _ _ from X3.to bW).cell
      have cqX3' := (show Blk2 w2 _ _ _ _ from X3.to bW).cell1
      have fqX3 := (show Blk2 w2 _ _ _ _ from X3.to bW).free 0
      have fqX3' := (show Blk2 w2 _ _ _ _ from X3.to bW).free 1
      have CSX1_1 := (((show Blk2 w2 _ _ _ _ from X1.to bW).far (p := ⟨w.heap.size + 1 + 1, 0, none⟩) (by show w.heap.size ≠ w.heap.size + 1 + 1; omega) (.bool (bz (x + y)))).far (p := ⟨w.heap.size + 1 + 1, 1, none⟩) (by show w.heap.size ≠ w.heap.size + 1 + 1; omega) (.slice A2 n2 c2)).cell
      have CSX1'_1 := (((show Blk2 w2 _ _ _ _ from X1.to bW).far (p := ⟨w.heap.size + 1 + 1, 0, none⟩) (by show w.heap.size ≠ w.heap.size + 1 + 1; omega) (.bool (bz (x + y)))).far (p := ⟨w.heap.size + 1 + 1, 1, none⟩) (by show w.heap.size ≠ w.heap.size + 1 + 1; omega) (.slice A2 n2 c2)).cell1
      have CSX2_1 := (((show Blk2 w2 _ _ _ _ from X2.to bW).far (p := ⟨w.heap.size + 1 + 1, 0, none⟩) (by show w.heap.size + 1 ≠ w.heap.size + 1 + 1; omega) (.bool (bz (x + y)))).far (p := ⟨w.heap.size + 1 + 1, 1, none⟩) (by show w.heap.size + 1 ≠ w.heap.size + 1 + 1; omega) (.slice A2 n2 c2)).cell
      have CSX2'_1 := (((show Blk2 w2 _ _ _ _ from X2.to bW).far (p := ⟨w.heap.size + 1 + 1, 0, none⟩) (by show w.heap.size + 1 ≠ w.heap.size + 1 + 1; omega) (.bool (bz (x + y)))).far (p := ⟨w.heap.size + 1 + 1, 1, none⟩) (by show w.heap.size + 1 ≠ w.heap.size + 1 + 1; omega) (.slice A2 n2 c2)).cell1
      go_simp
      refine hK.out _ _ (by first | exact ⟨CSX1_1, CSX1'_1, CSX2_1, CSX2'_1, trivial⟩ | exact KP1 _ bW) (fun hHeld => ?_)
      clear hK K
      try simp only [Act.put, sX, sY, sZ]
      refine anyT_done kR ?_ _
      clear CSX1_1 CSX1'_1 CSX2_1 CSX2'_1
      clear hHeld cqX3 cqX3' fqX3' fqX3 CX1 CX1' CX2 CX2' KP1
      replace h := (show NatAt w2 _ _ _ _ from h.to bW)
      replace h' := (show NatAt w2 _ _ _ _ from h'.to bW)
      replace h1 := (show NatAt w2 _ _ _ _ from h1.to bW)
      replace h2 := (show NatAt w2 _ _ _ _ from h2.to bW)
      replace X1 := (show Blk2 w2 _ _ _ _ from X1.to bW)
      replace X2 := (show Blk2 w2 _ _ _ _ from X2.to bW)
      replace X3 := (show Blk2 w2 _ _ _ _ from X3.to bW)
      have hbws2 := below_put2 (show Below w.heap.size w w2 from bW) (g := w.heap.size + 1 + 1) (by show w.heap.size ≤ w.heap.size + 1 + 1; omega) (.bool (bz (x + y))) (.slice A2 n2 c2)
      replace h := h.put2 X3 (.bool (bz (x + y))) (.slice A2 n2 c2)
      replace h' := h'.put2 X3 (.bool (bz (x + y))) (.slice A2 n2 c2)
      replace h1 := h1.put2 X3 (.bool (bz (x + y))) (.slice A2 n2 c2)
      replace h2 := h2.put2 X3 (.bool (bz (x + y))) (.slice A2 n2 c2)
      replace X1 := X1.off2 (g := w.heap.size + 1 + 1) (by show w.heap.size ≠ w.heap.size + 1 + 1; omega) (.bool (bz (x + y))) (.slice A2 n2 c2)
      replace X2 := X2.off2 (g := w.heap.size + 1 + 1) (by show w.heap.size + 1 ≠ w.heap.size + 1 + 1; omega) (.bool (bz (x + y))) (.slice A2 n2 c2)
      replace X3 := X3.put2 (.bool (bz (x + y))) (.slice A2 n2 c2)
      rw [show (w2.setCell ⟨w.heap.size + 1 + 1, 0, none⟩ (.bool (bz (x + y)))).setCell ⟨w.heap.size + 1 + 1, 1, none⟩ (.slice A2 n2 c2) = put2 w2 (w.heap.size + 1 + 1) (.bool (bz (x + y))) (.slice A2 n2 c2) from rfl]
      generalize put2 w2 (w.heap.size + 1 + 1) (.bool (bz (x + y))) (.slice A2 n2 c2) = ws2 at h h' h1 h2 X1 X2 X3 hbws2 ⊢
      go_wp2_with fail
      have erX3 := (show Blk2 ws2 _ _ _ _ from X3.to bW).cell
      have erX3' := (show Blk2 ws2 _ _ _ _ from X3.to bW).cell1
      exact bodyPost_ret (v := .agg #[.bool (bz (x + y)), .slice A2 n2 c2]) (by simp [results, Try.results24, go_sem, erX3, erX3']) rfl ⟨_, _, _, rfl, (show NatAt ws2 _ _ _ _ from (h2.to bW)), (show Below w.heap.size w ws2 from bW)⟩
set_option maxHeartbeats 4000000 in
theorem integer_Mul (A : Option Addr) (n c : Nat) (x : Int) (A' : Option Addr) (n' c' : Nat) (y : Int) (w : World) (h : NatAt w A n c x.natAbs) (h' : NatAt w A' n' c' y.natAbs) (hn : n + n' ≤ 17592186044416) (hn' : n' ≤ 17592186044000) :
    Calls Try.prog 29 #[.agg #[.bool (bz x), .slice A n c], .agg #[.bool (bz y), .slice A' n' c']] w (RetInt w (x * y)) := by
  go_enter Try.func29, Try.ntmps29
  go_wp2_with fail
  have X1 := Blk2.newAt w (w.heap.size) 29 (.bool (bz x)) (.slice A n c) (by first | rfl | simp)
  have X2 := Blk2.newAt (w.alloc (.cells #[.bool (bz x), .slice A n c] 29)) (w.heap.size + 1) 29 (.bool (bz y)) (.slice A' n' c') (by first | rfl | simp)
  have X3 := Blk2.newAt ((w.alloc (.cells #[.bool (bz x), .slice A n c] 29)).alloc (.cells #[.bool (bz y), .slice A' n' c'] 29)) (w.heap.size + 1 + 1) 29 (.bool false) (.slice none 0 0) (by first | rfl | simp)
  replace X1 := (show Blk2 (((w.alloc (.cells #[.bool (bz x), .slice A n c] 29)).alloc (.cells #[.bool (bz y), .slice A' n' c'] 29)).alloc (.cells #[.bool false, .slice none 0 0] 29)) _ _ _ _ from X1.to bW)
  replace X2 := (show Blk2 (((w.alloc (.cells #[.bool (bz x), .slice A n c] 29)).alloc (.cells #[.bool (bz y), .slice A' n' c'] 29)).alloc (.cells #[.bool false, .slice none 0 0] 29)) _ _ _ _ from X2.to bW)
  have hbwe1 : Below w.heap.size w (((w.alloc (.cells #[.bool (bz x), .slice A n c] 29)).alloc (.cells #[.bool (bz y), .slice A' n' c'] 29)).alloc (.cells #[.bool false, .slice none 0 0] 29)) := bW
  generalize (((w.alloc (.cells #[.bool (bz x), .slice A n c] 29)).alloc (.cells #[.bool (bz y), .slice A' n' c'] 29)).alloc (.cells #[.bool false, .slice none 0 0] 29)) = we1 at X1 X2 X3 hbwe1  ⊢
  have CX1 := (show Blk2 we1 _ _ _ _ from X1.to bW).cell
  have CX1' := (show Blk2 we1 _ _ _ _ from X1.to bW).cell1
  have CX2 := (show Blk2 we1 _ _ _ _ from X2.to bW).cell
  have CX2' := (show Blk2 we1 _ _ _ _ from X2.to bW).cell1
  have KP1 : ∀ w', Below we1.heap.size we1 w' → w'.cell? ⟨w.heap.size, 0, none⟩ = some (.bool (bz x)) ∧ w'.cell? ⟨w.heap.size, 1, none⟩ = some (.slice A n c) ∧ w'.cell? ⟨w.heap.size + 1, 0, none⟩ = some (.bool (bz y)) ∧ w'.cell? ⟨w.heap.size + 1, 1, none⟩ = some (.slice A' n' c') ∧ True := fun w' hw' => ⟨cellB hw' CX1, cellB hw' CX1', cellB hw' CX2, cellB hw' CX2', trivial⟩
  refine wp_regionT (S := fun w' => w'.cell? ⟨w.heap.size, 0, none⟩ = some (.bool (bz x)) ∧ w'.cell? ⟨w.heap.size, 1, none⟩ = some (.slice A n c) ∧ w'.cell? ⟨w.heap.size + 1, 0, none⟩ = some (.bool (bz y)) ∧ w'.cell? ⟨w.heap.size + 1, 1, none⟩ = some (.slice A' n' c') ∧ True) [] kR (by first | exact ⟨CSX1_1, CSX1'_1, CSX2_1, CSX2'_1, trivial⟩ | exact KP1 _ bW) (fun hHeld => ?_)
  have hbd1 : Below we1.heap.size we1 we1.drew := nxw (Below.refl _ _)
  generalize we1.drew = wd1 at hHeld hbd1 ⊢
  refine anyT_take (i := 0) (v := ?_) gO kR kR kR kR (by exact fun _ _ _ h => h) (Or.inl ⟨by rfl, ?_⟩) (by assumption) ?_
  rotate_left
  · intro w hSw; (try dsimp only at hSw); go_simp; try with_reducible rfl
  try simp only [Act.put, sX, sY, sZ]
  refine anyT_take (i := 1) (v := ?_) gO kR kR kR kR (by exact fun _ _ _ h => h) (Or.inl ⟨by rfl, ?_⟩) (by assumption) ?_
  rotate_left
  · intro w hSw; (try dsimp only at hSw); go_simp; try with_reducible rfl
  try simp only [Act.put, sX, sY, sZ]
  refine anyT_take (i := 2) (v := ?_) gO kR kR kR kR (by exact fun _ _ _ h => h) (Or.inl ⟨by rfl, ?_⟩) (by assumption) ?_
  rotate_left
  · intro w hSw; (try dsimp only at hSw); go_simp; try with_reducible rfl
  try simp only [Act.put, sX, sY, sZ]
  refine anyT_take (i := 3) (v := ?_) gO kR kR kR kR (by exact fun _ _ _ h => h) (Or.inl ⟨by rfl, ?_⟩) (by assumption) ?_
  rotate_left
  · intro w hSw; (try dsimp only at hSw); go_simp; try with_reducible rfl
  try simp only [Act.put, sX, sY, sZ]
  refine anyT_take (i := 4) (v := ?_) gO kR kR kR kR (by exact fun _ _ _ h => h) (Or.inl ⟨by rfl, ?_⟩) (by assumption) ?_
  rotate_left
  · intro w hSw; (try dsimp only at hSw); go_simp; try with_reducible rfl
  try simp only [Act.put, sX, sY, sZ]
  refine anyT_take (i := 5) (v := ?_) gO kR kR kR kR (by exact fun _ _ _ h => h) (Or.inl ⟨by rfl, ?_⟩) (by assumption) ?_
  rotate_left
  · intro w hSw; (try dsimp only at hSw); go_simp; try with_reducible rfl
  try simp only [Act.put, sX, sY, sZ]
  refine anyT_take (i := 6) (v := ?_) gO kR kR kR kR (by exact fun _ _ _ h => h) (Or.inl ⟨by rfl, ?_⟩) (by assumption) ?_
  rotate_left
  · intro w hSw; (try dsimp only at hSw); go_simp; try with_reducible rfl
  try simp only [Act.put, sX, sY, sZ]
  refine anyT_take (i := 7) (v := ?_) gO kR kR kR kR (by exact fun _ _ _ h => h) (Or.inl ⟨by rfl, ?_⟩) (by assumption) ?_
  rotate_left
  · intro w hSw; (try dsimp only at hSw); go_simp; try with_reducible rfl
  try simp only [Act.put, sX, sY, sZ]
  refine anyT_take (i := 8) (v := ?_) gO kR kR kR kR (by exact fun _ _ _ h => h) (Or.inl ⟨by rfl, ?_⟩) (by assumption) ?_
  rotate_left
  · intro w hSw; (try dsimp only at hSw); go_simp; try with_reducible rfl
  try simp only [Act.put, sX, sY, sZ]
  refine anyT_ready (rs := [9]) kR (by simp) (ReadyT.cons gO (fun K hK => ?_) ReadyT.nil)
  go_simp
  go_at_call 53
  (with_reducible refine (prod_Mul _ _ _ _ _ _ _ _ _ (h.to bW) (h'.to bW) (by omega)).mono ?_)
  rintro e w1 ⟨A1, n1, c1, rfl, h1, hb1⟩
  have q1 := h1.le_of _ (mul_lt_pow h.lt h'.lt)
  go_simp
  refine hK.out _ _ (by first | exact ⟨CSX1_1, CSX1'_1, CSX2_1, CSX2'_1, trivial⟩ | exact KP1 _ bW) (fun hHeld => ?_)
  clear hK K
  try simp only [Act.put, sX, sY, sZ]
  refine anyT_ready (rs := [10]) kR (by simp) (ReadyT.cons gO (fun K hK => ?_) ReadyT.nil)
  go_simp
  go_at_call 37
  refine (integer_New ((bz x) != (bz y)) _ _ _ (x.natAbs * y.natAbs) _ (h1.to bW)).mono ?_
  rw [mul_sg]
  rintro e w2 ⟨A2, n2, c2, rfl, h2, hb2⟩
  go_simp
  refine hK.out _ _ (by first | exact ⟨CSX1_1, CSX1'_1, CSX2_1, CSX2'_1, trivial⟩ | exact KP1 _ bW) (fun hHeld => ?_)
  clear hK K
  try simp only [Act.put, sX, sY, sZ]
  refine anyT_ready (rs := [11]) kR (by simp) (ReadyT.cons gO (fun K hK => ?_) ReadyT.nil)
  have cqX3 := (show Blk2 w2 _ _ _ _ from X3.to bW).cell
  have cqX3' := (show Blk2 w2 _ _ _ _ from X3.to bW).cell1
  have fqX3 := (show Blk2 w2 _ _ _ _ from X3.to bW).free 0
  have fqX3' := (show Blk2 w2 _ _ _ _ from X3.to bW).free 1
  have CSX1_1 := (((show Blk2 w2 _ _ _ _ from X1.to bW).far (p := ⟨w.heap.size + 1 + 1, 0, none⟩) (by show w.heap.size ≠ w.heap.size + 1 + 1; omega) (.bool (bz (x * y)))).far (p := ⟨w.heap.size + 1 + 1, 1, none⟩) (by show w.heap.size ≠ w.heap.size + 1 + 1; omega) (.slice A2 n2 c2)).cell
  have CSX1'_1 := (((show Blk2 w2 _ _ _ _ from X1.to bW).far (p := ⟨w.heap.size + 1 + 1, 0, none⟩) (by show w.heap.size ≠ w.heap.size + 1 + 1; omega) (.bool (bz (x * y)))).far (p := ⟨w.heap.size + 1 + 1, 1, none⟩) (by show w.heap.size ≠ w.heap.size + 1 + 1; omega) (.slice A2 n2 c2)).cell1
  have CSX2_1 := (((show Blk2 w2 _ _ _ _ from X2.to bW).far (p := ⟨w.heap.size + 1 + 1, 0, none⟩) (by show w.heap.size + 1 ≠ w.heap.size + 1 + 1; omega) (.bool (bz (x * y)))).far (p := ⟨w.heap.size + 1 + 1, 1, none⟩) (by show w.heap.size + 1 ≠ w.heap.size + 1 + 1; omega) (.slice A2 n2 c2)).cell
  have CSX2'_1 := (((show Blk2 w2 _ _ _ _ from X2.to bW).far (p := ⟨w.heap.size + 1 + 1, 0, none⟩) (by show w.heap.size + 1 ≠ w.heap.size + 1 + 1; omega) (.bool (bz (x * y)))).far (p := ⟨w.heap.size + 1 + 1, 1, none⟩) (by show w.heap.size + 1 ≠ w.heap.size + 1 + 1; omega) (.slice A2 n2 c2)).cell1
  go_simp
  refine hK.out _ _ (by first | exact ⟨CSX1_1, CSX1'_1, CSX2_1, CSX2'_1, trivial⟩ | exact KP1 _ bW) (fun hHeld => ?_)
  clear hK K
  try simp only [Act.put, sX, sY, sZ]
  refine anyT_done kR ?_ _
  clear CSX1_1 CSX1'_1 CSX2_1 CSX2'_1
  clear hHeld cqX3 cqX3' fqX3' fqX3 CX1 CX1' CX2 CX2' KP1
  replace h := (show NatAt w2 _ _ _ _ from h.to bW)
  replace h' := (show NatAt w2 _ _ _ _ from h'.to bW)
  replace h1 := (show NatAt w2 _ _ _ _ from h1.to bW)
  replace h2 := (show NatAt w2 _ _ _ _ from h2.to bW)
  replace X1 := (show Blk2 w2 _ _ _ _ from X1.to bW)
  replace X2 := (show Blk2 w2 _ _ _ _ from X2.to bW)
  replace X3 := (show Blk2 w2 _ _ _ _ from X3.to bW)
  have hbws2 := below_put2 (show Below w.heap.size w w2 from bW) (g := w.heap.size + 1 + 1) (by show w.heap.size ≤ w.heap.size + 1 + 1; omega) (.bool (bz (x * y))) (.slice A2 n2 c2)
  replace h := h.put2 X3 (.bool (bz (x * y))) (.slice A2 n2 c2)
  replace h' := h'.put2 X3 (.bool (bz (x * y))) (.slice A2 n2 c2)
  replace h1 := h1.put2 X3 (.bool (bz (x * y))) (.slice A2 n2 c2)
  replace h2 := h2.put2 X3 (.bool (bz (x * y))) (.slice A2 n2 c2)
  replace X1 := X1.off2 (g := w.heap.size + 1 + 1) (by show w.heap.size ≠ w.heap.size + 1 + 1; omega) (.bool (bz (x * y))) (.slice A2 n2 c2)
  replace X2 := X2.off2 (g := w.heap.size + 1 + 1) (by show w.heap.size + 1 ≠ w.heap.size + 1 + 1; omega) (.bool (bz (x * y))) (.slice A2 n2 c2)
  replace X3 := X3.put2 (.bool (bz (x * y))) (.slice A2 n2 c2)
  rw [show (w2.setCell ⟨w.heap.size + 1 + 1, 0, none⟩ (.bool (bz (x * y)))).setCell ⟨w.heap.size + 1 + 1, 1, none⟩ (.slice A2 n2 c2) = put2 w2 (w.heap.size + 1 + 1) (.bool (bz (x * y))) (.slice A2 n2 c2) from rfl]
  generalize put2 w2 (w.heap.size + 1 + 1) (.bool (bz (x * y))) (.slice A2 n2 c2) = ws2 at h h' h1 h2 X1 X2 X3 hbws2 ⊢
  go_wp2_with fail
  have erX3 := (show Blk2 ws2 _ _ _ _ from X3.to bW).cell
  have erX3' := (show Blk2 ws2 _ _ _ _ from X3.to bW).cell1
  exact bodyPost_ret (v := .agg #[.bool (bz (x * y)), .slice A2 n2 c2]) (by simp [results, Try.results29, go_sem, erX3, erX3']) rfl ⟨_, _, _, rfl, (show NatAt ws2 _ _ _ _ from (h2.to bW)), (show Below w.heap.size w ws2 from bW)⟩
theorem zadd_lt {x y : Int} {n m : Nat} (hx : x.natAbs < W ^ n) (hy : y.natAbs < W ^ m) : (x + y).natAbs < W ^ (max n m + 1) := Nat.lt_of_le_of_lt (Int.natAbs_add_le _ _) (add_lt hx hy)
theorem zsub_lt {x y : Int} {n m : Nat} (hx : x.natAbs < W ^ n) (hy : y.natAbs < W ^ m) : (x - y).natAbs < W ^ (max n m + 1) := Nat.lt_of_le_of_lt (Int.natAbs_sub_le _ _) (add_lt hx hy)
theorem zmul_lt {x y : Int} {n m : Nat} (hx : x.natAbs < W ^ n) (hy : y.natAbs < W ^ m) : (x * y).natAbs < W ^ (n + m) := by rw [Int.natAbs_mul]; exact mul_lt_pow hx hy
set_option maxHeartbeats 4000000 in
theorem integer_Sub (A : Option Addr) (n c : Nat) (x : Int) (A' : Option Addr) (n' c' : Nat) (y : Int) (w : World) (h : NatAt w A n c x.natAbs) (h' : NatAt w A' n' c' y.natAbs) (hn : n ≤ 17592186044000) (hn' : n' ≤ 17592186044000) :
    Calls Try.prog 28 #[.agg #[.bool (bz x), .slice A n c], .agg #[.bool (bz y), .slice A' n' c']] w (RetInt w (x - y)) := by
  go_enter Try.func28, Try.ntmps28
  go_wp2_with fail
  have X1 := Blk2.newAt w (w.heap.size) 29 (.bool (bz x)) (.slice A n c) (by first | rfl | simp)
  have X2 := Blk2.newAt (w.alloc (.cells #[.bool (bz x), .slice A n c] 29)) (w.heap.size + 1) 29 (.bool (bz y)) (.slice A' n' c') (by first | rfl | simp)
  have X3 := Blk2.newAt ((w.alloc (.cells #[.bool (bz x), .slice A n c] 29)).alloc (.cells #[.bool (bz y), .slice A' n' c'] 29)) (w.heap.size + 1 + 1) 29 (.bool false) (.slice none 0 0) (by first | rfl | simp)
  replace X1 := (show Blk2 (((w.alloc (.cells #[.bool (bz x), .slice A n c] 29)).alloc (.cells #[.bool (bz y), .slice A' n' c'] 29)).alloc (.cells #[.bool false, .slice none 0 0] 29)) _ _ _ _ from X1.to bW)
  replace X2 := (show Blk2 (((w.alloc (.cells #[.bool (bz x), .slice A n c] 29)).alloc (.cells #[.bool (bz y), .slice A' n' c'] 29)).alloc (.cells #[.bool false, .slice none 0 0] 29)) _ _ _ _ from X2.to bW)
  have hbwe1 : Below w.heap.size w (((w.alloc (.cells #[.bool (bz x), .slice A n c] 29)).alloc (.cells #[.bool (bz y), .slice A' n' c'] 29)).alloc (.cells #[.bool false, .slice none 0 0] 29)) := bW
  generalize (((w.alloc (.cells #[.bool (bz x), .slice A n c] 29)).alloc (.cells #[.bool (bz y), .slice A' n' c'] 29)).alloc (.cells #[.bool false, .slice none 0 0] 29)) = we1 at X1 X2 X3 hbwe1  ⊢
  have CX1 := (show Blk2 we1 _ _ _ _ from X1.to bW).cell
  have CX1' := (show Blk2 we1 _ _ _ _ from X1.to bW).cell1
  have CX2 := (show Blk2 we1 _ _ _ _ from X2.to bW).cell
  have CX2' := (show Blk2 we1 _ _ _ _ from X2.to bW).cell1
  have KP1 : ∀ w', Below we1.heap.size we1 w' → w'.cell? ⟨w.heap.size, 0, none⟩ = some (.bool (bz x)) ∧ w'.cell? ⟨w.heap.size, 1, none⟩ = some (.slice A n c) ∧ w'.cell? ⟨w.heap.size + 1, 0, none⟩ = some (.bool (bz y)) ∧ w'.cell? ⟨w.heap.size + 1, 1, none⟩ = some (.slice A' n' c') ∧ True := fun w' hw' => ⟨cellB hw' CX1, cellB hw' CX1', cellB hw' CX2, cellB hw' CX2', trivial⟩
  refine wp_regionT (S := fun w' => w'.cell? ⟨w.heap.size, 0, none⟩ = some (.bool (bz x)) ∧ w'.cell? ⟨w.heap.size, 1, none⟩ = some (.slice A n c) ∧ w'.cell? ⟨w.heap.size + 1, 0, none⟩ = some (.bool (bz y)) ∧ w'.cell? ⟨w.heap.size + 1, 1, none⟩ = some (.slice A' n' c') ∧ True) [] kR (by first | exact ⟨CSX1_1, CSX1'_1, CSX2_1, CSX2'_1, trivial⟩ | exact KP1 _ bW) (fun hHeld => ?_)
  have hbd1 : Below we1.heap.size we1 we1.drew := nxw (Below.refl _ _)
  generalize we1.drew = wd1 at hHeld hbd1 ⊢
  refine anyT_take (i := 0) (v := ?_) gO kR kR kR kR (by exact fun _ _ _ h => h) (Or.inl ⟨by rfl, ?_⟩) (by assumption) ?_
  rotate_left
  · intro w hSw; (try dsimp only at hSw); go_simp; try with_reducible rfl
  try simp only [Act.put, sX, sY, sZ]
  refine anyT_take (i := 1) (v := ?_) gO kR kR kR kR (by exact fun _ _ _ h => h) (Or.inl ⟨by rfl, ?_⟩) (by assumption) ?_
  rotate_left
  · intro w hSw; (try dsimp only at hSw); go_simp; try with_reducible rfl
  try simp only [Act.put, sX, sY, sZ]
  refine anyT_ready (rs := [2]) kR (by simp) (ReadyT.cons gO (fun K hK => ?_) ReadyT.nil)
  go_simp
  go_at_call 25
  refine (integer_Neg _ _ _ y _ (h'.to bW)).mono ?_
  rintro e w1 ⟨A1, n1, c1, rfl, h1, hb1⟩
  have q1 := h1.le_of _ (show (-y).natAbs < _ by rw [Int.natAbs_neg]; exact h'.lt)
  go_simp
  refine hK.out _ _ (by first | exact ⟨CSX1_1, CSX1'_1, CSX2_1, CSX2'_1, trivial⟩ | exact KP1 _ bW) (fun hHeld => ?_)
  clear hK K
  try simp only [Act.put, sX, sY, sZ]
  refine anyT_ready (rs := [3]) kR (by simp) (ReadyT.cons gO (fun K hK => ?_) ReadyT.nil)
  go_simp
  go_at_call 24
  refine (integer_Add _ _ _ x _ _ _ (-y) _ (h.to bW) (h1.to bW) (by omega) (by omega)).mono ?_
  rw [show x + -y = x - y from (Int.sub_eq_add_neg).symm]
  rintro e w2 ⟨A2, n2, c2, rfl, h2, hb2⟩
  have q2 := h2.le_of _ (zadd_lt h.lt h1.lt)
  go_simp
  refine hK.out _ _ (by first | exact ⟨CSX1_1, CSX1'_1, CSX2_1, CSX2'_1, trivial⟩ | exact KP1 _ bW) (fun hHeld => ?_)
  clear hK K
  try simp only [Act.put, sX, sY, sZ]
  refine anyT_ready (rs := [4]) kR (by simp) (ReadyT.cons gO (fun K hK => ?_) ReadyT.nil)
  have cqX3 := (show Blk2 w2 _ _ _ _ from X3.to bW).cell
  have cqX3' := (show Blk2 w2 _ _ _ _ from X3.to bW).cell1
  have fqX3 := (show Blk2 w2 _ _ _ _ from X3.to bW).free 0
  have fqX3' := (show Blk2 w2 _ _ _ _ from X3.to bW).free 1
  have CSX1_1 := (((show Blk2 w2 _ _ _ _ from X1.to bW).far (p := ⟨w.heap.size + 1 + 1, 0, none⟩) (by show w.heap.size ≠ w.heap.size + 1 + 1; omega) (.bool (bz (x - y)))).far (p := ⟨w.heap.size + 1 + 1, 1, none⟩) (by show w.heap.size ≠ w.heap.size + 1 + 1; omega) (.slice A2 n2 c2)).cell
  have CSX1'_1 := (((show Blk2 w2 _ _ _ _ from X1.to bW).far (p := ⟨w.heap.size + 1 + 1, 0, none⟩) (by show w.heap.size ≠ w.heap.size + 1 + 1; omega) (.bool (bz (x - y)))).far (p := ⟨w.heap.size + 1 + 1, 1, none⟩) (by show w.heap.size ≠ w.heap.size + 1 + 1; omega) (.slice A2 n2 c2)).cell1
  have CSX2_1 := (((show Blk2 w2 _ _ _ _ from X2.to bW).far (p := ⟨w.heap.size + 1 + 1, 0, none⟩) (by show w.heap.size + 1 ≠ w.heap.size + 1 + 1; omega) (.bool (bz (x - y)))).far (p := ⟨w.heap.size + 1 + 1, 1, none⟩) (by show w.heap.size + 1 ≠ w.heap.size + 1 + 1; omega) (.slice A2 n2 c2)).cell
  have CSX2'_1 := (((show Blk2 w2 _ _ _ _ from X2.to bW).far (p := ⟨w.heap.size + 1 + 1, 0, none⟩) (by show w.heap.size + 1 ≠ w.heap.size + 1 + 1; omega) (.bool (bz (x - y)))).far (p := ⟨w.heap.size + 1 + 1, 1, none⟩) (by show w.heap.size + 1 ≠ w.heap.size + 1 + 1; omega) (.slice A2 n2 c2)).cell1
  go_simp
  refine hK.out _ _ (by first | exact ⟨CSX1_1, CSX1'_1, CSX2_1, CSX2'_1, trivial⟩ | exact KP1 _ bW) (fun hHeld => ?_)
  clear hK K
  try simp only [Act.put, sX, sY, sZ]
  refine anyT_done kR ?_ _
  clear CSX1_1 CSX1'_1 CSX2_1 CSX2'_1
  clear hHeld cqX3 cqX3' fqX3' fqX3 CX1 CX1' CX2 CX2' KP1
  replace h := (show NatAt w2 _ _ _ _ from h.to bW)
  replace h' := (show NatAt w2 _ _ _ _ from h'.to bW)
  replace h1 := (show NatAt w2 _ _ _ _ from h1.to bW)
  replace h2 := (show NatAt w2 _ _ _ _ from h2.to bW)
  replace X1 := (show Blk2 w2 _ _ _ _ from X1.to bW)
  replace X2 := (show Blk2 w2 _ _ _ _ from X2.to bW)
  replace X3 := (show Blk2 w2 _ _ _ _ from X3.to bW)
  have hbws2 := below_put2 (show Below w.heap.size w w2 from bW) (g := w.heap.size + 1 + 1) (by show w.heap.size ≤ w.heap.size + 1 + 1; omega) (.bool (bz (x - y))) (.slice A2 n2 c2)
  replace h := h.put2 X3 (.bool (bz (x - y))) (.slice A2 n2 c2)
  replace h' := h'.put2 X3 (.bool (bz (x - y))) (.slice A2 n2 c2)
  replace h1 := h1.put2 X3 (.bool (bz (x - y))) (.slice A2 n2 c2)
  replace h2 := h2.put2 X3 (.bool (bz (x - y))) (.slice A2 n2 c2)
  replace X1 := X1.off2 (g := w.heap.size + 1 + 1) (by show w.heap.size ≠ w.heap.size + 1 + 1; omega) (.bool (bz (x - y))) (.slice A2 n2 c2)
  replace X2 := X2.off2 (g := w.heap.size + 1 + 1) (by show w.heap.size + 1 ≠ w.heap.size + 1 + 1; omega) (.bool (bz (x - y))) (.slice A2 n2 c2)
  replace X3 := X3.put2 (.bool (bz (x - y))) (.slice A2 n2 c2)
  rw [show (w2.setCell ⟨w.heap.size + 1 + 1, 0, none⟩ (.bool (bz (x - y)))).setCell ⟨w.heap.size + 1 + 1, 1, none⟩ (.slice A2 n2 c2) = put2 w2 (w.heap.size + 1 + 1) (.bool (bz (x - y))) (.slice A2 n2 c2) from rfl]
  generalize put2 w2 (w.heap.size + 1 + 1) (.bool (bz (x - y))) (.slice A2 n2 c2) = ws2 at h h' h1 h2 X1 X2 X3 hbws2 ⊢
  go_wp2_with fail
  have erX3 := (show Blk2 ws2 _ _ _ _ from X3.to bW).cell
  have erX3' := (show Blk2 ws2 _ _ _ _ from X3.to bW).cell1
  exact bodyPost_ret (v := .agg #[.bool (bz (x - y)), .slice A2 n2 c2]) (by simp [results, Try.results28, go_sem, erX3, erX3']) rfl ⟨_, _, _, rfl, (show NatAt ws2 _ _ _ _ from (h2.to bW)), (show Below w.heap.size w ws2 from bW)⟩
end Go.Proofs.Ytihbpkljjmpkjaa
