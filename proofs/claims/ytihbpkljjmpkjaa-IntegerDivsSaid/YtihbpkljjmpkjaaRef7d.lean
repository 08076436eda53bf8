/- The walks of actuaryref07, third part: Div. -/
import Derived.Test.YtihbpkljjmpkjaaRef7c
set_option linter.unusedVariables false
set_option linter.unusedSimpArgs false
namespace Go.Proofs.Ytihbpkljjmpkjaa
open Go.RowKit
set_option maxRecDepth 100000
set_option maxHeartbeats 4000000 in
theorem ref7_Div (A : Option Addr) (n c : Nat) (x : Int) (A' : Option Addr) (n' c' : Nat) (y : Int) (w : World) (h : NumAt .i64 65536 w A n c x.natAbs) (h' : NumAt .i64 65536 w A' n' c' y.natAbs) (hn : n ≤ 900000000) (hn' : n' ≤ 900000000) (hp : 0 < y.natAbs) :
    Calls Try.prog 16 #[.agg #[.bool (bz x), .slice A n c], .agg #[.bool (bz y), .slice A' n' c']] w (RetZ2 w (dq x y) (dr x y)) := by
  cases hx : bz x
  case false =>
    cases hy : bz y
    case false =>
      have HE := Lib.hid (dq_same (hx.trans hy.symm))
      rw [hy] at HE
      have HP := Lib.hid hp
      clear hx hy hp
      go_enter Try.func16, Try.ntmps16
      go_wp2_with fail
      have X1 := Blk2.newAt w (w.heap.size) 34 (.bool false) (.slice A n c) (by first | rfl | simp)
      have X2 := Blk2.newAt (w.alloc (.cells #[.bool false, .slice A n c] 34)) (w.heap.size + 1) 34 (.bool false) (.slice A' n' c') (by first | rfl | simp)
      have X3 := Blk2.newAt ((w.alloc (.cells #[.bool false, .slice A n c] 34)).alloc (.cells #[.bool false, .slice A' n' c'] 34)) (w.heap.size + 1 + 1) 34 (.bool false) (.slice none 0 0) (by first | rfl | simp)
      have X4 := Blk2.newAt (((w.alloc (.cells #[.bool false, .slice A n c] 34)).alloc (.cells #[.bool false, .slice A' n' c'] 34)).alloc (.cells #[.bool false, .slice none 0 0] 34)) (w.heap.size + 1 + 1 + 1) 34 (.bool false) (.slice none 0 0) (by first | rfl | simp)
      replace X1 := (show Blk2 ((((w.alloc (.cells #[.bool false, .slice A n c] 34)).alloc (.cells #[.bool false, .slice A' n' c'] 34)).alloc (.cells #[.bool false, .slice none 0 0] 34)).alloc (.cells #[.bool false, .slice none 0 0] 34)) _ _ _ _ from X1.to bW)
      replace X2 := (show Blk2 ((((w.alloc (.cells #[.bool false, .slice A n c] 34)).alloc (.cells #[.bool false, .slice A' n' c'] 34)).alloc (.cells #[.bool false, .slice none 0 0] 34)).alloc (.cells #[.bool false, .slice none 0 0] 34)) _ _ _ _ from X2.to bW)
      replace X3 := (show Blk2 ((((w.alloc (.cells #[.bool false, .slice A n c] 34)).alloc (.cells #[.bool false, .slice A' n' c'] 34)).alloc (.cells #[.bool false, .slice none 0 0] 34)).alloc (.cells #[.bool false, .slice none 0 0] 34)) _ _ _ _ from X3.to bW)
      have hbwe1 : Below w.heap.size w ((((w.alloc (.cells #[.bool false, .slice A n c] 34)).alloc (.cells #[.bool false, .slice A' n' c'] 34)).alloc (.cells #[.bool false, .slice none 0 0] 34)).alloc (.cells #[.bool false, .slice none 0 0] 34)) := bW
      generalize ((((w.alloc (.cells #[.bool false, .slice A n c] 34)).alloc (.cells #[.bool false, .slice A' n' c'] 34)).alloc (.cells #[.bool false, .slice none 0 0] 34)).alloc (.cells #[.bool false, .slice none 0 0] 34)) = we1 at X1 X2 X3 X4 hbwe1  ⊢
      refine (ref4_DivMod _ _ _ _ _ _ _ _ _ (h.to bW) (h'.to bW) (by omega) (by omega) HP.out).mono ?_
      rintro e w1 ⟨A1, n1, c1, A1', n1', c1', rfl, h1, h1', hb1⟩
      have l1 := h1.le_of (by decide) _ (Nat.lt_of_le_of_lt (Nat.div_le_self _ _) h.lt)
      have l1' := h1'.le_of (by decide) _ (Nat.lt_of_le_of_lt (Nat.mod_le _ _) h.lt)
      have d1 := (show Blk2 w1 _ _ _ _ from X1.to bW).cell
      have d1' := (show Blk2 w1 _ _ _ _ from X1.to bW).cell1
      have d2 := (show Blk2 w1 _ _ _ _ from X2.to bW).cell
      have d2' := (show Blk2 w1 _ _ _ _ from X2.to bW).cell1
      go_wp2_with fail
      clear d1 d1' d2 d2'
      have CX2 := (show Blk2 w1 _ _ _ _ from X2.to bW).cell
      have CX2' := (show Blk2 w1 _ _ _ _ from X2.to bW).cell1
      have KP1 : ∀ w', Below w1.heap.size w1 w' → w'.cell? ⟨w.heap.size + 1, 0, none⟩ = some (.bool false) ∧ w'.cell? ⟨w.heap.size + 1, 1, none⟩ = some (.slice A' n' c') ∧ True := fun w' hw' => ⟨cellB hw' CX2, cellB hw' CX2', trivial⟩
      refine wp_regionT (S := fun w' => w'.cell? ⟨w.heap.size + 1, 0, none⟩ = some (.bool false) ∧ w'.cell? ⟨w.heap.size + 1, 1, none⟩ = some (.slice A' n' c') ∧ True) [] kR (by first | exact ⟨CSX2_1, CSX2'_1, trivial⟩ | exact ⟨CSX2_2, CSX2'_2, trivial⟩ | exact KP1 _ bW) (fun hHeld => ?_)
      have hbd1 : Below w1.heap.size w1 w1.drew := nxw (Below.refl _ _)
      generalize w1.drew = wd1 at hHeld hbd1 ⊢
      refine anyT_take (i := 0) (v := ?_) gO kR kR kR kR (by exact fun _ _ _ h => h) (Or.inl ⟨by rfl, ?_⟩) (by assumption) ?_
      rotate_left
      · intro w hSw; (try dsimp only at hSw); go_simp; try with_reducible rfl
      try simp only [Act.put, sX, sY, sZ]
      refine anyT_take (i := 2) (v := ?_) gO kR kR kR kR (by exact fun _ _ _ h => h) (Or.inl ⟨by rfl, ?_⟩) (by assumption) ?_
      rotate_left
      · intro w hSw; (try dsimp only at hSw); go_simp; try with_reducible rfl
      try simp only [Act.put, sX, sY, sZ]
      refine anyT_take (i := 3) (v := ?_) gO kR kR kR kR (by exact fun _ _ _ h => h) (Or.inl ⟨by rfl, ?_⟩) (by assumption) ?_
      rotate_left
      · intro w hSw; (try dsimp only at hSw); go_simp; try with_reducible rfl
      try simp only [Act.put, sX, sY, sZ]
      refine anyT_take (i := 4) (v := ?_) gO kR kR kR kR (by exact fun _ _ _ h => h) (Or.inl ⟨by rfl, ?_⟩) (by assumption) ?_
      rotate_left
      · intro w hSw; (try dsimp only at hSw); go_simp; try with_reducible rfl
      try simp only [Act.put, sX, sY, sZ]
      refine anyT_ready (rs := [1]) kR (by simp) (ReadyT.cons gO (fun K hK => ?_) ReadyT.nil)
      go_simp
      go_at_call 22
      refine (ref7_New false _ _ _ (x.natAbs / y.natAbs) _ (h1.to bW)).mono ?_
      rw [← HE.out.1]
      rintro e w2 ⟨A2, n2, c2, rfl, h2, hb2⟩
      go_simp
      refine hK.out _ _ (by first | exact ⟨CSX2_1, CSX2'_1, trivial⟩ | exact ⟨CSX2_2, CSX2'_2, trivial⟩ | exact KP1 _ bW) (fun hHeld => ?_)
      clear hK K
      try simp only [Act.put, sX, sY, sZ]
      refine anyT_ready (rs := [5]) kR (by simp) (ReadyT.cons gO (fun K hK => ?_) ReadyT.nil)
      go_simp
      go_at_call 22
      refine (ref7_New false _ _ _ (x.natAbs % y.natAbs) _ (h1'.to bW)).mono ?_
      rw [← HE.out.2]
      rintro e w3 ⟨A3, n3, c3, rfl, h3, hb3⟩
      go_simp
      refine hK.out _ _ (by first | exact ⟨CSX2_1, CSX2'_1, trivial⟩ | exact ⟨CSX2_2, CSX2'_2, trivial⟩ | exact KP1 _ bW) (fun hHeld => ?_)
      clear hK K
      try simp only [Act.put, sX, sY, sZ]
      refine anyT_ready (rs := [6]) kR (by simp) (ReadyT.cons gO (fun K hK => ?_) ReadyT.nil)
      have cqX3 := (show Blk2 w3 _ _ _ _ from X3.to bW).cell
      have cqX3' := (show Blk2 w3 _ _ _ _ from X3.to bW).cell1
      have fqX3 := (show Blk2 w3 _ _ _ _ from X3.to bW).free 0
      have fqX3' := (show Blk2 w3 _ _ _ _ from X3.to bW).free 1
      have CSX2_1 := (((show Blk2 w3 _ _ _ _ from X2.to bW).far (p := ⟨w.heap.size + 1 + 1, 0, none⟩) (by show w.heap.size + 1 ≠ w.heap.size + 1 + 1; omega) (.bool (bz (dq x y)))).far (p := ⟨w.heap.size + 1 + 1, 1, none⟩) (by show w.heap.size + 1 ≠ w.heap.size + 1 + 1; omega) (.slice A2 n2 c2)).cell
      have CSX2'_1 := (((show Blk2 w3 _ _ _ _ from X2.to bW).far (p := ⟨w.heap.size + 1 + 1, 0, none⟩) (by show w.heap.size + 1 ≠ w.heap.size + 1 + 1; omega) (.bool (bz (dq x y)))).far (p := ⟨w.heap.size + 1 + 1, 1, none⟩) (by show w.heap.size + 1 ≠ w.heap.size + 1 + 1; omega) (.slice A2 n2 c2)).cell1
      go_simp
      refine hK.out _ _ (by first | exact ⟨CSX2_1, CSX2'_1, trivial⟩ | exact ⟨CSX2_2, CSX2'_2, trivial⟩ | exact KP1 _ bW) (fun hHeld => ?_)
      clear hK K
      try simp only [Act.put, sX, sY, sZ]
      refine anyT_ready (rs := [7]) kR (by simp) (ReadyT.cons gO (fun K hK => ?_) ReadyT.nil)
      have cqX4 := (((show Blk2 w3 _ _ _ _ from X4.to bW).far (p := ⟨w.heap.size + 1 + 1, 0, none⟩) (by show w.heap.size + 1 + 1 + 1 ≠ w.heap.size + 1 + 1; omega) (.bool (bz (dq x y)))).far (p := ⟨w.heap.size + 1 + 1, 1, none⟩) (by show w.heap.size + 1 + 1 + 1 ≠ w.heap.size + 1 + 1; omega) (.slice A2 n2 c2)).cell
      have cqX4' := (((show Blk2 w3 _ _ _ _ from X4.to bW).far (p := ⟨w.heap.size + 1 + 1, 0, none⟩) (by show w.heap.size + 1 + 1 + 1 ≠ w.heap.size + 1 + 1; omega) (.bool (bz (dq x y)))).far (p := ⟨w.heap.size + 1 + 1, 1, none⟩) (by show w.heap.size + 1 + 1 + 1 ≠ w.heap.size + 1 + 1; omega) (.slice A2 n2 c2)).cell1
      have fqX4 := (((show Blk2 w3 _ _ _ _ from X4.to bW).far (p := ⟨w.heap.size + 1 + 1, 0, none⟩) (by show w.heap.size + 1 + 1 + 1 ≠ w.heap.size + 1 + 1; omega) (.bool (bz (dq x y)))).far (p := ⟨w.heap.size + 1 + 1, 1, none⟩) (by show w.heap.size + 1 + 1 + 1 ≠ w.heap.size + 1 + 1; omega) (.slice A2 n2 c2)).free 0
      have fqX4' := (((show Blk2 w3 _ _ _ _ from X4.to bW).far (p := ⟨w.heap.size + 1 + 1, 0, none⟩) (by show w.heap.size + 1 + 1 + 1 ≠ w.heap.size + 1 + 1; omega) (.bool (bz (dq x y)))).far (p := ⟨w.heap.size + 1 + 1, 1, none⟩) (by show w.heap.size + 1 + 1 + 1 ≠ w.heap.size + 1 + 1; omega) (.slice A2 n2 c2)).free 1
      have CSX2_2 := (((((show Blk2 w3 _ _ _ _ from X2.to bW).far (p := ⟨w.heap.size + 1 + 1, 0, none⟩) (by show w.heap.size + 1 ≠ w.heap.size + 1 + 1; omega) (.bool (bz (dq x y)))).far (p := ⟨w.heap.size + 1 + 1, 1, none⟩) (by show w.heap.size + 1 ≠ w.heap.size + 1 + 1; omega) (.slice A2 n2 c2)).far (p := ⟨w.heap.size + 1 + 1 + 1, 0, none⟩) (by show w.heap.size + 1 ≠ w.heap.size + 1 + 1 + 1; omega) (.bool (bz (dr x y)))).far (p := ⟨w.heap.size + 1 + 1 + 1, 1, none⟩) (by show w.heap.size + 1 ≠ w.heap.size + 1 + 1 + 1; omega) (.slice A3 n3 c3)).cell
      have CSX2'_2 := (((((show Blk2 w3 _ _ _ _ from X2.to bW).far (p := ⟨w.heap.size + 1 + 1, 0, none⟩) (by show w.heap.size + 1 ≠ w.heap.size + 1 + 1; omega) (.bool (bz (dq x y)))).far (p := ⟨w.heap.size + 1 + 1, 1, none⟩) (by show w.heap.size + 1 ≠ w.heap.size + 1 + 1; omega) (.slice A2 n2 c2)).far (p := ⟨w.heap.size + 1 + 1 + 1, 0, none⟩) (by show w.heap.size + 1 ≠ w.heap.size + 1 + 1 + 1; omega) (.bool (bz (dr x y)))).far (p := ⟨w.heap.size + 1 + 1 + 1, 1, none⟩) (by show w.heap.size + 1 ≠ w.heap.size + 1 + 1 + 1; omega) (.slice A3 n3 c3)).cell1
      go_simp
      refine hK.out _ _ (by first | exact ⟨CSX2_1, CSX2'_1, trivial⟩ | exact ⟨CSX2_2, CSX2'_2, trivial⟩ | exact KP1 _ bW) (fun hHeld => ?_)
      clear hK K
      try simp only [Act.put, sX, sY, sZ]
      refine anyT_done kR ?_ _
      clear CSX2_1 CSX2'_1 CSX2_2 CSX2'_2
      clear hHeld cqX3 cqX3' fqX3' fqX3 cqX4 cqX4' fqX4' fqX4 CX2 CX2' KP1
      replace h := (show NumAt _ _ w3 _ _ _ _ from h.to bW)
      replace h' := (show NumAt _ _ w3 _ _ _ _ from h'.to bW)
      replace h1 := (show NumAt _ _ w3 _ _ _ _ from h1.to bW)
      replace h1' := (show NumAt _ _ w3 _ _ _ _ from h1'.to bW)
      replace h2 := (show NumAt _ _ w3 _ _ _ _ from h2.to bW)
      replace h3 := (show NumAt _ _ w3 _ _ _ _ from h3.to bW)
      replace X1 := (show Blk2 w3 _ _ _ _ from X1.to bW)
      replace X2 := (show Blk2 w3 _ _ _ _ from X2.to bW)
      replace X3 := (show Blk2 w3 _ _ _ _ from X3.to bW)
      replace X4 := (show Blk2 w3 _ _ _ _ from X4.to bW)
      have hbws2 := below_put2 (show Below w.heap.size w w3 from bW) (g := w.heap.size + 1 + 1) (by show w.heap.size ≤ w.heap.size + 1 + 1; omega) (.bool (bz (dq x y))) (.slice A2 n2 c2)
      replace h := h.put2 X3 (.bool (bz (dq x y))) (.slice A2 n2 c2)
      replace h' := h'.put2 X3 (.bool (bz (dq x y))) (.slice A2 n2 c2)
      replace h1 := h1.put2 X3 (.bool (bz (dq x y))) (.slice A2 n2 c2)
      replace h1' := h1'.put2 X3 (.bool (bz (dq x y))) (.slice A2 n2 c2)
      replace h2 := h2.put2 X3 (.bool (bz (dq x y))) (.slice A2 n2 c2)
      replace h3 := h3.put2 X3 (.bool (bz (dq x y))) (.slice A2 n2 c2)
      replace X1 := X1.off2 (g := w.heap.size + 1 + 1) (by show w.heap.size ≠ w.heap.size + 1 + 1; omega) (.bool (bz (dq x y))) (.slice A2 n2 c2)
      replace X2 := X2.off2 (g := w.heap.size + 1 + 1) (by show w.heap.size + 1 ≠ w.heap.size + 1 + 1; omega) (.bool (bz (dq x y))) (.slice A2 n2 c2)
      replace X4 := X4.off2 (g := w.heap.size + 1 + 1) (by show w.heap.size + 1 + 1 + 1 ≠ w.heap.size + 1 + 1; omega) (.bool (bz (dq x y))) (.slice A2 n2 c2)
      replace X3 := X3.put2 (.bool (bz (dq x y))) (.slice A2 n2 c2)
      rw [show (w3.setCell ⟨w.heap.size + 1 + 1, 0, none⟩ (.bool (bz (dq x y)))).setCell ⟨w.heap.size + 1 + 1, 1, none⟩ (.slice A2 n2 c2) = put2 w3 (w.heap.size + 1 + 1) (.bool (bz (dq x y))) (.slice A2 n2 c2) from rfl]
      generalize put2 w3 (w.heap.size + 1 + 1) (.bool (bz (dq x y))) (.slice A2 n2 c2) = ws2 at h h' h1 h1' h2 h3 X1 X2 X4 X3 hbws2 ⊢
      replace h := (show NumAt _ _ ws2 _ _ _ _ from h.to bW)
      replace h' := (show NumAt _ _ ws2 _ _ _ _ from h'.to bW)
      replace h1 := (show NumAt _ _ ws2 _ _ _ _ from h1.to bW)
      replace h1' := (show NumAt _ _ ws2 _ _ _ _ from h1'.to bW)
      replace h2 := (show NumAt _ _ ws2 _ _ _ _ from h2.to bW)
      replace h3 := (show NumAt _ _ ws2 _ _ _ _ from h3.to bW)
      replace X1 := (show Blk2 ws2 _ _ _ _ from X1.to bW)
      replace X2 := (show Blk2 ws2 _ _ _ _ from X2.to bW)
      replace X3 := (show Blk2 ws2 _ _ _ _ from X3.to bW)
      replace X4 := (show Blk2 ws2 _ _ _ _ from X4.to bW)
      have hbws3 := below_put2 (show Below w.heap.size w ws2 from bW) (g := w.heap.size + 1 + 1 + 1) (by show w.heap.size ≤ w.heap.size + 1 + 1 + 1; omega) (.bool (bz (dr x y))) (.slice A3 n3 c3)
      replace h := h.put2 X4 (.bool (bz (dr x y))) (.slice A3 n3 c3)
      replace h' := h'.put2 X4 (.bool (bz (dr x y))) (.slice A3 n3 c3)
      replace h1 := h1.put2 X4 (.bool (bz (dr x y))) (.slice A3 n3 c3)
      replace h1' := h1'.put2 X4 (.bool (bz (dr x y))) (.slice A3 n3 c3)
      replace h2 := h2.put2 X4 (.bool (bz (dr x y))) (.slice A3 n3 c3)
      replace h3 := h3.put2 X4 (.bool (bz (dr x y))) (.slice A3 n3 c3)
      replace X1 := X1.off2 (g := w.heap.size + 1 + 1 + 1) (by show w.heap.size ≠ w.heap.size + 1 + 1 + 1; omega) (.bool (bz (dr x y))) (.slice A3 n3 c3)
      replace X2 := X2.off2 (g := w.heap.size + 1 + 1 + 1) (by show w.heap.size + 1 ≠ w.heap.size + 1 + 1 + 1; omega) (.bool (bz (dr x y))) (.slice A3 n3 c3)
      replace X3 := X3.off2 (g := w.heap.size + 1 + 1 + 1) (by show w.heap.size + 1 + 1 ≠ w.heap.size + 1 + 1 + 1; omega) (.bool (bz (dr x y))) (.slice A3 n3 c3)
      replace X4 := X4.put2 (.bool (bz (dr x y))) (.slice A3 n3 c3)
      rw [show (ws2.setCell ⟨w.heap.size + 1 + 1 + 1, 0, none⟩ (.bool (bz (dr x y)))).setCell ⟨w.heap.size + 1 + 1 + 1, 1, none⟩ (.slice A3 n3 c3) = put2 ws2 (w.heap.size + 1 + 1 + 1) (.bool (bz (dr x y))) (.slice A3 n3 c3) from rfl]
      generalize put2 ws2 (w.heap.size + 1 + 1 + 1) (.bool (bz (dr x y))) (.slice A3 n3 c3) = ws3 at h h' h1 h1' h2 h3 X1 X2 X3 X4 hbws3 ⊢
      go_wp2_with fail
      have erX3 := (show Blk2 ws3 _ _ _ _ from X3.to bW).cell
      have erX3' := (show Blk2 ws3 _ _ _ _ from X3.to bW).cell1
      have erX4 := (show Blk2 ws3 _ _ _ _ from X4.to bW).cell
      have erX4' := (show Blk2 ws3 _ _ _ _ from X4.to bW).cell1
      exact bodyPost_ret (v := .tuple #[.agg #[.bool (bz (dq x y)), .slice A2 n2 c2], .agg #[.bool (bz (dr x y)), .slice A3 n3 c3]]) (by simp [results, Try.results16, go_sem, erX3, erX3', erX4, erX4']) rfl ⟨_, _, _, _, _, _, rfl, (show NumAt _ _ ws3 _ _ _ _ from (h2.to bW)), (show NumAt _ _ ws3 _ _ _ _ from (h3.to bW)), (show Below w.heap.size w ws3 from bW)⟩
    case true =>
      by_cases hr : x.natAbs % y.natAbs = 0
      · have HE := Lib.hid (dq_even (by rw [hx, hy]; decide) hr)
        have HR := Lib.hid hr
        have HP := Lib.hid hp
        rw [HE.out.2]
        clear hx hy hr hp
        go_enter Try.func16, Try.ntmps16
        go_wp2_with fail
        have X1 := Blk2.newAt w (w.heap.size) 34 (.bool false) (.slice A n c) (by first | rfl | simp)
        have X2 := Blk2.newAt (w.alloc (.cells #[.bool false, .slice A n c] 34)) (w.heap.size + 1) 34 (.bool true) (.slice A' n' c') (by first | rfl | simp)
        have X3 := Blk2.newAt ((w.alloc (.cells #[.bool false, .slice A n c] 34)).alloc (.cells #[.bool true, .slice A' n' c'] 34)) (w.heap.size + 1 + 1) 34 (.bool false) (.slice none 0 0) (by first | rfl | simp)
        have X4 := Blk2.newAt (((w.alloc (.cells #[.bool false, .slice A n c] 34)).alloc (.cells #[.bool true, .slice A' n' c'] 34)).alloc (.cells #[.bool false, .slice none 0 0] 34)) (w.heap.size + 1 + 1 + 1) 34 (.bool false) (.slice none 0 0) (by first | rfl | simp)
        replace X1 := (show Blk2 ((((w.alloc (.cells #[.bool false, .slice A n c] 34)).alloc (.cells #[.bool true, .slice A' n' c'] 34)).alloc (.cells #[.bool false, .slice none 0 0] 34)).alloc (.cells #[.bool false, .slice none 0 0] 34)) _ _ _ _ from X1.to bW)
        replace X2 := (show Blk2 ((((w.alloc (.cells #[.bool false, .slice A n c] 34)).alloc (.cells #[.bool true, .slice A' n' c'] 34)).alloc (.cells #[.bool false, .slice none 0 0] 34)).alloc (.cells #[.bool false, .slice none 0 0] 34)) _ _ _ _ from X2.to bW)
        replace X3 := (show Blk2 ((((w.alloc (.cells #[.bool false, .slice A n c] 34)).alloc (.cells #[.bool true, .slice A' n' c'] 34)).alloc (.cells #[.bool false, .slice none 0 0] 34)).alloc (.cells #[.bool false, .slice none 0 0] 34)) _ _ _ _ from X3.to bW)
        have hbwe1 : Below w.heap.size w ((((w.alloc (.cells #[.bool false, .slice A n c] 34)).alloc (.cells #[.bool true, .slice A' n' c'] 34)).alloc (.cells #[.bool false, .slice none 0 0] 34)).alloc (.cells #[.bool false, .slice none 0 0] 34)) := bW
        generalize ((((w.alloc (.cells #[.bool false, .slice A n c] 34)).alloc (.cells #[.bool true, .slice A' n' c'] 34)).alloc (.cells #[.bool false, .slice none 0 0] 34)).alloc (.cells #[.bool false, .slice none 0 0] 34)) = we1 at X1 X2 X3 X4 hbwe1  ⊢
        refine (ref4_DivMod _ _ _ _ _ _ _ _ _ (h.to bW) (h'.to bW) (by omega) (by omega) HP.out).mono ?_
        rintro e w1 ⟨A1, n1, c1, A1', n1', c1', rfl, h1, h1', hb1⟩
        have l1 := h1.le_of (by decide) _ (Nat.lt_of_le_of_lt (Nat.div_le_self _ _) h.lt)
        have l1' := h1'.le_of (by decide) _ (Nat.lt_of_le_of_lt (Nat.mod_le _ _) h.lt)
        have zn : (((n1' : Nat) : Int) == 0) = true := by have := (h1'.zero_iff (by decide)).1 HR.out; simp; omega
        have d1 := (show Blk2 w1 _ _ _ _ from X1.to bW).cell
        have d1' := (show Blk2 w1 _ _ _ _ from X1.to bW).cell1
        have d2 := (show Blk2 w1 _ _ _ _ from X2.to bW).cell
        have d2' := (show Blk2 w1 _ _ _ _ from X2.to bW).cell1
        go_wp2_with fail
        clear d1 d1' d2 d2'
        refine (ref7_New true _ _ _ (x.natAbs / y.natAbs) _ (h1.to bW)).mono ?_
        rw [← HE.out.1]
        rintro e w2 ⟨A2, n2, c2, rfl, h2, hb2⟩
        have d3 := (show Blk2 w2 _ _ _ _ from X3.to bW).cell
        have d3' := (show Blk2 w2 _ _ _ _ from X3.to bW).cell1
        have f0d3 := (show Blk2 w2 _ _ _ _ from X3.to bW).free 0
        have f1d3 := (show Blk2 w2 _ _ _ _ from X3.to bW).free 1
        have d4 := (show Blk2 w2 _ _ _ _ from X4.to bW).cell
        have d4' := (show Blk2 w2 _ _ _ _ from X4.to bW).cell1
        have f0d4 := (show Blk2 w2 _ _ _ _ from X4.to bW).free 0
        have f1d4 := (show Blk2 w2 _ _ _ _ from X4.to bW).free 1
        go_wp2_with fail
        clear d3 d3' f0d3 f1d3 d4 d4' f0d4 f1d4
        replace h := (show NumAt _ _ w2 _ _ _ _ from h.to bW)
        replace h' := (show NumAt _ _ w2 _ _ _ _ from h'.to bW)
        replace h1 := (show NumAt _ _ w2 _ _ _ _ from h1.to bW)
        replace h1' := (show NumAt _ _ w2 _ _ _ _ from h1'.to bW)
        replace h2 := (show NumAt _ _ w2 _ _ _ _ from h2.to bW)
        replace X1 := (show Blk2 w2 _ _ _ _ from X1.to bW)
        replace X2 := (show Blk2 w2 _ _ _ _ from X2.to bW)
        replace X3 := (show Blk2 w2 _ _ _ _ from X3.to bW)
        replace X4 := (show Blk2 w2 _ _ _ _ from X4.to bW)
        have hbws2 := below_put2 (show Below w.heap.size w w2 from bW) (g := w.heap.size + 1 + 1) (by show w.heap.size ≤ w.heap.size + 1 + 1; omega) (.bool (bz (dq x y))) (.slice A2 n2 c2)
        replace h := h.put2 X3 (.bool (bz (dq x y))) (.slice A2 n2 c2)
        replace h' := h'.put2 X3 (.bool (bz (dq x y))) (.slice A2 n2 c2)
        replace h1 := h1.put2 X3 (.bool (bz (dq x y))) (.slice A2 n2 c2)
        replace h1' := h1'.put2 X3 (.bool (bz (dq x y))) (.slice A2 n2 c2)
        replace h2 := h2.put2 X3 (.bool (bz (dq x y))) (.slice A2 n2 c2)
        replace X1 := X1.off2 (g := w.heap.size + 1 + 1) (by show w.heap.size ≠ w.heap.size + 1 + 1; omega) (.bool (bz (dq x y))) (.slice A2 n2 c2)
        replace X2 := X2.off2 (g := w.heap.size + 1 + 1) (by show w.heap.size + 1 ≠ w.heap.size + 1 + 1; omega) (.bool (bz (dq x y))) (.slice A2 n2 c2)
        replace X4 := X4.off2 (g := w.heap.size + 1 + 1) (by show w.heap.size + 1 + 1 + 1 ≠ w.heap.size + 1 + 1; omega) (.bool (bz (dq x y))) (.slice A2 n2 c2)
        replace X3 := X3.put2 (.bool (bz (dq x y))) (.slice A2 n2 c2)
        rw [show (w2.setCell ⟨w.heap.size + 1 + 1, 0, none⟩ (.bool (bz (dq x y)))).setCell ⟨w.heap.size + 1 + 1, 1, none⟩ (.slice A2 n2 c2) = put2 w2 (w.heap.size + 1 + 1) (.bool (bz (dq x y))) (.slice A2 n2 c2) from rfl]
        generalize put2 w2 (w.heap.size + 1 + 1) (.bool (bz (dq x y))) (.slice A2 n2 c2) = ws2 at h h' h1 h1' h2 X1 X2 X4 X3 hbws2 ⊢
        replace h := (show NumAt _ _ ws2 _ _ _ _ from h.to bW)
        replace h' := (show NumAt _ _ ws2 _ _ _ _ from h'.to bW)
        replace h1 := (show NumAt _ _ ws2 _ _ _ _ from h1.to bW)
        replace h1' := (show NumAt _ _ ws2 _ _ _ _ from h1'.to bW)
        replace h2 := (show NumAt _ _ ws2 _ _ _ _ from h2.to bW)
        replace X1 := (show Blk2 ws2 _ _ _ _ from X1.to bW)
        replace X2 := (show Blk2 ws2 _ _ _ _ from X2.to bW)
        replace X3 := (show Blk2 ws2 _ _ _ _ from X3.to bW)
        replace X4 := (show Blk2 ws2 _ _ _ _ from X4.to bW)
        have hbws3 := below_put2 (show Below w.heap.size w ws2 from bW) (g := w.heap.size + 1 + 1 + 1) (by show w.heap.size ≤ w.heap.size + 1 + 1 + 1; omega) (.bool false) (.slice none 0 0)
        replace h := h.put2 X4 (.bool false) (.slice none 0 0)
        replace h' := h'.put2 X4 (.bool false) (.slice none 0 0)
        replace h1 := h1.put2 X4 (.bool false) (.slice none 0 0)
        replace h1' := h1'.put2 X4 (.bool false) (.slice none 0 0)
        replace h2 := h2.put2 X4 (.bool false) (.slice none 0 0)
        replace X1 := X1.off2 (g := w.heap.size + 1 + 1 + 1) (by show w.heap.size ≠ w.heap.size + 1 + 1 + 1; omega) (.bool false) (.slice none 0 0)
        replace X2 := X2.off2 (g := w.heap.size + 1 + 1 + 1) (by show w.heap.size + 1 ≠ w.heap.size + 1 + 1 + 1; omega) (.bool false) (.slice none 0 0)
        replace X3 := X3.off2 (g := w.heap.size + 1 + 1 + 1) (by show w.heap.size + 1 + 1 ≠ w.heap.size + 1 + 1 + 1; omega) (.bool false) (.slice none 0 0)
        replace X4 := X4.put2 (.bool false) (.slice none 0 0)
        rw [show (ws2.setCell ⟨w.heap.size + 1 + 1 + 1, 0, none⟩ (.bool false)).setCell ⟨w.heap.size + 1 + 1 + 1, 1, none⟩ (.slice none 0 0) = put2 ws2 (w.heap.size + 1 + 1 + 1) (.bool false) (.slice none 0 0) from rfl]
        generalize put2 ws2 (w.heap.size + 1 + 1 + 1) (.bool false) (.slice none 0 0) = ws3 at h h' h1 h1' h2 X1 X2 X3 X4 hbws3 ⊢
        have erX3 := (show Blk2 ws3 _ _ _ _ from X3.to bW).cell
        have erX3' := (show Blk2 ws3 _ _ _ _ from X3.to bW).cell1
        have erX4 := (show Blk2 ws3 _ _ _ _ from X4.to bW).cell
        have erX4' := (show Blk2 ws3 _ _ _ _ from X4.to bW).cell1
        exact bodyPost_ret (v := .tuple #[.agg #[.bool (bz (dq x y)), .slice A2 n2 c2], .agg #[.bool false, .slice none 0 0]]) (by simp [results, Try.results16, go_sem, erX3, erX3', erX4, erX4']) rfl ⟨_, _, _, _, _, _, rfl, (show NumAt _ _ ws3 _ _ _ _ from (h2.to bW)), (show NumAt _ _ ws3 _ _ _ _ from (NumAt.nil _ _ _)), (show Below w.heap.size w ws3 from bW)⟩
      · have HE := Lib.hid (dq_odd (by rw [hx, hy]; decide) hr)
        rw [hy] at HE
        have HR := Lib.hid hr
        have HM := Lib.hid (show y.natAbs = y.natAbs - x.natAbs % y.natAbs + x.natAbs % y.natAbs from (Nat.sub_add_cancel (Nat.le_of_lt (Nat.mod_lt _ hp))).symm)
        have HP := Lib.hid hp
        clear hx hy hr hp
        go_enter Try.func16, Try.ntmps16
        go_wp2_with fail
        have X1 := Blk2.newAt w (w.heap.size) 34 (.bool false) (.slice A n c) (by first | rfl | simp)
        have X2 := Blk2.newAt (w.alloc (.cells #[.bool false, .slice A n c] 34)) (w.heap.size + 1) 34 (.bool true) (.slice A' n' c') (by first | rfl | simp)
        have X3 := Blk2.newAt ((w.alloc (.cells #[.bool false, .slice A n c] 34)).alloc (.cells #[.bool true, .slice A' n' c'] 34)) (w.heap.size + 1 + 1) 34 (.bool false) (.slice none 0 0) (by first | rfl | simp)
        have X4 := Blk2.newAt (((w.alloc (.cells #[.bool false, .slice A n c] 34)).alloc (.cells #[.bool true, .slice A' n' c'] 34)).alloc (.cells #[.bool false, .slice none 0 0] 34)) (w.heap.size + 1 + 1 + 1) 34 (.bool false) (.slice none 0 0) (by first | rfl | simp)
        replace X1 := (show Blk2 ((((w.alloc (.cells #[.bool false, .slice A n c] 34)).alloc (.cells #[.bool true, .slice A' n' c'] 34)).alloc (.cells #[.bool false, .slice none 0 0] 34)).alloc (.cells #[.bool false, .slice none 0 0] 34)) _ _ _ _ from X1.to bW)
        replace X2 := (show Blk2 ((((w.alloc (.cells #[.bool false, .slice A n c] 34)).alloc (.cells #[.bool true, .slice A' n' c'] 34)).alloc (.cells #[.bool false, .slice none 0 0] 34)).alloc (.cells #[.bool false, .slice none 0 0] 34)) _ _ _ _ from X2.to bW)
        replace X3 := (show Blk2 ((((w.alloc (.cells #[.bool false, .slice A n c] 34)).alloc (.cells #[.bool true, .slice A' n' c'] 34)).alloc (.cells #[.bool false, .slice none 0 0] 34)).alloc (.cells #[.bool false, .slice none 0 0] 34)) _ _ _ _ from X3.to bW)
        have hbwe1 : Below w.heap.size w ((((w.alloc (.cells #[.bool false, .slice A n c] 34)).alloc (.cells #[.bool true, .slice A' n' c'] 34)).alloc (.cells #[.bool false, .slice none 0 0] 34)).alloc (.cells #[.bool false, .slice none 0 0] 34)) := bW
        generalize ((((w.alloc (.cells #[.bool false, .slice A n c] 34)).alloc (.cells #[.bool true, .slice A' n' c'] 34)).alloc (.cells #[.bool false, .slice none 0 0] 34)).alloc (.cells #[.bool false, .slice none 0 0] 34)) = we1 at X1 X2 X3 X4 hbwe1  ⊢
        refine (ref4_DivMod _ _ _ _ _ _ _ _ _ (h.to bW) (h'.to bW) (by omega) (by omega) HP.out).mono ?_
        rintro e w1 ⟨A1, n1, c1, A1', n1', c1', rfl, h1, h1', hb1⟩
        have l1 := h1.le_of (by decide) _ (Nat.lt_of_le_of_lt (Nat.div_le_self _ _) h.lt)
        have l1' := h1'.le_of (by decide) _ (Nat.lt_of_le_of_lt (Nat.mod_le _ _) h.lt)
        have zn : (((n1' : Nat) : Int) == 0) = false := by have h7 := HR.out; have : n1' ≠ 0 := fun e => h7 ((h1'.zero_iff (by decide)).2 e); simp; omega
        have d1 := (show Blk2 w1 _ _ _ _ from X1.to bW).cell
        have d1' := (show Blk2 w1 _ _ _ _ from X1.to bW).cell1
        have d2 := (show Blk2 w1 _ _ _ _ from X2.to bW).cell
        have d2' := (show Blk2 w1 _ _ _ _ from X2.to bW).cell1
        go_wp2_with fail
        clear d1 d1' d2 d2'
        have CX2 := (show Blk2 w1 _ _ _ _ from X2.to bW).cell
        have CX2' := (show Blk2 w1 _ _ _ _ from X2.to bW).cell1
        have KP1 : ∀ w', Below w1.heap.size w1 w' → w'.cell? ⟨w.heap.size + 1, 0, none⟩ = some (.bool true) ∧ w'.cell? ⟨w.heap.size + 1, 1, none⟩ = some (.slice A' n' c') ∧ True := fun w' hw' => ⟨cellB hw' CX2, cellB hw' CX2', trivial⟩
        refine wp_regionT (S := fun w' => w'.cell? ⟨w.heap.size + 1, 0, none⟩ = some (.bool true) ∧ w'.cell? ⟨w.heap.size + 1, 1, none⟩ = some (.slice A' n' c') ∧ True) [] kR (by first | exact ⟨CSX2_1, CSX2'_1, trivial⟩ | exact ⟨CSX2_2, CSX2'_2, trivial⟩ | exact KP1 _ bW) (fun hHeld => ?_)
        have hbd1 : Below w1.heap.size w1 w1.drew := nxw (Below.refl _ _)
        generalize w1.drew = wd1 at hHeld hbd1 ⊢
        refine anyT_take (i := 0) (v := ?_) gO kR kR kR kR (by exact fun _ _ _ h => h) (Or.inl ⟨by rfl, ?_⟩) (by assumption) ?_
        rotate_left
        · intro w hSw; (try dsimp only at hSw); go_simp; try with_reducible rfl
        try simp only [Act.put, sX, sY, sZ]
        refine anyT_take (i := 4) (v := ?_) gO kR kR kR kR (by exact fun _ _ _ h => h) (Or.inl ⟨by rfl, ?_⟩) (by assumption) ?_
        rotate_left
        · intro w hSw; (try dsimp only at hSw); go_simp; try with_reducible rfl
        try simp only [Act.put, sX, sY, sZ]
        refine anyT_take (i := 5) (v := ?_) gO kR kR kR kR (by exact fun _ _ _ h => h) (Or.inl ⟨by rfl, ?_⟩) (by assumption) ?_
        rotate_left
        · intro w hSw; (try dsimp only at hSw); go_simp; try with_reducible rfl
        try simp only [Act.put, sX, sY, sZ]
        refine anyT_take (i := 6) (v := ?_) gO kR kR kR kR (by exact fun _ _ _ h => h) (Or.inl ⟨by rfl, ?_⟩) (by assumption) ?_
        rotate_left
        · intro w hSw; (try dsimp only at hSw); go_simp; try with_reducible rfl
        try simp only [Act.put, sX, sY, sZ]
        refine anyT_take (i := 7) (v := ?_) gO kR kR kR kR (by exact fun _ _ _ h => h) (Or.inl ⟨by rfl, ?_⟩) (by assumption) ?_
        rotate_left
        · intro w hSw; (try dsimp only at hSw); go_simp; try with_reducible rfl
        try simp only [Act.put, sX, sY, sZ]
        refine anyT_take (i := 8) (v := ?_) gO kR kR kR kR (by exact fun _ _ _ h => h) (Or.inl ⟨by rfl, ?_⟩) (by assumption) ?_
        rotate_left
        · intro w hSw; (try dsimp only at hSw); go_simp; try with_reducible rfl
        try simp only [Act.put, sX, sY, sZ]
        refine anyT_ready (rs := [1]) kR (by simp) (ReadyT.cons gO (fun K hK => ?_) ReadyT.nil)
        go_simp
        have Z2 : NumAt .i64 65536 (wd1.alloc (.cells #[.int .i64 1] 3)) (some ⟨wd1.heap.size, 0, none⟩) 1 1 1 := num_one wd1 _
        have hbz2 := nxa (Below.refl wd1.heap.size wd1) (.cells #[.int .i64 1] 3)
        generalize wd1.alloc (.cells #[.int .i64 1] 3) = wz2 at Z2 hbz2 ⊢
        refine hK.out _ _ (by first | exact ⟨CSX2_1, CSX2'_1, trivial⟩ | exact ⟨CSX2_2, CSX2'_2, trivial⟩ | exact KP1 _ bW) (fun hHeld => ?_)
        clear hK K
        try simp only [Act.put, sX, sY, sZ]
        refine anyT_ready (rs := [2]) kR (by simp) (ReadyT.cons gO (fun K hK => ?_) ReadyT.nil)
        go_simp
        go_at_call 45
        (with_reducible refine (ref2_Add _ _ _ _ _ _ _ _ _ (h1.to bW) (Z2.to bW) (by omega) (by omega)).mono ?_)
        rintro e w2 ⟨A2, n2, c2, rfl, h2, hb2, hf2⟩
        go_simp
        refine hK.out _ _ (by first | exact ⟨CSX2_1, CSX2'_1, trivial⟩ | exact ⟨CSX2_2, CSX2'_2, trivial⟩ | exact KP1 _ bW) (fun hHeld => ?_)
        clear hK K
        try simp only [Act.put, sX, sY, sZ]
        refine anyT_ready (rs := [3]) kR (by simp) (ReadyT.cons gO (fun K hK => ?_) ReadyT.nil)
        go_simp
        go_at_call 22
        refine (ref7_New true _ _ _ ((x.natAbs / y.natAbs) + 1) _ (h2.to bW)).mono ?_
        rw [← HE.out.1]
        rintro e w3 ⟨A3, n3, c3, rfl, h3, hb3⟩
        go_simp
        refine hK.out _ _ (by first | exact ⟨CSX2_1, CSX2'_1, trivial⟩ | exact ⟨CSX2_2, CSX2'_2, trivial⟩ | exact KP1 _ bW) (fun hHeld => ?_)
        clear hK K
        try simp only [Act.put, sX, sY, sZ]
        refine anyT_ready (rs := [9]) kR (by simp) (ReadyT.cons gO (fun K hK => ?_) ReadyT.nil)
        go_simp
        go_at_call 46
        (with_reducible refine (ref2_Sub _ _ _ ((y.natAbs - x.natAbs % y.natAbs)) _ _ _ _ _ (show NumAt _ _ _ _ _ _ ((y.natAbs - x.natAbs % y.natAbs) + (x.natAbs % y.natAbs)) from HM.out ▸ (h'.to bW)) (h1'.to bW) (by omega)).mono ?_)
        rintro e w4 ⟨A4, n4, c4, rfl, h4, hb4, hf4⟩
        go_simp
        refine hK.out _ _ (by first | exact ⟨CSX2_1, CSX2'_1, trivial⟩ | exact ⟨CSX2_2, CSX2'_2, trivial⟩ | exact KP1 _ bW) (fun hHeld => ?_)
        clear hK K
        try simp only [Act.put, sX, sY, sZ]
        refine anyT_ready (rs := [10]) kR (by simp) (ReadyT.cons gO (fun K hK => ?_) ReadyT.nil)
        go_simp
        go_at_call 22
        refine (ref7_New true _ _ _ (y.natAbs - x.natAbs % y.natAbs) _ (h4.to bW)).mono ?_
        rw [← HE.out.2]
        rintro e w5 ⟨A5, n5, c5, rfl, h5, hb5⟩
        go_simp
        refine hK.out _ _ (by first | exact ⟨CSX2_1, CSX2'_1, trivial⟩ | exact ⟨CSX2_2, CSX2'_2, trivial⟩ | exact KP1 _ bW) (fun hHeld => ?_)
        clear hK K
        try simp only [Act.put, sX, sY, sZ]
        refine anyT_ready (rs := [11]) kR (by simp) (ReadyT.cons gO (fun K hK => ?_) ReadyT.nil)
        have cqX3 := (show Blk2 w5 _ _ _ _ from X3.to bW).cell
        have cqX3' := (show Blk2 w5 _ _ _ _ from X3.to bW).cell1
        have fqX3 := (show Blk2 w5 _ _ _ _ from X3.to bW).free 0
        have fqX3' := (show Blk2 w5 _ _ _ _ from X3.to bW).free 1
        have CSX2_1 := (((show Blk2 w5 _ _ _ _ from X2.to bW).far (p := ⟨w.heap.size + 1 + 1, 0, none⟩) (by show w.heap.size + 1 ≠ w.heap.size + 1 + 1; omega) (.bool (bz (dq x y)))).far (p := ⟨w.heap.size + 1 + 1, 1, none⟩) (by show w.heap.size + 1 ≠ w.heap.size + 1 + 1; omega) (.slice A3 n3 c3)).cell
        have CSX2'_1 := (((show Blk2 w5 _ _ _ _ from X2.to bW).far (p := ⟨w.heap.size + 1 + 1, 0, none⟩) (by show w.heap.size + 1 ≠ w.heap.size + 1 + 1; omega) (.bool (bz (dq x y)))).far (p := ⟨w.heap.size + 1 + 1, 1, none⟩) (by show w.heap.size + 1 ≠ w.heap.size + 1 + 1; omega) (.slice A3 n3 c3)).cell1
        go_simp
        refine hK.out _ _ (by first | exact ⟨CSX2_1, CSX2'_1, trivial⟩ | exact ⟨CSX2_2, CSX2'_2, trivial⟩ | exact KP1 _ bW) (fun hHeld => ?_)
        clear hK K
        try simp only [Act.put, sX, sY, sZ]
        refine anyT_ready (rs := [12]) kR (by simp) (ReadyT.cons gO (fun K hK => ?_) ReadyT.nil)
        have cqX4 := (((show Blk2 w5 _ _ _ _ from X4.to bW).far (p := ⟨w.heap.size + 1 + 1, 0, none⟩) (by show w.heap.size + 1 + 1 + 1 ≠ w.heap.size + 1 + 1; omega) (.bool (bz (dq x y)))).far (p := ⟨w.heap.size + 1 + 1, 1, none⟩) (by show w.heap.size + 1 + 1 + 1 ≠ w.heap.size + 1 + 1; omega) (.slice A3 n3 c3)).cell
        have cqX4' := (((show Blk2 w5 _ _ _ _ from X4.to bW).far (p := ⟨w.heap.size + 1 + 1, 0, none⟩) (by show w.heap.size + 1 + 1 + 1 ≠ w.heap.size + 1 + 1; omega) (.bool (bz (dq x y)))).far (p := ⟨w.heap.size + 1 + 1, 1, none⟩) (by show w.heap.size + 1 + 1 + 1 ≠ w.heap.size + 1 + 1; omega) (.slice A3 n3 c3)).cell1
        have fqX4 := (((show Blk2 w5 _ _ _ _ from X4.to bW).far (p := ⟨w.heap.size + 1 + 1, 0, none⟩) (by show w.heap.size + 1 + 1 + 1 ≠ w.heap.size + 1 + 1; omega) (.bool (bz (dq x y)))).far (p := ⟨w.heap.size + 1 + 1, 1, none⟩) (by show w.heap.size + 1 + 1 + 1 ≠ w.heap.size + 1 + 1; omega) (.slice A3 n3 c3)).free 0
        have fqX4' := (((show Blk2 w5 _ _ _ _ from X4.to bW).far (p := ⟨w.heap.size + 1 + 1, 0, none⟩) (by show w.heap.size + 1 + 1 + 1 ≠ w.heap.size + 1 + 1; omega) (.bool (bz (dq x y)))).far (p := ⟨w.heap.size + 1 + 1, 1, none⟩) (by show w.heap.size + 1 + 1 + 1 ≠ w.heap.size + 1 + 1; omega) (.slice A3 n3 c3)).free 1
        have CSX2_2 := (((((show Blk2 w5 _ _ _ _ from X2.to bW).far (p := ⟨w.heap.size + 1 + 1, 0, none⟩) (by show w.heap.size + 1 ≠ w.heap.size + 1 + 1; omega) (.bool (bz (dq x y)))).far (p := ⟨w.heap.size + 1 + 1, 1, none⟩) (by show w.heap.size + 1 ≠ w.heap.size + 1 + 1; omega) (.slice A3 n3 c3)).far (p := ⟨w.heap.size + 1 + 1 + 1, 0, none⟩) (by show w.heap.size + 1 ≠ w.heap.size + 1 + 1 + 1; omega) (.bool (bz (dr x y)))).far (p := ⟨w.heap.size + 1 + 1 + 1, 1, none⟩) (by show w.heap.size + 1 ≠ w.heap.size + 1 + 1 + 1; omega) (.slice A5 n5 c5)).cell
        have CSX2'_2 := (((((show Blk2 w5 _ _ _ _ from X2.to bW).far (p := ⟨w.heap.size + 1 + 1, 0, none⟩) (by show w.heap.size + 1 ≠ w.heap.size + 1 + 1; omega) (.bool (bz (dq x y)))).far (p := ⟨w.heap.size + 1 + 1, 1, none⟩) (by show w.heap.size + 1 ≠ w.heap.size + 1 + 1; omega) (.slice A3 n3 c3)).far (p := ⟨w.heap.size + 1 + 1 + 1, 0, none⟩) (by show w.heap.size + 1 ≠ w.heap.size + 1 + 1 + 1; omega) (.bool (bz (dr x y)))).far (p := ⟨w.heap.size + 1 + 1 + 1, 1, none⟩) (by show w.heap.size + 1 ≠ w.heap.size + 1 + 1 + 1; omega) (.slice A5 n5 c5)).cell1
        go_simp
        refine hK.out _ _ (by first | exact ⟨CSX2_1, CSX2'_1, trivial⟩ | exact ⟨CSX2_2, CSX2'_2, trivial⟩ | exact KP1 _ bW) (fun hHeld => ?_)
        clear hK K
        try simp only [Act.put, sX, sY, sZ]
        refine anyT_done kR ?_ _
        clear CSX2_1 CSX2'_1 CSX2_2 CSX2'_2
        clear hHeld cqX3 cqX3' fqX3' fqX3 cqX4 cqX4' fqX4' fqX4 CX2 CX2' KP1
        replace h := (show NumAt _ _ w5 _ _ _ _ from h.to bW)
        replace h' := (show NumAt _ _ w5 _ _ _ _ from h'.to bW)
        replace h1 := (show NumAt _ _ w5 _ _ _ _ from h1.to bW)
        replace h1' := (show NumAt _ _ w5 _ _ _ _ from h1'.to bW)
        replace Z2 := (show NumAt _ _ w5 _ _ _ _ from Z2.to bW)
        replace h2 := (show NumAt _ _ w5 _ _ _ _ from h2.to bW)
        replace h3 := (show NumAt _ _ w5 _ _ _ _ from h3.to bW)
        replace h4 := (show NumAt _ _ w5 _ _ _ _ from h4.to bW)
        replace h5 := (show NumAt _ _ w5 _ _ _ _ from h5.to bW)
        replace X1 := (show Blk2 w5 _ _ _ _ from X1.to bW)
        replace X2 := (show Blk2 w5 _ _ _ _ from X2.to bW)
        replace X3 := (show Blk2 w5 _ _ _ _ from X3.to bW)
        replace X4 := (show Blk2 w5 _ _ _ _ from X4.to bW)
        have hbws3 := below_put2 (show Below w.heap.size w w5 from bW) (g := w.heap.size + 1 + 1) (by show w.heap.size ≤ w.heap.size + 1 + 1; omega) (.bool (bz (dq x y))) (.slice A3 n3 c3)
        replace h := h.put2 X3 (.bool (bz (dq x y))) (.slice A3 n3 c3)
        replace h' := h'.put2 X3 (.bool (bz (dq x y))) (.slice A3 n3 c3)
        replace h1 := h1.put2 X3 (.bool (bz (dq x y))) (.slice A3 n3 c3)
        replace h1' := h1'.put2 X3 (.bool (bz (dq x y))) (.slice A3 n3 c3)
        replace Z2 := Z2.put2 X3 (.bool (bz (dq x y))) (.slice A3 n3 c3)
        replace h2 := h2.put2 X3 (.bool (bz (dq x y))) (.slice A3 n3 c3)
        replace h3 := h3.put2 X3 (.bool (bz (dq x y))) (.slice A3 n3 c3)
        replace h4 := h4.put2 X3 (.bool (bz (dq x y))) (.slice A3 n3 c3)
        replace h5 := h5.put2 X3 (.bool (bz (dq x y))) (.slice A3 n3 c3)
        replace X1 := X1.off2 (g := w.heap.size + 1 + 1) (by show w.heap.size ≠ w.heap.size + 1 + 1; omega) (.bool (bz (dq x y))) (.slice A3 n3 c3)
        replace X2 := X2.off2 (g := w.heap.size + 1 + 1) (by show w.heap.size + 1 ≠ w.heap.size + 1 + 1; omega) (.bool (bz (dq x y))) (.slice A3 n3 c3)
        replace X4 := X4.off2 (g := w.heap.size + 1 + 1) (by show w.heap.size + 1 + 1 + 1 ≠ w.heap.size + 1 + 1; omega) (.bool (bz (dq x y))) (.slice A3 n3 c3)
        replace X3 := X3.put2 (.bool (bz (dq x y))) (.slice A3 n3 c3)
        rw [show (w5.setCell ⟨w.heap.size + 1 + 1, 0, none⟩ (.bool (bz (dq x y)))).setCell ⟨w.heap.size + 1 + 1, 1, none⟩ (.slice A3 n3 c3) = put2 w5 (w.heap.size + 1 + 1) (.bool (bz (dq x y))) (.slice A3 n3 c3) from rfl]
        generalize put2 w5 (w.heap.size + 1 + 1) (.bool (bz (dq x y))) (.slice A3 n3 c3) = ws3 at h h' h1 h1' Z2 h2 h3 h4 h5 X1 X2 X4 X3 hbws3 ⊢
        replace h := (show NumAt _ _ ws3 _ _ _ _ from h.to bW)
        replace h' := (show NumAt _ _ ws3 _ _ _ _ from h'.to bW)
        replace h1 := (show NumAt _ _ ws3 _ _ _ _ from h1.to bW)
        replace h1' := (show NumAt _ _ ws3 _ _ _ _ from h1'.to bW)
        replace Z2 := (show NumAt _ _ ws3 _ _ _ _ from Z2.to bW)
        replace h2 := (show NumAt _ _ ws3 _ _ _ _ from h2.to bW)
        replace h3 := (show NumAt _ _ ws3 _ _ _ _ from h3.to bW)
        replace h4 := (show NumAt _ _ ws3 _ _ _ _ from h4.to bW)
        replace h5 := (show NumAt _ _ ws3 _ _ _ _ from h5.to bW)
        replace X1 := (show Blk2 ws3 _ _ _ _ from X1.to bW)
        replace X2 := (show Blk2 ws3 _ _ _ _ from X2.to bW)
        replace X3 := (show Blk2 ws3 _ _ _ _ from X3.to bW)
        replace X4 := (show Blk2 ws3 _ _ _ _ from X4.to bW)
        have hbws4 := below_put2 (show Below w.heap.size w ws3 from bW) (g := w.heap.size + 1 + 1 + 1) (by show w.heap.size ≤ w.heap.size + 1 + 1 + 1; omega) (.bool (bz (dr x y))) (.slice A5 n5 c5)
        replace h := h.put2 X4 (.bool (bz (dr x y))) (.slice A5 n5 c5)
        replace h' := h'.put2 X4 (.bool (bz (dr x y))) (.slice A5 n5 c5)
        replace h1 := h1.put2 X4 (.bool (bz (dr x y))) (.slice A5 n5 c5)
        replace h1' := h1'.put2 X4 (.bool (bz (dr x y))) (.slice A5 n5 c5)
        replace Z2 := Z2.put2 X4 (.bool (bz (dr x y))) (.slice A5 n5 c5)
        replace h2 := h2.put2 X4 (.bool (bz (dr x y))) (.slice A5 n5 c5)
        replace h3 := h3.put2 X4 (.bool (bz (dr x y))) (.slice A5 n5 c5)
        replace h4 := h4.put2 X4 (.bool (bz (dr x y))) (.slice A5 n5 c5)
        replace h5 := h5.put2 X4 (.bool (bz (dr x y))) (.slice A5 n5 c5)
        replace X1 := X1.off2 (g := w.heap.size + 1 + 1 + 1) (by show w.heap.size ≠ w.heap.size + 1 + 1 + 1; omega) (.bool (bz (dr x y))) (.slice A5 n5 c5)
        replace X2 := X2.off2 (g := w.heap.size + 1 + 1 + 1) (by show w.heap.size + 1 ≠ w.heap.size + 1 + 1 + 1; omega) (.bool (bz (dr x y))) (.slice A5 n5 c5)
        replace X3 := X3.off2 (g := w.heap.size + 1 + 1 + 1) (by show w.heap.size + 1 + 1 ≠ w.heap.size + 1 + 1 + 1; omega) (.bool (bz (dr x y))) (.slice A5 n5 c5)
        replace X4 := X4.put2 (.bool (bz (dr x y))) (.slice A5 n5 c5)
        rw [show (ws3.setCell ⟨w.heap.size + 1 + 1 + 1, 0, none⟩ (.bool (bz (dr x y)))).setCell ⟨w.heap.size + 1 + 1 + 1, 1, none⟩ (.slice A5 n5 c5) = put2 ws3 (w.heap.size + 1 + 1 + 1) (.bool (bz (dr x y))) (.slice A5 n5 c5) from rfl]
        generalize put2 ws3 (w.heap.size + 1 + 1 + 1) (.bool (bz (dr x y))) (.slice A5 n5 c5) = ws4 at h h' h1 h1' Z2 h2 h3 h4 h5 X1 X2 X3 X4 hbws4 ⊢
        go_wp2_with fail
        have erX3 := (show Blk2 ws4 _ _ _ _ from X3.to bW).cell
        have erX3' := (show Blk2 ws4 _ _ _ _ from X3.to bW).cell1
        have erX4 := (show Blk2 ws4 _ _ _ _ from X4.to bW).cell
        have erX4' := (show Blk2 ws4 _ _ _ _ from X4.to bW).cell1
        exact bodyPost_ret (v := .tuple #[.agg #[.bool (bz (dq x y)), .slice A3 n3 c3], .agg #[.bool (bz (dr x y)), .slice A5 n5 c5]]) (by simp [results, Try.results16, go_sem, erX3, erX3', erX4, erX4']) rfl ⟨_, _, _, _, _, _, rfl, (show NumAt _ _ ws4 _ _ _ _ from (h3.to bW)), (show NumAt _ _ ws4 _ _ _ _ from (h5.to bW)), (show Below w.heap.size w ws4 from bW)⟩
  case true =>
    cases hy : bz y
    case false =>
      by_cases hr : x.natAbs % y.natAbs = 0
      · have HE := Lib.hid (dq_even (by rw [hx, hy]; decide) hr)
        have HR := Lib.hid hr
        have HP := Lib.hid hp
        rw [HE.out.2]
        clear hx hy hr hp
        go_enter Try.func16, Try.ntmps16
        go_wp2_with fail
        have X1 := Blk2.newAt w (w.heap.size) 34 (.bool true) (.slice A n c) (by first | rfl | simp)
        have X2 := Blk2.newAt (w.alloc (.cells #[.bool true, .slice A n c] 34)) (w.heap.size + 1) 34 (.bool false) (.slice A' n' c') (by first | rfl | simp)
        have X3 := Blk2.newAt ((w.alloc (.cells #[.bool true, .slice A n c] 34)).alloc (.cells #[.bool false, .slice A' n' c'] 34)) (w.heap.size + 1 + 1) 34 (.bool false) (.slice none 0 0) (by first | rfl | simp)
        have X4 := Blk2.newAt (((w.alloc (.cells #[.bool true, .slice A n c] 34)).alloc (.cells #[.bool false, .slice A' n' c'] 34)).alloc (.cells #[.bool false, .slice none 0 0] 34)) (w.heap.size + 1 + 1 + 1) 34 (.bool false) (.slice none 0 0) (by first | rfl | simp)
        replace X1 := (show Blk2 ((((w.alloc (.cells #[.bool true, .slice A n c] 34)).alloc (.cells #[.bool false, .slice A' n' c'] 34)).alloc (.cells #[.bool false, .slice none 0 0] 34)).alloc (.cells #[.bool false, .slice none 0 0] 34)) _ _ _ _ from X1.to bW)
        replace X2 := (show Blk2 ((((w.alloc (.cells #[.bool true, .slice A n c] 34)).alloc (.cells #[.bool false, .slice A' n' c'] 34)).alloc (.cells #[.bool false, .slice none 0 0] 34)).alloc (.cells #[.bool false, .slice none 0 0] 34)) _ _ _ _ from X2.to bW)
        replace X3 := (show Blk2 ((((w.alloc (.cells #[.bool true, .slice A n c] 34)).alloc (.cells #[.bool false, .slice A' n' c'] 34)).alloc (.cells #[.bool false, .slice none 0 0] 34)).alloc (.cells #[.bool false, .slice none 0 0] 34)) _ _ _ _ from X3.to bW)
        have hbwe1 : Below w.heap.size w ((((w.alloc (.cells #[.bool true, .slice A n c] 34)).alloc (.cells #[.bool false, .slice A' n' c'] 34)).alloc (.cells #[.bool false, .slice none 0 0] 34)).alloc (.cells #[.bool false, .slice none 0 0] 34)) := bW
        generalize ((((w.alloc (.cells #[.bool true, .slice A n c] 34)).alloc (.cells #[.bool false, .slice A' n' c'] 34)).alloc (.cells #[.bool false, .slice none 0 0] 34)).alloc (.cells #[.bool false, .slice none 0 0] 34)) = we1 at X1 X2 X3 X4 hbwe1  ⊢
        refine (ref4_DivMod _ _ _ _ _ _ _ _ _ (h.to bW) (h'.to bW) (by omega) (by omega) HP.out).mono ?_
        rintro e w1 ⟨A1, n1, c1, A1', n1', c1', rfl, h1, h1', hb1⟩
        have l1 := h1.le_of (by decide) _ (Nat.lt_of_le_of_lt (Nat.div_le_self _ _) h.lt)
        have l1' := h1'.le_of (by decide) _ (Nat.lt_of_le_of_lt (Nat.mod_le _ _) h.lt)
        have zn : (((n1' : Nat) : Int) == 0) = true := by have := (h1'.zero_iff (by decide)).1 HR.out; simp; omega
        have d1 := (show Blk2 w1 _ _ _ _ from X1.to bW).cell
        have d1' := (show Blk2 w1 _ _ _ _ from X1.to bW).cell1
        have d2 := (show Blk2 w1 _ _ _ _ from X2.to bW).cell
        have d2' := (show Blk2 w1 _ _ _ _ from X2.to bW).cell1
        go_wp2_with fail
        clear d1 d1' d2 d2'
        refine (ref7_New true _ _ _ (x.natAbs / y.natAbs) _ (h1.to bW)).mono ?_
        rw [← HE.out.1]
        rintro e w2 ⟨A2, n2, c2, rfl, h2, hb2⟩
        have d3 := (show Blk2 w2 _ _ _ _ from X3.to bW).cell
        have d3' := (show Blk2 w2 _ _ _ _ from X3.to bW).cell1
        have f0d3 := (show Blk2 w2 _ _ _ _ from X3.to bW).free 0
        have f1d3 := (show Blk2 w2 _ _ _ _ from X3.to bW).free 1
        have d4 := (show Blk2 w2 _ _ _ _ from X4.to bW).cell
        have d4' := (show Blk2 w2 _ _ _ _ from X4.to bW).cell1
        have f0d4 := (show Blk2 w2 _ _ _ _ from X4.to bW).free 0
        have f1d4 := (show Blk2 w2 _ _ _ _ from X4.to bW).free 1
        go_wp2_with fail
        clear d3 d3' f0d3 f1d3 d4 d4' f0d4 f1d4
        replace h := (show NumAt _ _ w2 _ _ _ _ from h.to bW)
        replace h' := (show NumAt _ _ w2 _ _ _ _ from h'.to bW)
        replace h1 := (show NumAt _ _ w2 _ _ _ _ from h1.to bW)
        replace h1' := (show NumAt _ _ w2 _ _ _ _ from h1'.to bW)
        replace h2 := (show NumAt _ _ w2 _ _ _ _ from h2.to bW)
        replace X1 := (show Blk2 w2 _ _ _ _ from X1.to bW)
        replace X2 := (show Blk2 w2 _ _ _ _ from X2.to bW)
        replace X3 := (show Blk2 w2 _ _ _ _ from X3.to bW)
        replace X4 := (show Blk2 w2 _ _ _ _ from X4.to bW)
        have hbws2 := below_put2 (show Below w.heap.size w w2 from bW) (g := w.heap.size + 1 + 1) (by show w.heap.size ≤ w.heap.size + 1 + 1; omega) (.bool (bz (dq x y))) (.slice A2 n2 c2)
        replace h := h.put2 X3 (.bool (bz (dq x y))) (.slice A2 n2 c2)
        replace h' := h'.put2 X3 (.bool (bz (dq x y))) (.slice A2 n2 c2)
        replace h1 := h1.put2 X3 (.bool (bz (dq x y))) (.slice A2 n2 c2)
        replace h1' := h1'.put2 X3 (.bool (bz (dq x y))) (.slice A2 n2 c2)
        replace h2 := h2.put2 X3 (.bool (bz (dq x y))) (.slice A2 n2 c2)
        replace X1 := X1.off2 (g := w.heap.size + 1 + 1) (by show w.heap.size ≠ w.heap.size + 1 + 1; omega) (.bool (bz (dq x y))) (.slice A2 n2 c2)
        replace X2 := X2.off2 (g := w.heap.size + 1 + 1) (by show w.heap.size + 1 ≠ w.heap.size + 1 + 1; omega) (.bool (bz (dq x y))) (.slice A2 n2 c2)
        replace X4 := X4.off2 (g := w.heap.size + 1 + 1) (by show w.heap.size + 1 + 1 + 1 ≠ w.heap.size + 1 + 1; omega) (.bool (bz (dq x y))) (.slice A2 n2 c2)
        replace X3 := X3.put2 (.bool (bz (dq x y))) (.slice A2 n2 c2)
        rw [show (w2.setCell ⟨w.heap.size + 1 + 1, 0, none⟩ (.bool (bz (dq x y)))).setCell ⟨w.heap.size + 1 + 1, 1, none⟩ (.slice A2 n2 c2) = put2 w2 (w.heap.size + 1 + 1) (.bool (bz (dq x y))) (.slice A2 n2 c2) from rfl]
        generalize put2 w2 (w.heap.size + 1 + 1) (.bool (bz (dq x y))) (.slice A2 n2 c2) = ws2 at h h' h1 h1' h2 X1 X2 X4 X3 hbws2 ⊢
        replace h := (show NumAt _ _ ws2 _ _ _ _ from h.to bW)
        replace h' := (show NumAt _ _ ws2 _ _ _ _ from h'.to bW)
        replace h1 := (show NumAt _ _ ws2 _ _ _ _ from h1.to bW)
        replace h1' := (show NumAt _ _ ws2 _ _ _ _ from h1'.to bW)
        replace h2 := (show NumAt _ _ ws2 _ _ _ _ from h2.to bW)
        replace X1 := (show Blk2 ws2 _ _ _ _ from X1.to bW)
        replace X2 := (show Blk2 ws2 _ _ _ _ from X2.to bW)
        replace X3 := (show Blk2 ws2 _ _ _ _ from X3.to bW)
        replace X4 := (show Blk2 ws2 _ _ _ _ from X4.to bW)
        have hbws3 := below_put2 (show Below w.heap.size w ws2 from bW) (g := w.heap.size + 1 + 1 + 1) (by show w.heap.size ≤ w.heap.size + 1 + 1 + 1; omega) (.bool false) (.slice none 0 0)
        replace h := h.put2 X4 (.bool false) (.slice none 0 0)
        replace h' := h'.put2 X4 (.bool false) (.slice none 0 0)
        replace h1 := h1.put2 X4 (.bool false) (.slice none 0 0)
        replace h1' := h1'.put2 X4 (.bool false) (.slice none 0 0)
        replace h2 := h2.put2 X4 (.bool false) (.slice none 0 0)
        replace X1 := X1.off2 (g := w.heap.size + 1 + 1 + 1) (by show w.heap.size ≠ w.heap.size + 1 + 1 + 1; omega) (.bool false) (.slice none 0 0)
        replace X2 := X2.off2 (g := w.heap.size + 1 + 1 + 1) (by show w.heap.size + 1 ≠ w.heap.size + 1 + 1 + 1; omega) (.bool false) (.slice none 0 0)
        replace X3 := X3.off2 (g := w.heap.size + 1 + 1 + 1) (by show w.heap.size + 1 + 1 ≠ w.heap.size + 1 + 1 + 1; omega) (.bool false) (.slice none 0 0)
        replace X4 := X4.put2 (.bool false) (.slice none 0 0)
        rw [show (ws2.setCell ⟨w.heap.size + 1 + 1 + 1, 0, none⟩ (.bool false)).setCell ⟨w.heap.size + 1 + 1 + 1, 1, none⟩ (.slice none 0 0) = put2 ws2 (w.heap.size + 1 + 1 + 1) (.bool false) (.slice none 0 0) from rfl]
        generalize put2 ws2 (w.heap.size + 1 + 1 + 1) (.bool false) (.slice none 0 0) = ws3 at h h' h1 h1' h2 X1 X2 X3 X4 hbws3 ⊢
        have erX3 := (show Blk2 ws3 _ _ _ _ from X3.to bW).cell
        have erX3' := (show Blk2 ws3 _ _ _ _ from X3.to bW).cell1
        have erX4 := (show Blk2 ws3 _ _ _ _ from X4.to bW).cell
        have erX4' := (show Blk2 ws3 _ _ _ _ from X4.to bW).cell1
        exact bodyPost_ret (v := .tuple #[.agg #[.bool (bz (dq x y)), .slice A2 n2 c2], .agg #[.bool false, .slice none 0 0]]) (by simp [results, Try.results16, go_sem, erX3, erX3', erX4, erX4']) rfl ⟨_, _, _, _, _, _, rfl, (show NumAt _ _ ws3 _ _ _ _ from (h2.to bW)), (show NumAt _ _ ws3 _ _ _ _ from (NumAt.nil _ _ _)), (show Below w.heap.size w ws3 from bW)⟩
      · have HE := Lib.hid (dq_odd (by rw [hx, hy]; decide) hr)
        rw [hy] at HE
        have HR := Lib.hid hr
        have HM := Lib.hid (show y.natAbs = y.natAbs - x.natAbs % y.natAbs + x.natAbs % y.natAbs from (Nat.sub_add_cancel (Nat.le_of_lt (Nat.mod_lt _ hp))).symm)
        have HP := Lib.hid hp
        clear hx hy hr hp
        go_enter Try.func16, Try.ntmps16
        go_wp2_with fail
        have X1 := Blk2.newAt w (w.heap.size) 34 (.bool true) (.slice A n c) (by first | rfl | simp)
        have X2 := Blk2.newAt (w.alloc (.cells #[.bool true, .slice A n c] 34)) (w.heap.size + 1) 34 (.bool false) (.slice A' n' c') (by first | rfl | simp)
        have X3 := Blk2.newAt ((w.alloc (.cells #[.bool true, .slice A n c] 34)).alloc (.cells #[.bool false, .slice A' n' c'] 34)) (w.heap.size + 1 + 1) 34 (.bool false) (.slice none 0 0) (by first | rfl | simp)
        have X4 := Blk2.newAt (((w.alloc (.cells #[.bool true, .slice A n c] 34)).alloc (.cells #[.bool false, .slice A' n' c'] 34)).alloc (.cells #[.bool false, .slice none 0 0] 34)) (w.heap.size + 1 + 1 + 1) 34 (.bool false) (.slice none 0 0) (by first | rfl | simp)
        replace X1 := (show Blk2 ((((w.alloc (.cells #[.bool true, .slice A n c] 34)).alloc (.cells #[.bool false, .slice A' n' c'] 34)).alloc (.cells #[.bool false, .slice none 0 0] 34)).alloc (.cells #[.bool false, .slice none 0 0] 34)) _ _ _ _ from X1.to bW)
        replace X2 := (show Blk2 ((((w.alloc (.cells #[.bool true, .slice A n c] 34)).alloc (.cells #[.bool false, .slice A' n' c'] 34)).alloc (.cells #[.bool false, .slice none 0 0] 34)).alloc (.cells #[.bool false, .slice none 0 0] 34)) _ _ _ _ from X2.to bW)
        replace X3 := (show Blk2 ((((w.alloc (.cells #[.bool true, .slice A n c] 34)).alloc (.cells #[.bool false, .slice A' n' c'] 34)).alloc (.cells #[.bool false, .slice none 0 0] 34)).alloc (.cells #[.bool false, .slice none 0 0] 34)) _ _ _ _ from X3.to bW)
        have hbwe1 : Below w.heap.size w ((((w.alloc (.cells #[.bool true, .slice A n c] 34)).alloc (.cells #[.bool false, .slice A' n' c'] 34)).alloc (.cells #[.bool false, .slice none 0 0] 34)).alloc (.cells #[.bool false, .slice none 0 0] 34)) := bW
        generalize ((((w.alloc (.cells #[.bool true, .slice A n c] 34)).alloc (.cells #[.bool false, .slice A' n' c'] 34)).alloc (.cells #[.bool false, .slice none 0 0] 34)).alloc (.cells #[.bool false, .slice none 0 0] 34)) = we1 at X1 X2 X3 X4 hbwe1  ⊢
        refine (ref4_DivMod _ _ _ _ _ _ _ _ _ (h.to bW) (h'.to bW) (by omega) (by omega) HP.out).mono ?_
        rintro e w1 ⟨A1, n1, c1, A1', n1', c1', rfl, h1, h1', hb1⟩
        have l1 := h1.le_of (by decide) _ (Nat.lt_of_le_of_lt (Nat.div_le_self _ _) h.lt)
        have l1' := h1'.le_of (by decide) _ (Nat.lt_of_le_of_lt (Nat.mod_le _ _) h.lt)
        have zn : (((n1' : Nat) : Int) == 0) = false := by have h7 := HR.out; have : n1' ≠ 0 := fun e => h7 ((h1'.zero_iff (by decide)).2 e); simp; omega
        have d1 := (show Blk2 w1 _ _ _ _ from X1.to bW).cell
        have d1' := (show Blk2 w1 _ _ _ _ from X1.to bW).cell1
        have d2 := (show Blk2 w1 _ _ _ _ from X2.to bW).cell
        have d2' := (show Blk2 w1 _ _ _ _ from X2.to bW).cell1
        go_wp2_with fail
        clear d1 d1' d2 d2'
        have CX2 := (show Blk2 w1 _ _ _ _ from X2.to bW).cell
        have CX2' := (show Blk2 w1 _ _ _ _ from X2.to bW).cell1
        have KP1 : ∀ w', Below w1.heap.size w1 w' → w'.cell? ⟨w.heap.size + 1, 0, none⟩ = some (.bool false) ∧ w'.cell? ⟨w.heap.size + 1, 1, none⟩ = some (.slice A' n' c') ∧ True := fun w' hw' => ⟨cellB hw' CX2, cellB hw' CX2', trivial⟩
        refine wp_regionT (S := fun w' => w'.cell? ⟨w.heap.size + 1, 0, none⟩ = some (.bool false) ∧ w'.cell? ⟨w.heap.size + 1, 1, none⟩ = some (.slice A' n' c') ∧ True) [] kR (by first | exact ⟨CSX2_1, CSX2'_1, trivial⟩ | exact ⟨CSX2_2, CSX2'_2, trivial⟩ | exact KP1 _ bW) (fun hHeld => ?_)
        have hbd1 : Below w1.heap.size w1 w1.drew := nxw (Below.refl _ _)
        generalize w1.drew = wd1 at hHeld hbd1 ⊢
        refine anyT_take (i := 0) (v := ?_) gO kR kR kR kR (by exact fun _ _ _ h => h) (Or.inl ⟨by rfl, ?_⟩) (by assumption) ?_
        rotate_left
        · intro w hSw; (try dsimp only at hSw); go_simp; try with_reducible rfl
        try simp only [Act.put, sX, sY, sZ]
        refine anyT_take (i := 4) (v := ?_) gO kR kR kR kR (by exact fun _ _ _ h => h) (Or.inl ⟨by rfl, ?_⟩) (by assumption) ?_
        rotate_left
        · intro w hSw; (try dsimp only at hSw); go_simp; try with_reducible rfl
        try simp only [Act.put, sX, sY, sZ]
        refine anyT_take (i := 5) (v := ?_) gO kR kR kR kR (by exact fun _ _ _ h => h) (Or.inl ⟨by rfl, ?_⟩) (by assumption) ?_
        rotate_left
        · intro w hSw; (try dsimp only at hSw); go_simp; try with_reducible rfl
        try simp only [Act.put, sX, sY, sZ]
        refine anyT_take (i := 6) (v := ?_) gO kR kR kR kR (by exact fun _ _ _ h => h) (Or.inl ⟨by rfl, ?_⟩) (by assumption) ?_
        rotate_left
        · intro w hSw; (try dsimp only at hSw); go_simp; try with_reducible rfl
        try simp only [Act.put, sX, sY, sZ]
        refine anyT_take (i := 7) (v := ?_) gO kR kR kR kR (by exact fun _ _ _ h => h) (Or.inl ⟨by rfl, ?_⟩) (by assumption) ?_
        rotate_left
        · intro w hSw; (try dsimp only at hSw); go_simp; try with_reducible rfl
        try simp only [Act.put, sX, sY, sZ]
        refine anyT_take (i := 8) (v := ?_) gO kR kR kR kR (by exact fun _ _ _ h => h) (Or.inl ⟨by rfl, ?_⟩) (by assumption) ?_
        rotate_left
        · intro w hSw; (try dsimp only at hSw); go_simp; try with_reducible rfl
        try simp only [Act.put, sX, sY, sZ]
        refine anyT_ready (rs := [1]) kR (by simp) (ReadyT.cons gO (fun K hK => ?_) ReadyT.nil)
        go_simp
        have Z2 : NumAt .i64 65536 (wd1.alloc (.cells #[.int .i64 1] 3)) (some ⟨wd1.heap.size, 0, none⟩) 1 1 1 := num_one wd1 _
        have hbz2 := nxa (Below.refl wd1.heap.size wd1) (.cells #[.int .i64 1] 3)
        generalize wd1.alloc (.cells #[.int .i64 1] 3) = wz2 at Z2 hbz2 ⊢
        refine hK.out _ _ (by first | exact ⟨CSX2_1, CSX2'_1, trivial⟩ | exact ⟨CSX2_2, CSX2'_2, trivial⟩ | exact KP1 _ bW) (fun hHeld => ?_)
        clear hK K
        try simp only [Act.put, sX, sY, sZ]
        refine anyT_ready (rs := [2]) kR (by simp) (ReadyT.cons gO (fun K hK => ?_) ReadyT.nil)
        go_simp
        go_at_call 45
        (with_reducible refine (ref2_Add _ _ _ _ _ _ _ _ _ (h1.to bW) (Z2.to bW) (by omega) (by omega)).mono ?_)
        rintro e w2 ⟨A2, n2, c2, rfl, h2, hb2, hf2⟩
        go_simp
        refine hK.out _ _ (by first | exact ⟨CSX2_1, CSX2'_1, trivial⟩ | exact ⟨CSX2_2, CSX2'_2, trivial⟩ | exact KP1 _ bW) (fun hHeld => ?_)
        clear hK K
        try simp only [Act.put, sX, sY, sZ]
        refine anyT_ready (rs := [3]) kR (by simp) (ReadyT.cons gO (fun K hK => ?_) ReadyT.nil)
        go_simp
        go_at_call 22
        refine (ref7_New true _ _ _ ((x.natAbs / y.natAbs) + 1) _ (h2.to bW)).mono ?_
        rw [← HE.out.1]
        rintro e w3 ⟨A3, n3, c3, rfl, h3, hb3⟩
        go_simp
        refine hK.out _ _ (by first | exact ⟨CSX2_1, CSX2'_1, trivial⟩ | exact ⟨CSX2_2, CSX2'_2, trivial⟩ | exact KP1 _ bW) (fun hHeld => ?_)
        clear hK K
        try simp only [Act.put, sX, sY, sZ]
        refine anyT_ready (rs := [9]) kR (by simp) (ReadyT.cons gO (fun K hK => ?_) ReadyT.nil)
        go_simp
        go_at_call 46
        (with_reducible refine (ref2_Sub _ _ _ ((y.natAbs - x.natAbs % y.natAbs)) _ _ _ _ _ (show NumAt _ _ _ _ _ _ ((y.natAbs - x.natAbs % y.natAbs) + (x.natAbs % y.natAbs)) from HM.out ▸ (h'.to bW)) (h1'.to bW) (by omega)).mono ?_)
        rintro e w4 ⟨A4, n4, c4, rfl, h4, hb4, hf4⟩
        go_simp
        refine hK.out _ _ (by first | exact ⟨CSX2_1, CSX2'_1, trivial⟩ | exact ⟨CSX2_2, CSX2'_2, trivial⟩ | exact KP1 _ bW) (fun hHeld => ?_)
        clear hK K
        try simp only [Act.put, sX, sY, sZ]
        refine anyT_ready (rs := [10]) kR (by simp) (ReadyT.cons gO (fun K hK => ?_) ReadyT.nil)
        go_simp
        go_at_call 22
        refine (ref7_New false _ _ _ (y.natAbs - x.natAbs % y.natAbs) _ (h4.to bW)).mono ?_
        rw [← HE.out.2]
        rintro e w5 ⟨A5, n5, c5, rfl, h5, hb5⟩
        go_simp
        refine hK.out _ _ (by first | exact ⟨CSX2_1, CSX2'_1, trivial⟩ | exact ⟨CSX2_2, CSX2'_2, trivial⟩ | exact KP1 _ bW) (fun hHeld => ?_)
        clear hK K
        try simp only [Act.put, sX, sY, sZ]
        refine anyT_ready (rs := [11]) kR (by simp) (ReadyT.cons gO (fun K hK => ?_) ReadyT.nil)
        have cqX3 := (show Blk2 w5 _ _ _ _ from X3.to bW).cell
        have cqX3' := (show Blk2 w5 _ _ _ _ from X3.to bW).cell1
        have fqX3 := (show Blk2 w5 _ _ _ _ from X3.to bW).free 0
        have fqX3' := (show Blk2 w5 _ _ _ _ from X3.to bW).free 1
        have CSX2_1 := (((show Blk2 w5 _ _ _ _ from X2.to bW).far (p := ⟨w.heap.size + 1 + 1, 0, none⟩) (by show w.heap.size + 1 ≠ w.heap.size + 1 + 1; omega) (.bool (bz (dq x y)))).far (p := ⟨w.heap.size + 1 + 1, 1, none⟩) (by show w.heap.size + 1 ≠ w.heap.size + 1 + 1; omega) (.slice A3 n3 c3)).cell
        have CSX2'_1 := (((show Blk2 w5 _ _ _ _ from X2.to bW).far (p := ⟨w.heap.size + 1 + 1, 0, none⟩) (by show w.heap.size + 1 ≠ w.heap.size + 1 + 1; omega) (.bool (bz (dq x y)))).far (p := ⟨w.heap.size + 1 + 1, 1, none⟩) (by show w.heap.size + 1 ≠ w.heap.size + 1 + 1; omega) (.slice A3 n3 c3)).cell1
        go_simp
        refine hK.out _ _ (by first | exact ⟨CSX2_1, CSX2'_1, trivial⟩ | exact ⟨CSX2_2, CSX2'_2, trivial⟩ | exact KP1 _ bW) (fun hHeld => ?_)
        clear hK K
        try simp only [Act.put, sX, sY, sZ]
        refine anyT_ready (rs := [12]) kR (by simp) (ReadyT.cons gO (fun K hK => ?_) ReadyT.nil)
        have cqX4 := (((show Blk2 w5 _ _ _ _ from X4.to bW).far (p := ⟨w.heap.size + 1 + 1, 0, none⟩) (by show w.heap.size + 1 + 1 + 1 ≠ w.heap.size + 1 + 1; omega) (.bool (bz (dq x y)))).far (p := ⟨w.heap.size + 1 + 1, 1, none⟩) (by show w.heap.size + 1 + 1 + 1 ≠ w.heap.size + 1 + 1; omega) (.slice A3 n3 c3)).cell
        have cqX4' := (((show Blk2 w5 _ _ _ _ from X4.to bW).far (p := ⟨w.heap.size + 1 + 1, 0, none⟩) (by show w.heap.size + 1 + 1 + 1 ≠ w.heap.size + 1 + 1; omega) (.bool (bz (dq x y)))).far (p := ⟨w.heap.size + 1 + 1, 1, none⟩) (by show w.heap.size + 1 + 1 + 1 ≠ w.heap.size + 1 + 1; omega) (.slice A3 n3 c3)).cell1
        have fqX4 := (((show Blk2 w5 _ _ _ _ from X4.to bW).far (p := ⟨w.heap.size + 1 + 1, 0, none⟩) (by show w.heap.size + 1 + 1 + 1 ≠ w.heap.size + 1 + 1; omega) (.bool (bz (dq x y)))).far (p := ⟨w.heap.size + 1 + 1, 1, none⟩) (by show w.heap.size + 1 + 1 + 1 ≠ w.heap.size + 1 + 1; omega) (.slice A3 n3 c3)).free 0
        have fqX4' := (((show Blk2 w5 _ _ _ _ from X4.to bW).far (p := ⟨w.heap.size + 1 + 1, 0, none⟩) (by show w.heap.size + 1 + 1 + 1 ≠ w.heap.size + 1 + 1; omega) (.bool (bz (dq x y)))).far (p := ⟨w.heap.size + 1 + 1, 1, none⟩) (by show w.heap.size + 1 + 1 + 1 ≠ w.heap.size + 1 + 1; omega) (.slice A3 n3 c3)).free 1
        have CSX2_2 := (((((show Blk2 w5 _ _ _ _ from X2.to bW).far (p := ⟨w.heap.size + 1 + 1, 0, none⟩) (by show w.heap.size + 1 ≠ w.heap.size + 1 + 1; omega) (.bool (bz (dq x y)))).far (p := ⟨w.heap.size + 1 + 1, 1, none⟩) (by show w.heap.size + 1 ≠ w.heap.size + 1 + 1; omega) (.slice A3 n3 c3)).far (p := ⟨w.heap.size + 1 + 1 + 1, 0, none⟩) (by show w.heap.size + 1 ≠ w.heap.size + 1 + 1 + 1; omega) (.bool (bz (dr x y)))).far (p := ⟨w.heap.size + 1 + 1 + 1, 1, none⟩) (by show w.heap.size + 1 ≠ w.heap.size + 1 + 1 + 1; omega) (.slice A5 n5 c5)).cell
        have CSX2'_2 := (((((show Blk2 w5 _ _ _ _ from X2.to bW).far (p := ⟨w.heap.size + 1 + 1, 0, none⟩) (by show w.heap.size + 1 ≠ w.heap.size + 1 + 1; omega) (.bool (bz (dq x y)))).far (p := ⟨w.heap.size + 1 + 1, 1, none⟩) (by show w.heap.size + 1 ≠ w.heap.size + 1 + 1; omega) (.slice A3 n3 c3)).far (p := ⟨w.heap.size + 1 + 1 + 1, 0, none⟩) (by show w.heap.size + 1 ≠ w.heap.size + 1 + 1 + 1; omega) (.bool (bz (dr x y)))).far (p := ⟨w.heap.size + 1 + 1 + 1, 1, none⟩) (by show w.heap.size + 1 ≠ w.heap.size + 1 + 1 + 1; omega) (.slice A5 n5 c5)).cell1
        go_simp
        refine hK.out _ _ (by first | exact ⟨CSX2_1, CSX2'_1, trivial⟩ | exact ⟨CSX2_2, CSX2'_2, trivial⟩ | exact KP1 _ bW) (fun hHeld => ?_)
        clear hK K
        try simp only [Act.put, sX, sY, sZ]
        refine anyT_done kR ?_ _
        clear CSX2_1 CSX2'_1 CSX2_2 CSX2'_2
        clear hHeld cqX3 cqX3' fqX3' fqX3 cqX4 cqX4' fqX4' fqX4 CX2 CX2' KP1
        replace h := (show NumAt _ _ w5 _ _ _ _ from h.to bW)
        replace h' := (show NumAt _ _ w5 _ _ _ _ from h'.to bW)
        replace h1 := (show NumAt _ _ w5 _ _ _ _ from h1.to bW)
        replace h1' := (show NumAt _ _ w5 _ _ _ _ from h1'.to bW)
        replace Z2 := (show NumAt _ _ w5 _ _ _ _ from Z2.to bW)
        replace h2 := (show NumAt _ _ w5 _ _ _ _ from h2.to bW)
        replace h3 := (show NumAt _ _ w5 _ _ _ _ from h3.to bW)
        replace h4 := (show NumAt _ _ w5 _ _ _ _ from h4.to bW)
        replace h5 := (show NumAt _ _ w5 _ _ _ _ from h5.to bW)
        replace X1 := (show Blk2 w5 _ _ _ _ from X1.to bW)
        replace X2 := (show Blk2 w5 _ _ _ _ from X2.to bW)
        replace X3 := (show Blk2 w5 _ _ _ _ from X3.to bW)
        replace X4 := (show Blk2 w5 _ _ _ _ from X4.to bW)
        have hbws3 := below_put2 (show Below w.heap.size w w5 from bW) (g := w.heap.size + 1 + 1) (by show w.heap.size ≤ w.heap.size + 1 + 1; omega) (.bool (bz (dq x y))) (.slice A3 n3 c3)
        replace h := h.put2 X3 (.bool (bz (dq x y))) (.slice A3 n3 c3)
        replace h' := h'.put2 X3 (.bool (bz (dq x y))) (.slice A3 n3 c3)
        replace h1 := h1.put2 X3 (.bool (bz (dq x y))) (.slice A3 n3 c3)
        replace h1' := h1'.put2 X3 (.bool (bz (dq x y))) (.slice A3 n3 c3)
        replace Z2 := Z2.put2 X3 (.bool (bz (dq x y))) (.slice A3 n3 c3)
        replace h2 := h2.put2 X3 (.bool (bz (dq x y))) (.slice A3 n3 c3)
        replace h3 := h3.put2 X3 (.bool (bz (dq x y))) (.slice A3 n3 c3)
        replace h4 := h4.put2 X3 (.bool (bz (dq x y))) (.slice A3 n3 c3)
        replace h5 := h5.put2 X3 (.bool (bz (dq x y))) (.slice A3 n3 c3)
        replace X1 := X1.off2 (g := w.heap.size + 1 + 1) (by show w.heap.size ≠ w.heap.size + 1 + 1; omega) (.bool (bz (dq x y))) (.slice A3 n3 c3)
        replace X2 := X2.off2 (g := w.heap.size + 1 + 1) (by show w.heap.size + 1 ≠ w.heap.size + 1 + 1; omega) (.bool (bz (dq x y))) (.slice A3 n3 c3)
        replace X4 := X4.off2 (g := w.heap.size + 1 + 1) (by show w.heap.size + 1 + 1 + 1 ≠ w.heap.size + 1 + 1; omega) (.bool (bz (dq x y))) (.slice A3 n3 c3)
        replace X3 := X3.put2 (.bool (bz (dq x y))) (.slice A3 n3 c3)
        rw [show (w5.setCell ⟨w.heap.size + 1 + 1, 0, none⟩ (.bool (bz (dq x y)))).setCell ⟨w.heap.size + 1 + 1, 1, none⟩ (.slice A3 n3 c3) = put2 w5 (w.heap.size + 1 + 1) (.bool (bz (dq x y))) (.slice A3 n3 c3) from rfl]
        generalize put2 w5 (w.heap.size + 1 + 1) (.bool (bz (dq x y))) (.slice A3 n3 c3) = ws3 at h h' h1 h1' Z2 h2 h3 h4 h5 X1 X2 X4 X3 hbws3 ⊢
        replace h := (show NumAt _ _ ws3 _ _ _ _ from h.to bW)
        replace h' := (show NumAt _ _ ws3 _ _ _ _ from h'.to bW)
        replace h1 := (show NumAt _ _ ws3 _ _ _ _ from h1.to bW)
        replace h1' := (show NumAt _ _ ws3 _ _ _ _ from h1'.to bW)
        replace Z2 := (show NumAt _ _ ws3 _ _ _ _ from Z2.to bW)
        replace h2 := (show NumAt _ _ ws3 _ _ _ _ from h2.to bW)
        replace h3 := (show NumAt _ _ ws3 _ _ _ _ from h3.to bW)
        replace h4 := (show NumAt _ _ ws3 _ _ _ _ from h4.to bW)
        replace h5 := (show NumAt _ _ ws3 _ _ _ _ from h5.to bW)
        replace X1 := (show Blk2 ws3 _ _ _ _ from X1.to bW)
        replace X2 := (show Blk2 ws3 _ _ _ _ from X2.to bW)
        replace X3 := (show Blk2 ws3 _ _ _ _ from X3.to bW)
        replace X4 := (show Blk2 ws3 _ _ _ _ from X4.to bW)
        have hbws4 := below_put2 (show Below w.heap.size w ws3 from bW) (g := w.heap.size + 1 + 1 + 1) (by show w.heap.size ≤ w.heap.size + 1 + 1 + 1; omega) (.bool (bz (dr x y))) (.slice A5 n5 c5)
        replace h := h.put2 X4 (.bool (bz (dr x y))) (.slice A5 n5 c5)
        replace h' := h'.put2 X4 (.bool (bz (dr x y))) (.slice A5 n5 c5)
        replace h1 := h1.put2 X4 (.bool (bz (dr x y))) (.slice A5 n5 c5)
        replace h1' := h1'.put2 X4 (.bool (bz (dr x y))) (.slice A5 n5 c5)
        replace Z2 := Z2.put2 X4 (.bool (bz (dr x y))) (.slice A5 n5 c5)
        replace h2 := h2.put2 X4 (.bool (bz (dr x y))) (.slice A5 n5 c5)
        replace h3 := h3.put2 X4 (.bool (bz (dr x y))) (.slice A5 n5 c5)
        replace h4 := h4.put2 X4 (.bool (bz (dr x y))) (.slice A5 n5 c5)
        replace h5 := h5.put2 X4 (.bool (bz (dr x y))) (.slice A5 n5 c5)
        replace X1 := X1.off2 (g := w.heap.size + 1 + 1 + 1) (by show w.heap.size ≠ w.heap.size + 1 + 1 + 1; omega) (.bool (bz (dr x y))) (.slice A5 n5 c5)
        replace X2 := X2.off2 (g := w.heap.size + 1 + 1 + 1) (by show w.heap.size + 1 ≠ w.heap.size + 1 + 1 + 1; omega) (.bool (bz (dr x y))) (.slice A5 n5 c5)
        replace X3 := X3.off2 (g := w.heap.size + 1 + 1 + 1) (by show w.heap.size + 1 + 1 ≠ w.heap.size + 1 + 1 + 1; omega) (.bool (bz (dr x y))) (.slice A5 n5 c5)
        replace X4 := X4.put2 (.bool (bz (dr x y))) (.slice A5 n5 c5)
        rw [show (ws3.setCell ⟨w.heap.size + 1 + 1 + 1, 0, none⟩ (.bool (bz (dr x y)))).setCell ⟨w.heap.size + 1 + 1 + 1, 1, none⟩ (.slice A5 n5 c5) = put2 ws3 (w.heap.size + 1 + 1 + 1) (.bool (bz (dr x y))) (.slice A5 n5 c5) from rfl]
        generalize put2 ws3 (w.heap.size + 1 + 1 + 1) (.bool (bz (dr x y))) (.slice A5 n5 c5) = ws4 at h h' h1 h1' Z2 h2 h3 h4 h5 X1 X2 X3 X4 hbws4 ⊢
        go_wp2_with fail
        have erX3 := (show Blk2 ws4 _ _ _ _ from X3.to bW).cell
        have erX3' := (show Blk2 ws4 _ _ _ _ from X3.to bW).cell1
        have erX4 := (show Blk2 ws4 _ _ _ _ from X4.to bW).cell
        have erX4' := (show Blk2 ws4 _ _ _ _ from X4.to bW).cell1
        exact bodyPost_ret (v := .tuple #[.agg #[.bool (bz (dq x y)), .slice A3 n3 c3], .agg #[.bool (bz (dr x y)), .slice A5 n5 c5]]) (by simp [results, Try.results16, go_sem, erX3, erX3', erX4, erX4']) rfl ⟨_, _, _, _, _, _, rfl, (show NumAt _ _ ws4 _ _ _ _ from (h3.to bW)), (show NumAt _ _ ws4 _ _ _ _ from (h5.to bW)), (show Below w.heap.size w ws4 from bW)⟩
    case true =>
      have HE := Lib.hid (dq_same (hx.trans hy.symm))
      rw [hy] at HE
      have HP := Lib.hid hp
      clear hx hy hp
      go_enter Try.func16, Try.ntmps16
      go_wp2_with fail
      have X1 := Blk2.newAt w (w.heap.size) 34 (.bool true) (.slice A n c) (by first | rfl | simp)
      have X2 := Blk2.newAt (w.alloc (.cells #[.bool true, .slice A n c] 34)) (w.heap.size + 1) 34 (.bool true) (.slice A' n' c') (by first | rfl | simp)
      have X3 := Blk2.newAt ((w.alloc (.cells #[.bool true, .slice A n c] 34)).alloc (.cells #[.bool true, .slice A' n' c'] 34)) (w.heap.size + 1 + 1) 34 (.bool false) (.slice none 0 0) (by first | rfl | simp)
      have X4 := Blk2.newAt (((w.alloc (.cells #[.bool true, .slice A n c] 34)).alloc (.cells #[.bool true, .slice A' n' c'] 34)).alloc (.cells #[.bool false, .slice none 0 0] 34)) (w.heap.size + 1 + 1 + 1) 34 (.bool false) (.slice none 0 0) (by first | rfl | simp)
      replace X1 := (show Blk2 ((((w.alloc (.cells #[.bool true, .slice A n c] 34)).alloc (.cells #[.bool true, .slice A' n' c'] 34)).alloc (.cells #[.bool false, .slice none 0 0] 34)).alloc (.cells #[.bool false, .slice none 0 0] 34)) _ _ _ _ from X1.to bW)
      replace X2 := (show Blk2 ((((w.alloc (.cells #[.bool true, .slice A n c] 34)).alloc (.cells #[.bool true, .slice A' n' c'] 34)).alloc (.cells #[.bool false, .slice none 0 0] 34)).alloc (.cells #[.bool false, .slice none 0 0] 34)) _ _ _ _ from X2.to bW)
      replace X3 := (show Blk2 ((((w.alloc (.cells #[.bool true, .slice A n c] 34)).alloc (.cells #[.bool true, .slice A' n' c'] 34)).alloc (.cells #[.bool false, .slice none 0 0] 34)).alloc (.cells #[.bool false, .slice none 0 0] 34)) _ _ _ _ from X3.to bW)
      have hbwe1 : Below w.heap.size w ((((w.alloc (.cells #[.bool true, .slice A n c] 34)).alloc (.cells #[.bool true, .slice A' n' c'] 34)).alloc (.cells #[.bool false, .slice none 0 0] 34)).alloc (.cells #[.bool false, .slice none 0 0] 34)) := bW
      generalize ((((w.alloc (.cells #[.bool true, .slice A n c] 34)).alloc (.cells #[.bool true, .slice A' n' c'] 34)).alloc (.cells #[.bool false, .slice none 0 0] 34)).alloc (.cells #[.bool false, .slice none 0 0] 34)) = we1 at X1 X2 X3 X4 hbwe1  ⊢
      refine (ref4_DivMod _ _ _ _ _ _ _ _ _ (h.to bW) (h'.to bW) (by omega) (by omega) HP.out).mono ?_
      rintro e w1 ⟨A1, n1, c1, A1', n1', c1', rfl, h1, h1', hb1⟩
      have l1 := h1.le_of (by decide) _ (Nat.lt_of_le_of_lt (Nat.div_le_self _ _) h.lt)
      have l1' := h1'.le_of (by decide) _ (Nat.lt_of_le_of_lt (Nat.mod_le _ _) h.lt)
      have d1 := (show Blk2 w1 _ _ _ _ from X1.to bW).cell
      have d1' := (show Blk2 w1 _ _ _ _ from X1.to bW).cell1
      have d2 := (show Blk2 w1 _ _ _ _ from X2.to bW).cell
      have d2' := (show Blk2 w1 _ _ _ _ from X2.to bW).cell1
      go_wp2_with fail
      clear d1 d1' d2 d2'
      have CX2 := (show Blk2 w1 _ _ _ _ from X2.to bW).cell
      have CX2' := (show Blk2 w1 _ _ _ _ from X2.to bW).cell1
      have KP1 : ∀ w', Below w1.heap.size w1 w' → w'.cell? ⟨w.heap.size + 1, 0, none⟩ = some (.bool true) ∧ w'.cell? ⟨w.heap.size + 1, 1, none⟩ = some (.slice A' n' c') ∧ True := fun w' hw' => ⟨cellB hw' CX2, cellB hw' CX2', trivial⟩
      refine wp_regionT (S := fun w' => w'.cell? ⟨w.heap.size + 1, 0, none⟩ = some (.bool true) ∧ w'.cell? ⟨w.heap.size + 1, 1, none⟩ = some (.slice A' n' c') ∧ True) [] kR (by first | exact ⟨CSX2_1, CSX2'_1, trivial⟩ | exact ⟨CSX2_2, CSX2'_2, trivial⟩ | exact KP1 _ bW) (fun hHeld => ?_)
      have hbd1 : Below w1.heap.size w1 w1.drew := nxw (Below.refl _ _)
      generalize w1.drew = wd1 at hHeld hbd1 ⊢
      refine anyT_take (i := 0) (v := ?_) gO kR kR kR kR (by exact fun _ _ _ h => h) (Or.inl ⟨by rfl, ?_⟩) (by assumption) ?_
      rotate_left
      · intro w hSw; (try dsimp only at hSw); go_simp; try with_reducible rfl
      try simp only [Act.put, sX, sY, sZ]
      refine anyT_take (i := 2) (v := ?_) gO kR kR kR kR (by exact fun _ _ _ h => h) (Or.inl ⟨by rfl, ?_⟩) (by assumption) ?_
      rotate_left
      · intro w hSw; (try dsimp only at hSw); go_simp; try with_reducible rfl
      try simp only [Act.put, sX, sY, sZ]
      refine anyT_take (i := 3) (v := ?_) gO kR kR kR kR (by exact fun _ _ _ h => h) (Or.inl ⟨by rfl, ?_⟩) (by assumption) ?_
      rotate_left
      · intro w hSw; (try dsimp only at hSw); go_simp; try with_reducible rfl
      try simp only [Act.put, sX, sY, sZ]
      refine anyT_take (i := 4) (v := ?_) gO kR kR kR kR (by exact fun _ _ _ h => h) (Or.inl ⟨by rfl, ?_⟩) (by assumption) ?_
      rotate_left
      · intro w hSw; (try dsimp only at hSw); go_simp; try with_reducible rfl
      try simp only [Act.put, sX, sY, sZ]
      refine anyT_ready (rs := [1]) kR (by simp) (ReadyT.cons gO (fun K hK => ?_) ReadyT.nil)
      go_simp
      go_at_call 22
      refine (ref7_New false _ _ _ (x.natAbs / y.natAbs) _ (h1.to bW)).mono ?_
      rw [← HE.out.1]
      rintro e w2 ⟨A2, n2, c2, rfl, h2, hb2⟩
      go_simp
      refine hK.out _ _ (by first | exact ⟨CSX2_1, CSX2'_1, trivial⟩ | exact ⟨CSX2_2, CSX2'_2, trivial⟩ | exact KP1 _ bW) (fun hHeld => ?_)
      clear hK K
      try simp only [Act.put, sX, sY, sZ]
      refine anyT_ready (rs := [5]) kR (by simp) (ReadyT.cons gO (fun K hK => ?_) ReadyT.nil)
      go_simp
      go_at_call 22
      refine (ref7_New true _ _ _ (x.natAbs % y.natAbs) _ (h1'.to bW)).mono ?_
      rw [← HE.out.2]
      rintro e w3 ⟨A3, n3, c3, rfl, h3, hb3⟩
      go_simp
      refine hK.out _ _ (by first | exact ⟨CSX2_1, CSX2'_1, trivial⟩ | exact ⟨CSX2_2, CSX2'_2, trivial⟩ | exact KP1 _ bW) (fun hHeld => ?_)
      clear hK K
      try simp only [Act.put, sX, sY, sZ]
      refine anyT_ready (rs := [6]) kR (by simp) (ReadyT.cons gO (fun K hK => ?_) ReadyT.nil)
      have cqX3 := (show Blk2 w3 _ _ _ _ from X3.to bW).cell
      have cqX3' := (show Blk2 w3 _ _ _ _ from X3.to bW).cell1
      have fqX3 := (show Blk2 w3 _ _ _ _ from X3.to bW).free 0
      have fqX3' := (show Blk2 w3 _ _ _ _ from X3.to bW).free 1
      have CSX2_1 := (((show Blk2 w3 _ _ _ _ from X2.to bW).far (p := ⟨w.heap.size + 1 + 1, 0, none⟩) (by show w.heap.size + 1 ≠ w.heap.size + 1 + 1; omega) (.bool (bz (dq x y)))).far (p := ⟨w.heap.size + 1 + 1, 1, none⟩) (by show w.heap.size + 1 ≠ w.heap.size + 1 + 1; omega) (.slice A2 n2 c2)).cell
      have CSX2'_1 := (((show Blk2 w3 _ _ _ _ from X2.to bW).far (p := ⟨w.heap.size + 1 + 1, 0, none⟩) (by show w.heap.size + 1 ≠ w.heap.size + 1 + 1; omega) (.bool (bz (dq x y)))).far (p := ⟨w.heap.size + 1 + 1, 1, none⟩) (by show w.heap.size + 1 ≠ w.heap.size + 1 + 1; omega) (.slice A2 n2 c2)).cell1
      go_simp
      refine hK.out _ _ (by first | exact ⟨CSX2_1, CSX2'_1, trivial⟩ | exact ⟨CSX2_2, CSX2'_2, trivial⟩ | exact KP1 _ bW) (fun hHeld => ?_)
      clear hK K
      try simp only [Act.put, sX, sY, sZ]
      refine anyT_ready (rs := [7]) kR (by simp) (ReadyT.cons gO (fun K hK => ?_) ReadyT.nil)
      have cqX4 := (((show Blk2 w3 _ _ _ _ from X4.to bW).far (p := ⟨w.heap.size + 1 + 1, 0, none⟩) (by show w.heap.size + 1 + 1 + 1 ≠ w.heap.size + 1 + 1; omega) (.bool (bz (dq x y)))).far (p := ⟨w.heap.size + 1 + 1, 1, none⟩) (by show w.heap.size + 1 + 1 + 1 ≠ w.heap.size + 1 + 1; omega) (.slice A2 n2 c2)).cell
      have cqX4' := (((show Blk2 w3 _ _ _ _ from X4.to bW).far (p := ⟨w.heap.size + 1 + 1, 0, none⟩) (by show w.heap.size + 1 + 1 + 1 ≠ w.heap.size + 1 + 1; omega) (.bool (bz (dq x y)))).far (p := ⟨w.heap.size + 1 + 1, 1, none⟩) (by show w.heap.size + 1 + 1 + 1 ≠ w.heap.size + 1 + 1; omega) (.slice A2 n2 c2)).cell1
      have fqX4 := (((show Blk2 w3 _ _ _ _ from X4.to bW).far (p := ⟨w.heap.size + 1 + 1, 0, none⟩) (by show w.heap.size + 1 + 1 + 1 ≠ w.heap.size + 1 + 1; omega) (.bool (bz (dq x y)))).far (p := ⟨w.heap.size + 1 + 1, 1, none⟩) (by show w.heap.size + 1 + 1 + 1 ≠ w.heap.size + 1 + 1; omega) (.slice A2 n2 c2)).free 0
      have fqX4' := (((show Blk2 w3 _ _ _ _ from X4.to bW).far (p := ⟨w.heap.size + 1 + 1, 0, none⟩) (by show w.heap.size + 1 + 1 + 1 ≠ w.heap.size + 1 + 1; omega) (.bool (bz (dq x y)))).far (p := ⟨w.heap.size + 1 + 1, 1, none⟩) (by show w.heap.size + 1 + 1 + 1 ≠ w.heap.size + 1 + 1; omega) (.slice A2 n2 c2)).free 1
      have CSX2_2 := (((((show Blk2 w3 _ _ _ _ from X2.to bW).far (p := ⟨w.heap.size + 1 + 1, 0, none⟩) (by show w.heap.size + 1 ≠ w.heap.size + 1 + 1; omega) (.bool (bz (dq x y)))).far (p := ⟨w.heap.size + 1 + 1, 1, none⟩) (by show w.heap.size + 1 ≠ w.heap.size + 1 + 1; omega) (.slice A2 n2 c2)).far (p := ⟨w.heap.size + 1 + 1 + 1, 0, none⟩) (by show w.heap.size + 1 ≠ w.heap.size + 1 + 1 + 1; omega) (.bool (bz (dr x y)))).far (p := ⟨w.heap.size + 1 + 1 + 1, 1, none⟩) (by show w.heap.size + 1 ≠ w.heap.size + 1 + 1 + 1; omega) (.slice A3 n3 c3)).cell
      have CSX2'_2 := (((((show Blk2 w3 _ _ _ _ from X2.to bW).far (p := ⟨w.heap.size + 1 + 1, 0, none⟩) (by show w.heap.size + 1 ≠ w.heap.size + 1 + 1; omega) (.bool (bz (dq x y)))).far (p := ⟨w.heap.size + 1 + 1, 1, none⟩) (by show w.heap.size + 1 ≠ w.heap.size + 1 + 1; omega) (.slice A2 n2 c2)).far (p := ⟨w.heap.size + 1 + 1 + 1, 0, none⟩) (by show w.heap.size + 1 ≠ w.heap.size + 1 + 1 + 1; omega) (.bool (bz (dr x y)))).far (p := ⟨w.heap.size + 1 + 1 + 1, 1, none⟩) (by show w.heap.size + 1 ≠ w.heap.size + 1 + 1 + 1; omega) (.slice A3 n3 c3)).cell1
      go_simp
      refine hK.out _ _ (by first | exact ⟨CSX2_1, CSX2'_1, trivial⟩ | exact ⟨CSX2_2, CSX2'_2, trivial⟩ | exact KP1 _ bW) (fun hHeld => ?_)
      clear hK K
      try simp only [Act.put, sX, sY, sZ]
      refine anyT_done kR ?_ _
      clear CSX2_1 CSX2'_1 CSX2_2 CSX2'_2
      clear hHeld cqX3 cqX3' fqX3' fqX3 cqX4 cqX4' fqX4' fqX4 CX2 CX2' KP1
      replace h := (show NumAt _ _ w3 _ _ _ _ from h.to bW)
      replace h' := (show NumAt _ _ w3 _ _ _ _ from h'.to bW)
      replace h1 := (show NumAt _ _ w3 _ _ _ _ from h1.to bW)
      replace h1' := (show NumAt _ _ w3 _ _ _ _ from h1'.to bW)
      replace h2 := (show NumAt _ _ w3 _ _ _ _ from h2.to bW)
      replace h3 := (show NumAt _ _ w3 _ _ _ _ from h3.to bW)
      replace X1 := (show Blk2 w3 _ _ _ _ from X1.to bW)
      replace X2 := (show Blk2 w3 _ _ _ _ from X2.to bW)
      replace X3 := (show Blk2 w3 _ _ _ _ from X3.to bW)
      replace X4 := (show Blk2 w3 _ _ _ _ from X4.to bW)
      have hbws2 := below_put2 (show Below w.heap.size w w3 from bW) (g := w.heap.size + 1 + 1) (by show w.heap.size ≤ w.heap.size + 1 + 1; omega) (.bool (bz (dq x y))) (.slice A2 n2 c2)
      replace h := h.put2 X3 (.bool (bz (dq x y))) (.slice A2 n2 c2)
      replace h' := h'.put2 X3 (.bool (bz (dq x y))) (.slice A2 n2 c2)
      replace h1 := h1.put2 X3 (.bool (bz (dq x y))) (.slice A2 n2 c2)
      replace h1' := h1'.put2 X3 (.bool (bz (dq x y))) (.slice A2 n2 c2)
      replace h2 := h2.put2 X3 (.bool (bz (dq x y))) (.slice A2 n2 c2)
      replace h3 := h3.put2 X3 (.bool (bz (dq x y))) (.slice A2 n2 c2)
      replace X1 := X1.off2 (g := w.heap.size + 1 + 1) (by show w.heap.size ≠ w.heap.size + 1 + 1; omega) (.bool (bz (dq x y))) (.slice A2 n2 c2)
      replace X2 := X2.off2 (g := w.heap.size + 1 + 1) (by show w.heap.size + 1 ≠ w.heap.size + 1 + 1; omega) (.bool (bz (dq x y))) (.slice A2 n2 c2)
      replace X4 := X4.off2 (g := w.heap.size + 1 + 1) (by show w.heap.size + 1 + 1 + 1 ≠ w.heap.size + 1 + 1; omega) (.bool (bz (dq x y))) (.slice A2 n2 c2)
      replace X3 := X3.put2 (.bool (bz (dq x y))) (.slice A2 n2 c2)
      rw [show (w3.setCell ⟨w.heap.size + 1 + 1, 0, none⟩ (.bool (bz (dq x y)))).setCell ⟨w.heap.size + 1 + 1, 1, none⟩ (.slice A2 n2 c2) = put2 w3 (w.heap.size + 1 + 1) (.bool (bz (dq x y))) (.slice A2 n2 c2) from rfl]
      generalize put2 w3 (w.heap.size + 1 + 1) (.bool (bz (dq x y))) (.slice A2 n2 c2) = ws2 at h h' h1 h1' h2 h3 X1 X2 X4 X3 hbws2 ⊢
      replace h := (show NumAt _ _ ws2 _ _ _ _ from h.to bW)
      replace h' := (show NumAt _ _ ws2 _ _ _ _ from h'.to bW)
      replace h1 := (show NumAt _ _ ws2 _ _ _ _ from h1.to bW)
      replace h1' := (show NumAt _ _ ws2 _ _ _ _ from h1'.to bW)
      replace h2 := (show NumAt _ _ ws2 _ _ _ _ from h2.to bW)
      replace h3 := (show NumAt _ _ ws2 _ _ _ _ from h3.to bW)
      replace X1 := (show Blk2 ws2 _ _ _ _ from X1.to bW)
      replace X2 := (show Blk2 ws2 _ _ _ _ from X2.to bW)
      replace X3 := (show Blk2 ws2 _ _ _ _ from X3.to bW)
      replace X4 := (show Blk2 ws2 _ _ _ _ from X4.to bW)
      have hbws3 := below_put2 (show Below w.heap.size w ws2 from bW) (g := w.heap.size + 1 + 1 + 1) (by show w.heap.size ≤ w.heap.size + 1 + 1 + 1; omega) (.bool (bz (dr x y))) (.slice A3 n3 c3)
      replace h := h.put2 X4 (.bool (bz (dr x y))) (.slice A3 n3 c3)
      replace h' := h'.put2 X4 (.bool (bz (dr x y))) (.slice A3 n3 c3)
      replace h1 := h1.put2 X4 (.bool (bz (dr x y))) (.slice A3 n3 c3)
      replace h1' := h1'.put2 X4 (.bool (bz (dr x y))) (.slice A3 n3 c3)
      replace h2 := h2.put2 X4 (.bool (bz (dr x y))) (.slice A3 n3 c3)
      replace h3 := h3.put2 X4 (.bool (bz (dr x y))) (.slice A3 n3 c3)
      replace X1 := X1.off2 (g := w.heap.size + 1 + 1 + 1) (by show w.heap.size ≠ w.heap.size + 1 + 1 + 1; omega) (.bool (bz (dr x y))) (.slice A3 n3 c3)
      replace X2 := X2.off2 (g := w.heap.size + 1 + 1 + 1) (by show w.heap.size + 1 ≠ w.heap.size + 1 + 1 + 1; omega) (.bool (bz (dr x y))) (.slice A3 n3 c3)
      replace X3 := X3.off2 (g := w.heap.size + 1 + 1 + 1) (by show w.heap.size + 1 + 1 ≠ w.heap.size + 1 + 1 + 1; omega) (.bool (bz (dr x y))) (.slice A3 n3 c3)
      replace X4 := X4.put2 (.bool (bz (dr x y))) (.slice A3 n3 c3)
      rw [show (ws2.setCell ⟨w.heap.size + 1 + 1 + 1, 0, none⟩ (.bool (bz (dr x y)))).setCell ⟨w.heap.size + 1 + 1 + 1, 1, none⟩ (.slice A3 n3 c3) = put2 ws2 (w.heap.size + 1 + 1 + 1) (.bool (bz (dr x y))) (.slice A3 n3 c3) from rfl]
      generalize put2 ws2 (w.heap.size + 1 + 1 + 1) (.bool (bz (dr x y))) (.slice A3 n3 c3) = ws3 at h h' h1 h1' h2 h3 X1 X2 X3 X4 hbws3 ⊢
      go_wp2_with fail
      have erX3 := (show Blk2 ws3 _ _ _ _ from X3.to bW).cell
      have erX3' := (show Blk2 ws3 _ _ _ _ from X3.to bW).cell1
      have erX4 := (show Blk2 ws3 _ _ _ _ from X4.to bW).cell
      have erX4' := (show Blk2 ws3 _ _ _ _ from X4.to bW).cell1
      exact bodyPost_ret (v := .tuple #[.agg #[.bool (bz (dq x y)), .slice A2 n2 c2], .agg #[.bool (bz (dr x y)), .slice A3 n3 c3]]) (by simp [results, Try.results16, go_sem, erX3, erX3', erX4, erX4']) rfl ⟨_, _, _, _, _, _, rfl, (show NumAt _ _ ws3 _ _ _ _ from (h2.to bW)), (show NumAt _ _ ws3 _ _ _ _ from (h3.to bW)), (show Below w.heap.size w ws3 from bW)⟩
end Go.Proofs.Ytihbpkljjmpkjaa
