/- The walks of package integer, first part. -/
import Derived.Test.YtihbpkljjmpkjaaInt
import Derived.Test.YtihbpkljjmpkjaaKI
set_option linter.unusedVariables false
set_option linter.unusedSimpArgs false
namespace Go.Proofs.Ytihbpkljjmpkjaa
open Go.RowKit
set_option maxRecDepth 100000
set_option maxHeartbeats 4000000 in
theorem integer_New (b : Bool) (A : Option Addr) (n c x : Nat) (w : World) (h : NatAt w A n c x) :
    Calls Try.prog 37 #[.bool b, .agg #[.slice A n c]] w (RetInt w (sg b x)) := by
  have HX := Lib.hid (sg_below b x)
  have HA := Lib.hid (sg_abs b x)
  cases b
  case true =>
    go_enter Try.func37, Try.ntmps37
    go_wp2_with fail
    have X1 := Blk1.newAt w (w.heap.size) 27 (.slice A n c) (by first | rfl | simp)
    have X2 := Blk2.newAt (w.alloc (.cells #[.slice A n c] 27)) (w.heap.size + 1) 29 (.bool false) (.slice none 0 0) (by first | rfl | simp)
    replace X1 := (show Blk1 ((w.alloc (.cells #[.slice A n c] 27)).alloc (.cells #[.bool false, .slice none 0 0] 29)) _ _ _ from X1.to bW)
    have hbwe1 : Below w.heap.size w ((w.alloc (.cells #[.slice A n c] 27)).alloc (.cells #[.bool false, .slice none 0 0] 29)) := bW
    generalize ((w.alloc (.cells #[.slice A n c] 27)).alloc (.cells #[.bool false, .slice none 0 0] 29)) = we1 at X1 X2 hbwe1  ⊢
    have CX1 := (show Blk1 we1 _ _ _ from X1.to bW).cell
    have KP1 : ∀ w', Below we1.heap.size we1 w' → w'.cell? ⟨w.heap.size, 0, none⟩ = some (.slice A n c) ∧ True := fun w' hw' => ⟨cellB hw' CX1, trivial⟩
    refine wp_regionT (S := fun w' => w'.cell? ⟨w.heap.size, 0, none⟩ = some (.slice A n c) ∧ True) [] kR (by first | exact ⟨CSX1_1, trivial⟩ | exact KP1 _ bW) (fun hHeld => ?_)
    have hbd1 : Below we1.heap.size we1 we1.drew := nxw (Below.refl _ _)
    generalize we1.drew = wd1 at hHeld hbd1 ⊢
    refine anyT_take (i := 0) (v := ?_) gO kR kR kR kR (by exact fun _ _ _ h => h) (Or.inl ⟨by rfl, ?_⟩) (by assumption) ?_
    rotate_left
    · intro w hSw; (try dsimp only at hSw); go_simp; try with_reducible rfl
    try simp only [Act.put, sX, sY, sZ]
    refine anyT_take (i := 1) (v := ?_) gO kR kR kR kR (by exact fun _ _ _ h => h) (Or.inl ⟨by rfl, ?_⟩) (by assumption) ?_
    rotate_left
    · intro w hSw; (try dsimp only at hSw); go_simp; try with_reducible rfl
    try simp only [Act.put, sX, sY, sZ]
    refine anyT_take (i := 2) (v := ?_) gO kR kR kR kR (by exact fun _ _ _ h => h) (Or.inl ⟨by rfl, ?_⟩) (by assumption) ?_
    rotate_left
    · intro w hSw; (try dsimp only at hSw); go_simp; try with_reducible rfl
    try simp only [Act.put, sX, sY, sZ]
    refine anyT_take (i := 6) (v := ?_) gO kR kR kR kR (by exact fun _ _ _ h => h) (Or.inl ⟨by rfl, ?_⟩) (by assumption) ?_
    rotate_left
    · intro w hSw; (try dsimp only at hSw); go_simp; try with_reducible rfl
    try simp only [Act.put, sX, sY, sZ]
    refine anyT_ready (rs := [3]) kR (by simp) (ReadyT.cons gO (fun K hK => ?_) ReadyT.nil)
    go_simp
    go_at_call 41
    (with_reducible refine (nat_Zero _ _ _ _ _ (h.to bW)).mono ?_)
    rintro e w1 ⟨rfl, hb1⟩
    go_simp
    refine hK.out _ _ (by first | exact ⟨CSX1_1, trivial⟩ | exact KP1 _ bW) (fun hHeld => ?_)
    clear hK K
    try simp only [Act.put, sX, sY, sZ]
    refine anyT_take (i := 4) (v := ?_) gO kR kR kR kR (by exact fun _ _ _ h => h) (Or.inl ⟨by rfl, ?_⟩) (by assumption) ?_
    rotate_left
    · intro w hSw; (try dsimp only at hSw); go_simp; try with_reducible rfl
    try simp only [Act.put, sX, sY, sZ]
    refine anyT_take (i := 5) (v := ?_) gO kR kR kR kR (by exact fun _ _ _ h => h) (Or.inl ⟨by rfl, ?_⟩) (by assumption) ?_
    rotate_left
    · intro w hSw; (try dsimp only at hSw); go_simp; try with_reducible rfl
    try simp only [Act.put, sX, sY, sZ]
    refine anyT_take (i := 7) (v := ?_) gO kR kR kR kR (by exact fun _ _ _ h => h) (Or.inl ⟨by rfl, ?_⟩) (by assumption) ?_
    rotate_left
    · intro w hSw; (try dsimp only at hSw); go_simp; try with_reducible rfl
    try simp only [Act.put, sX, sY, sZ]
    refine anyT_ready (rs := [8]) kR (by simp) (ReadyT.cons gO (fun K hK => ?_) ReadyT.nil)
    have cqX2 := (show Blk2 w1 _ _ _ _ from X2.to bW).cell
    have cqX2' := (show Blk2 w1 _ _ _ _ from X2.to bW).cell1
    have fqX2 := (show Blk2 w1 _ _ _ _ from X2.to bW).free 0
    have fqX2' := (show Blk2 w1 _ _ _ _ from X2.to bW).free 1
    have CSX1_1 := (((show Blk1 w1 _ _ _ from X1.to bW).far (p := ⟨w.heap.size + 1, 0, none⟩) (by show w.heap.size ≠ w.heap.size + 1; omega) (.bool (!decide (x = 0)))).far (p := ⟨w.heap.size + 1, 1, none⟩) (by show w.heap.size ≠ w.heap.size + 1; omega) (.slice A n c)).cell
    go_simp
    refine hK.out _ _ (by first | exact ⟨CSX1_1, trivial⟩ | exact KP1 _ bW) (fun hHeld => ?_)
    clear hK K
    try simp only [Act.put, sX, sY, sZ]
    refine anyT_done kR ?_ _
    clear CSX1_1
    clear hHeld cqX2 cqX2' fqX2' fqX2 CX1 KP1
    replace h := (show NatAt w1 _ _ _ _ from h.to bW)
    replace X1 := (show Blk1 w1 _ _ _ from X1.to bW)
    replace X2 := (show Blk2 w1 _ _ _ _ from X2.to bW)
    have hbws2 := below_put2 (show Below w.heap.size w w1 from bW) (g := w.heap.size + 1) (by show w.heap.size ≤ w.heap.size + 1; omega) (.bool (!decide (x = 0))) (.slice A n c)
    replace h := h.put2 X2 (.bool (!decide (x = 0))) (.slice A n c)
    replace X1 := X1.off2 (g := w.heap.size + 1) (by show w.heap.size ≠ w.heap.size + 1; omega) (.bool (!decide (x = 0))) (.slice A n c)
    replace X2 := X2.put2 (.bool (!decide (x = 0))) (.slice A n c)
    rw [show (w1.setCell ⟨w.heap.size + 1, 0, none⟩ (.bool (!decide (x = 0)))).setCell ⟨w.heap.size + 1, 1, none⟩ (.slice A n c) = put2 w1 (w.heap.size + 1) (.bool (!decide (x = 0))) (.slice A n c) from rfl]
    generalize put2 w1 (w.heap.size + 1) (.bool (!decide (x = 0))) (.slice A n c) = ws2 at h X1 X2 hbws2 ⊢
    go_wp2_with fail
    have er := (show Blk2 ws2 _ _ _ _ from X2.to bW).cell
    have er' := (show Blk2 ws2 _ _ _ _ from X2.to bW).cell1
    exact bodyPost_ret (v := .agg #[.bool (!decide (x = 0)), .slice A n c]) (by simp [results, Try.results37, go_sem, er, er']) rfl ⟨A, n, c, by rw [HX.out]; simp, by rw [HA.out]; exact (show NatAt ws2 _ _ _ _ from h.to bW), (show Below w.heap.size w ws2 from bW)⟩
  case false =>
    go_enter Try.func37, Try.ntmps37
    go_wp2_with fail
    have X1 := Blk1.newAt w (w.heap.size) 27 (.slice A n c) (by first | rfl | simp)
    have X2 := Blk2.newAt (w.alloc (.cells #[.slice A n c] 27)) (w.heap.size + 1) 29 (.bool false) (.slice none 0 0) (by first | rfl | simp)
    replace X1 := (show Blk1 ((w.alloc (.cells #[.slice A n c] 27)).alloc (.cells #[.bool false, .slice none 0 0] 29)) _ _ _ from X1.to bW)
    have hbwe1 : Below w.heap.size w ((w.alloc (.cells #[.slice A n c] 27)).alloc (.cells #[.bool false, .slice none 0 0] 29)) := bW
    generalize ((w.alloc (.cells #[.slice A n c] 27)).alloc (.cells #[.bool false, .slice none 0 0] 29)) = we1 at X1 X2 hbwe1  ⊢
    have CX1 := (show Blk1 we1 _ _ _ from X1.to bW).cell
    have KP1 : ∀ w', Below we1.heap.size we1 w' → w'.cell? ⟨w.heap.size, 0, none⟩ = some (.slice A n c) ∧ True := fun w' hw' => ⟨cellB hw' CX1, trivial⟩
    refine wp_regionT (S := fun w' => w'.cell? ⟨w.heap.size, 0, none⟩ = some (.slice A n c) ∧ True) [] kR (by first | exact ⟨CSX1_1, trivial⟩ | exact KP1 _ bW) (fun hHeld => ?_)
    have hbd1 : Below we1.heap.size we1 we1.drew := nxw (Below.refl _ _)
    generalize we1.drew = wd1 at hHeld hbd1 ⊢
    refine anyT_take (i := 0) (v := ?_) gO kR kR kR kR (by exact fun _ _ _ h => h) (Or.inl ⟨by rfl, ?_⟩) (by assumption) ?_
    rotate_left
    · intro w hSw; (try dsimp only at hSw); go_simp; try with_reducible rfl
    try simp only [Act.put, sX, sY, sZ]
    refine anyT_take (i := 1) (v := ?_) gO kR kR kR kR (by exact fun _ _ _ h => h) (Or.inl ⟨by rfl, ?_⟩) (by assumption) ?_
    rotate_left
    · intro w hSw; (try dsimp only at hSw); go_simp; try with_reducible rfl
    try simp only [Act.put, sX, sY, sZ]
    refine anyT_take (i := 2) (v := undef) gO kR kR kR kR (by exact fun _ _ _ h => h) (Or.inr ⟨by rfl, rfl⟩) (by assumption) ?_
    try simp only [Act.put, sX, sY, sZ]
    refine anyT_take (i := 3) (v := undef) gO kR kR kR kR (by exact fun _ _ _ h => h) (Or.inr ⟨by rfl, rfl⟩) (by assumption) ?_
    try simp only [Act.put, sX, sY, sZ]
    refine anyT_take (i := 4) (v := undef) gO kR kR kR kR (by exact fun _ _ _ h => h) (Or.inr ⟨by rfl, rfl⟩) (by assumption) ?_
    try simp only [Act.put, sX, sY, sZ]
    refine anyT_take (i := 5) (v := ?_) gO kR kR kR kR (by exact fun _ _ _ h => h) (Or.inl ⟨by rfl, ?_⟩) (by assumption) ?_
    rotate_left
    · intro w hSw; (try dsimp only at hSw); go_simp; try with_reducible rfl
    try simp only [Act.put, sX, sY, sZ]
    refine anyT_take (i := 6) (v := ?_) gO kR kR kR kR (by exact fun _ _ _ h => h) (Or.inl ⟨by rfl, ?_⟩) (by assumption) ?_
    rotate_left
    · intro w hSw; (try dsimp only at hSw); go_simp; try with_reducible rfl
    try simp only [Act.put, sX, sY, sZ]
    refine anyT_take (i := 7) (v := ?_) gO kR kR kR kR (by exact fun _ _ _ h => h) (Or.inl ⟨by rfl, ?_⟩) (by assumption) ?_
    rotate_left
    · intro w hSw; (try dsimp only at hSw); go_simp; try with_reducible rfl
    try simp only [Act.put, sX, sY, sZ]
    refine anyT_ready (rs := [8]) kR (by simp) (ReadyT.cons gO (fun K hK => ?_) ReadyT.nil)
    have cqX2 := (show Blk2 wd1 _ _ _ _ from X2.to bW).cell
    have cqX2' := (show Blk2 wd1 _ _ _ _ from X2.to bW).cell1
    have fqX2 := (show Blk2 wd1 _ _ _ _ from X2.to bW).free 0
    have fqX2' := (show Blk2 wd1 _ _ _ _ from X2.to bW).free 1
    have CSX1_1 := (((show Blk1 wd1 _ _ _ from X1.to bW).far (p := ⟨w.heap.size + 1, 0, none⟩) (by show w.heap.size ≠ w.heap.size + 1; omega) (.bool false)).far (p := ⟨w.heap.size + 1, 1, none⟩) (by show w.heap.size ≠ w.heap.size + 1; omega) (.slice A n c)).cell
    go_simp
    refine hK.out _ _ (by first | exact ⟨CSX1_1, trivial⟩ | exact KP1 _ bW) (fun hHeld => ?_)
    clear hK K
    try simp only [Act.put, sX, sY, sZ]
    refine anyT_done kR ?_ _
    clear CSX1_1
    clear hHeld cqX2 cqX2' fqX2' fqX2 CX1 KP1
    replace h := (show NatAt wd1 _ _ _ _ from h.to bW)
    replace X1 := (show Blk1 wd1 _ _ _ from X1.to bW)
    replace X2 := (show Blk2 wd1 _ _ _ _ from X2.to bW)
    have hbws2 := below_put2 (show Below w.heap.size w wd1 from bW) (g := w.heap.size + 1) (by show w.heap.size ≤ w.heap.size + 1; omega) (.bool false) (.slice A n c)
    replace h := h.put2 X2 (.bool false) (.slice A n c)
    replace X1 := X1.off2 (g := w.heap.size + 1) (by show w.heap.size ≠ w.heap.size + 1; omega) (.bool false) (.slice A n c)
    replace X2 := X2.put2 (.bool false) (.slice A n c)
    rw [show (wd1.setCell ⟨w.heap.size + 1, 0, none⟩ (.bool false)).setCell ⟨w.heap.size + 1, 1, none⟩ (.slice A n c) = put2 wd1 (w.heap.size + 1) (.bool false) (.slice A n c) from rfl]
    generalize put2 wd1 (w.heap.size + 1) (.bool false) (.slice A n c) = ws2 at h X1 X2 hbws2 ⊢
    go_wp2_with fail
    have er := (show Blk2 ws2 _ _ _ _ from X2.to bW).cell
    have er' := (show Blk2 ws2 _ _ _ _ from X2.to bW).cell1
    exact bodyPost_ret (v := .agg #[.bool false, .slice A n c]) (by simp [results, Try.results37, go_sem, er, er']) rfl ⟨A, n, c, by rw [HX.out]; simp, by rw [HA.out]; exact (show NatAt ws2 _ _ _ _ from h.to bW), (show Below w.heap.size w ws2 from bW)⟩
theorem neg_wrap {i : Int} (h : i < 0) (h1 : -9223372036854775808 ≤ i) : IntKind.u64.wrap (-(IntKind.u64.wrap i)) = ((i.natAbs : Nat) : Int) ∧ i.natAbs < W := by
  have w1 : ∀ j, IntKind.u64.wrap j = j % 18446744073709551616 := fun j => by simp [IntKind.wrap, IntKind.signed, IntKind.bits]
  refine ⟨?_, by unfold W; omega⟩
  rw [w1, w1]
  omega
set_option maxHeartbeats 4000000 in
theorem integer_Of (i : Int) (w : World) (h0 : -9223372036854775808 ≤ i) (h1 : i ≤ 9223372036854775807) :
    Calls Try.prog 26 #[.int .i64 i] w (RetInt w i) := by
  obtain ⟨x, hx⟩ : ∃ x, x = i.natAbs := ⟨_, rfl⟩
  have HX := Lib.hid hx
  rcases Int.lt_or_le i 0 with hi | hi
  · have hi0 : i < 0 := hi
    obtain ⟨e1, e2⟩ := neg_wrap hi h0
    rw [← hx] at e1 e2
    clear hx
    go_enter Try.func26, Try.ntmps26
    go_wp2_with fail
    have X1 := Blk2.newAt w (w.heap.size) 29 (.bool false) (.slice none 0 0) (by first | rfl | simp)
    have hbwe1 : Below w.heap.size w (w.alloc (.cells #[.bool false, .slice none 0 0] 29)) := bW
    have HSwe1 := Lib.hid (show (w.alloc (.cells #[.bool false, .slice none 0 0] 29)).heap.size = w.heap.size + 1 by first | rfl | simp)
    generalize (w.alloc (.cells #[.bool false, .slice none 0 0] 29)) = we1 at X1 hbwe1 HSwe1 ⊢
    refine (nat_Of_one x _ _ _ (by first | rfl | exact HSwe1.out | simp) e2).mono ?_
    rintro e w1 ⟨A1, n1, c1, rfl, h1, hb1, m1⟩
    go_wp2_with fail
    refine (integer_New true _ _ _ x _ (h1.to bW)).mono ?_
    rw [show sg true x = i by rw [sg_true, HX.out]; omega]
    rintro e w2 ⟨A2, n2, c2, rfl, h2, hb2⟩
    have d1 := (show Blk2 w2 _ _ _ _ from X1.to bW).cell
    have d1' := (show Blk2 w2 _ _ _ _ from X1.to bW).cell1
    have f0d1 := (show Blk2 w2 _ _ _ _ from X1.to bW).free 0
    have f1d1 := (show Blk2 w2 _ _ _ _ from X1.to bW).free 1
    go_wp2_with fail
    clear d1 d1' f0d1 f1d1
    replace h1 := (show NatAt w2 _ _ _ _ from h1.to bW)
    replace h2 := (show NatAt w2 _ _ _ _ from h2.to bW)
    replace X1 := (show Blk2 w2 _ _ _ _ from X1.to bW)
    have hbws2 := below_put2 (show Below w.heap.size w w2 from bW) (g := w.heap.size) (by show w.heap.size ≤ w.heap.size; omega) (.bool (bz i)) (.slice A2 n2 c2)
    replace h1 := h1.put2 X1 (.bool (bz i)) (.slice A2 n2 c2)
    replace h2 := h2.put2 X1 (.bool (bz i)) (.slice A2 n2 c2)
    replace X1 := X1.put2 (.bool (bz i)) (.slice A2 n2 c2)
    rw [show (w2.setCell ⟨w.heap.size, 0, none⟩ (.bool (bz i))).setCell ⟨w.heap.size, 1, none⟩ (.slice A2 n2 c2) = put2 w2 (w.heap.size) (.bool (bz i)) (.slice A2 n2 c2) from rfl]
    generalize put2 w2 (w.heap.size) (.bool (bz i)) (.slice A2 n2 c2) = ws2 at h1 h2 X1 hbws2 ⊢
    have erX1 := (show Blk2 ws2 _ _ _ _ from X1.to bW).cell
    have erX1' := (show Blk2 ws2 _ _ _ _ from X1.to bW).cell1
    exact bodyPost_ret (v := .agg #[.bool (bz i), .slice A2 n2 c2]) (by simp [results, Try.results26, go_sem, erX1, erX1']) rfl ⟨_, _, _, rfl, (show NatAt ws2 _ _ _ _ from (h2.to bW)), (show Below w.heap.size w ws2 from bW)⟩
  · have hi0 : ¬ i < 0 := by omega
    have e1 : IntKind.u64.wrap i = ((x : Nat) : Int) := by rw [IntWalk.u64_in _ (by omega)]; omega
    have e2 : x < W := by unfold W; omega
    clear hx
    go_enter Try.func26, Try.ntmps26
    go_wp2_with fail
    have X1 := Blk2.newAt w (w.heap.size) 29 (.bool false) (.slice none 0 0) (by first | rfl | simp)
    have hbwe1 : Below w.heap.size w (w.alloc (.cells #[.bool false, .slice none 0 0] 29)) := bW
    have HSwe1 := Lib.hid (show (w.alloc (.cells #[.bool false, .slice none 0 0] 29)).heap.size = w.heap.size + 1 by first | rfl | simp)
    generalize (w.alloc (.cells #[.bool false, .slice none 0 0] 29)) = we1 at X1 hbwe1 HSwe1 ⊢
    refine (nat_Of_one x _ _ _ (by first | rfl | exact HSwe1.out | simp) e2).mono ?_
    rintro e w1 ⟨A1, n1, c1, rfl, h1, hb1, m1⟩
    go_wp2_with fail
    refine (integer_New false _ _ _ x _ (h1.to bW)).mono ?_
    rw [show sg false x = i by rw [sg_false, HX.out]; omega]
    rintro e w2 ⟨A2, n2, c2, rfl, h2, hb2⟩
    have d1 := (show Blk2 w2 _ _ _ _ from X1.to bW).cell
    have d1' := (show Blk2 w2 _ _ _ _ from X1.to bW).cell1
    have f0d1 := (show Blk2 w2 _ _ _ _ from X1.to bW).free 0
    have f1d1 := (show Blk2 w2 _ _ _ _ from X1.to bW).free 1
    go_wp2_with fail
    clear d1 d1' f0d1 f1d1
    replace h1 := (show NatAt w2 _ _ _ _ from h1.to bW)
    replace h2 := (show NatAt w2 _ _ _ _ from h2.to bW)
    replace X1 := (show Blk2 w2 _ _ _ _ from X1.to bW)
    have hbws2 := below_put2 (show Below w.heap.size w w2 from bW) (g := w.heap.size) (by show w.heap.size ≤ w.heap.size; omega) (.bool (bz i)) (.slice A2 n2 c2)
    replace h1 := h1.put2 X1 (.bool (bz i)) (.slice A2 n2 c2)
    replace h2 := h2.put2 X1 (.bool (bz i)) (.slice A2 n2 c2)
    replace X1 := X1.put2 (.bool (bz i)) (.slice A2 n2 c2)
    rw [show (w2.setCell ⟨w.heap.size, 0, none⟩ (.bool (bz i))).setCell ⟨w.heap.size, 1, none⟩ (.slice A2 n2 c2) = put2 w2 (w.heap.size) (.bool (bz i)) (.slice A2 n2 c2) from rfl]
    generalize put2 w2 (w.heap.size) (.bool (bz i)) (.slice A2 n2 c2) = ws2 at h1 h2 X1 hbws2 ⊢
    have erX1 := (show Blk2 ws2 _ _ _ _ from X1.to bW).cell
    have erX1' := (show Blk2 ws2 _ _ _ _ from X1.to bW).cell1
    exact bodyPost_ret (v := .agg #[.bool (bz i), .slice A2 n2 c2]) (by simp [results, Try.results26, go_sem, erX1, erX1']) rfl ⟨_, _, _, rfl, (show NatAt ws2 _ _ _ _ from (h2.to bW)), (show Below w.heap.size w ws2 from bW)⟩
set_option maxHeartbeats 4000000 in
theorem integer_Neg (A : Option Addr) (n c : Nat) (z : Int) (w : World) (h : NatAt w A n c z.natAbs) :
    Calls Try.prog 25 #[.agg #[.bool (bz z), .slice A n c]] w (RetInt w (-z)) := by
  go_enter Try.func25, Try.ntmps25
  go_wp2_with fail
  have X1 := Blk2.newAt w (w.heap.size) 29 (.bool (bz z)) (.slice A n c) (by first | rfl | simp)
  have X2 := Blk2.newAt (w.alloc (.cells #[.bool (bz z), .slice A n c] 29)) (w.heap.size + 1) 29 (.bool false) (.slice none 0 0) (by first | rfl | simp)
  replace X1 := (show Blk2 ((w.alloc (.cells #[.bool (bz z), .slice A n c] 29)).alloc (.cells #[.bool false, .slice none 0 0] 29)) _ _ _ _ from X1.to bW)
  have hbwe1 : Below w.heap.size w ((w.alloc (.cells #[.bool (bz z), .slice A n c] 29)).alloc (.cells #[.bool false, .slice none 0 0] 29)) := bW
  generalize ((w.alloc (.cells #[.bool (bz z), .slice A n c] 29)).alloc (.cells #[.bool false, .slice none 0 0] 29)) = we1 at X1 X2 hbwe1  ⊢
  refine (integer_New (!(bz z)) _ _ _ z.natAbs _ (h.to bW)).mono ?_
  rw [neg_sg]
  rintro e w1 ⟨A1, n1, c1, rfl, h1, hb1⟩
  have d1 := (show Blk2 w1 _ _ _ _ from X2.to bW).cell
  have d1' := (show Blk2 w1 _ _ _ _ from X2.to bW).cell1
  have f0d1 := (show Blk2 w1 _ _ _ _ from X2.to bW).free 0
  have f1d1 := (show Blk2 w1 _ _ _ _ from X2.to bW).free 1
  go_wp2_with fail
  clear d1 d1' f0d1 f1d1
  replace h := (show NatAt w1 _ _ _ _ from h.to bW)
  replace h1 := (show NatAt w1 _ _ _ _ from h1.to bW)
  replace X1 := (show Blk2 w1 _ _ _ _ from X1.to bW)
  replace X2 := (show Blk2 w1 _ _ _ _ from X2.to bW)
  have hbws2 := below_put2 (show Below w.heap.size w w1 from bW) (g := w.heap.size + 1) (by show w.heap.size ≤ w.heap.size + 1; omega) (.bool (bz (-z))) (.slice A1 n1 c1)
  replace h := h.put2 X2 (.bool (bz (-z))) (.slice A1 n1 c1)
  replace h1 := h1.put2 X2 (.bool (bz (-z))) (.slice A1 n1 c1)
  replace X1 := X1.off2 (g := w.heap.size + 1) (by show w.heap.size ≠ w.heap.size + 1; omega) (.bool (bz (-z))) (.slice A1 n1 c1)
  replace X2 := X2.put2 (.bool (bz (-z))) (.slice A1 n1 c1)
  rw [show (w1.setCell ⟨w.heap.size + 1, 0, none⟩ (.bool (bz (-z)))).setCell ⟨w.heap.size + 1, 1, none⟩ (.slice A1 n1 c1) = put2 w1 (w.heap.size + 1) (.bool (bz (-z))) (.slice A1 n1 c1) from rfl]
  generalize put2 w1 (w.heap.size + 1) (.bool (bz (-z))) (.slice A1 n1 c1) = ws2 at h h1 X1 X2 hbws2 ⊢
  have erX2 := (show Blk2 ws2 _ _ _ _ from X2.to bW).cell
  have erX2' := (show Blk2 ws2 _ _ _ _ from X2.to bW).cell1
  exact bodyPost_ret (v := .agg #[.bool (bz (-z)), .slice A1 n1 c1]) (by simp [results, Try.results25, go_sem, erX2, erX2']) rfl ⟨_, _, _, rfl, (show NatAt ws2 _ _ _ _ from (h1.to bW)), (show Below w.heap.size w ws2 from bW)⟩
set_option maxHeartbeats 4000000 in
theorem integer_Below (A : Option Addr) (n c : Nat) (z : Int) (w : World) (h : NatAt w A n c z.natAbs) :
    Calls Try.prog 47 #[.agg #[.bool (bz z), .slice A n c]] w (Ret w (.bool (bz z))) := by
  go_enter Try.func47, Try.ntmps47
  go_wp2_with fail
  have X1 := Blk2.newAt w (w.heap.size) 29 (.bool (bz z)) (.slice A n c) (by first | rfl | simp)
  have hbwe1 : Below w.heap.size w (w.alloc (.cells #[.bool (bz z), .slice A n c] 29)) := bW
  generalize (w.alloc (.cells #[.bool (bz z), .slice A n c] 29)) = we1 at X1 hbwe1  ⊢
  go_ret
  exact ⟨rfl, bW⟩
set_option maxHeartbeats 4000000 in
theorem integer_Abs (A : Option Addr) (n c : Nat) (z : Int) (w : World) (h : NatAt w A n c z.natAbs) :
    Calls Try.prog 31 #[.agg #[.bool (bz z), .slice A n c]] w (RetNat w z.natAbs) := by
  go_enter Try.func31, Try.ntmps31
  go_wp2_with fail
  have X1 := Blk2.newAt w (w.heap.size) 29 (.bool (bz z)) (.slice A n c) (by first | rfl | simp)
  have X2 := Blk1.newAt (w.alloc (.cells #[.bool (bz z), .slice A n c] 29)) (w.heap.size + 1) 27 (.slice A n c) (by first | rfl | simp)
  replace X1 := (show Blk2 ((w.alloc (.cells #[.bool (bz z), .slice A n c] 29)).alloc (.cells #[.slice A n c] 27)) _ _ _ _ from X1.to bW)
  have hbwe1 : Below w.heap.size w ((w.alloc (.cells #[.bool (bz z), .slice A n c] 29)).alloc (.cells #[.slice A n c] 27)) := bW
  generalize ((w.alloc (.cells #[.bool (bz z), .slice A n c] 29)).alloc (.cells #[.slice A n c] 27)) = we1 at X1 X2 hbwe1  ⊢
  have erX2 := (show Blk1 we1 _ _ _ from X2.to bW).cell
  exact bodyPost_ret (v := .agg #[.slice A n c]) (by simp [results, Try.results31, go_sem, erX2]) rfl ⟨_, _, _, rfl, (show NatAt we1 _ _ _ _ from (h.to bW)), (show Below w.heap.size w we1 from bW)⟩
set_option maxHeartbeats 4000000 in
theorem integer_Sign (A : Option Addr) (n c : Nat) (z : Int) (w : World) (h : NatAt w A n c z.natAbs) :
    Calls Try.prog 15 #[.agg #[.bool (bz z), .slice A n c]] w (Ret w (.int .i64 (sgn z))) := by
  cases hb : bz z
  case true =>
    have HS := Lib.hid (show sgn z = -1 from cmpZ_lt (bz_true.1 hb))
    rw [HS.out]
    clear hb
    go_enter Try.func15, Try.ntmps15
    go_wp2_with fail
    have X1 := Blk2.newAt w (w.heap.size) 29 (.bool true) (.slice A n c) (by first | rfl | simp)
    have hbwe1 : Below w.heap.size w (w.alloc (.cells #[.bool true, .slice A n c] 29)) := bW
    generalize (w.alloc (.cells #[.bool true, .slice A n c] 29)) = we1 at X1 hbwe1  ⊢
    go_ret
    exact ⟨rfl, bW⟩
  case false =>
    by_cases h0 : z.natAbs = 0
    · have HS := Lib.hid (show sgn z = 0 from cmpZ_eq (by omega))
      have HZ := Lib.hid h0
      clear h0
      rw [HS.out]
      clear hb
      go_enter Try.func15, Try.ntmps15
      go_wp2_with fail
      have X1 := Blk2.newAt w (w.heap.size) 29 (.bool false) (.slice A n c) (by first | rfl | simp)
      have hbwe1 : Below w.heap.size w (w.alloc (.cells #[.bool false, .slice A n c] 29)) := bW
      generalize (w.alloc (.cells #[.bool false, .slice A n c] 29)) = we1 at X1 hbwe1  ⊢
      refine (nat_Zero _ _ _ _ _ (h.to bW)).mono ?_
      rw [decide_eq_true HZ.out]
      rintro e w1 ⟨rfl, hb1⟩
      go_wp2_with fail
      go_ret
      exact ⟨rfl, bW⟩
    · have HS := Lib.hid (show sgn z = 1 from cmpZ_gt (by have := bz_false.1 hb; omega))
      have HZ := Lib.hid h0
      clear h0
      rw [HS.out]
      clear hb
      go_enter Try.func15, Try.ntmps15
      go_wp2_with fail
      have X1 := Blk2.newAt w (w.heap.size) 29 (.bool false) (.slice A n c) (by first | rfl | simp)
      have hbwe1 : Below w.heap.size w (w.alloc (.cells #[.bool false, .slice A n c] 29)) := bW
      generalize (w.alloc (.cells #[.bool false, .slice A n c] 29)) = we1 at X1 hbwe1  ⊢
      refine (nat_Zero _ _ _ _ _ (h.to bW)).mono ?_
      rw [decide_eq_false HZ.out]
      rintro e w1 ⟨rfl, hb1⟩
      go_wp2_with fail
      go_ret
      exact ⟨rfl, bW⟩
end Go.Proofs.Ytihbpkljjmpkjaa
