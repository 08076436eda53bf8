/- The walks of actuaryref07, first part: New, Neg, Add, Mul, Cmp. -/
import Derived.Test.YtihbpkljjmpkjaaInt
import Derived.Test.YtihbpkljjmpkjaaKC
import Derived.Test.YtihbpkljjmpkjaaKJ
set_option linter.unusedVariables false
set_option linter.unusedSimpArgs false
namespace Go.Proofs.Ytihbpkljjmpkjaa
open Go.RowKit
set_option maxRecDepth 100000
theorem rzadd_lt {x y : Int} {n m : Nat} (hx : x.natAbs < 65536 ^ n) (hy : y.natAbs < 65536 ^ m) : (x + y).natAbs < 65536 ^ (max n m + 1) := by
  have h1 := Int.natAbs_add_le x y
  have h2 : 65536 ^ n ≤ 65536 ^ max n m := Nat.pow_le_pow_right (by decide) (by omega)
  have h3 : 65536 ^ m ≤ 65536 ^ max n m := Nat.pow_le_pow_right (by decide) (by omega)
  rw [Nat.pow_succ]; omega
theorem ref_mul_lt {x y n m : Nat} (hx : x < 65536 ^ n) (hy : y < 65536 ^ m) : x * y < 65536 ^ (n + m) := by
  rw [Nat.pow_add]
  exact Nat.mul_lt_mul'' hx hy
theorem rzmul_lt {x y : Int} {n m : Nat} (hx : x.natAbs < 65536 ^ n) (hy : y.natAbs < 65536 ^ m) : (x * y).natAbs < 65536 ^ (n + m) := by
  rw [Int.natAbs_mul]
  exact ref_mul_lt hx hy
set_option maxHeartbeats 4000000 in
theorem ref7_New (b : Bool) (A : Option Addr) (n c x : Nat) (w : World) (h : NumAt .i64 65536 w A n c x) :
    Calls Try.prog 22 #[.bool b, .slice A n c] w (RetZ w (sg b x)) := by
  have HX := Lib.hid (sg_below b x)
  have HA := Lib.hid (sg_abs b x)
  have m1 := h.1.max
  have m2 := h.1.cap
  cases b
  case true =>
    rcases Nat.eq_zero_or_pos n with h0 | h0
    · have hI : decide (0 < n) = false := decide_eq_false (by omega)
      have HZ := Lib.hid ((h.zero_iff (by decide)).2 h0)
      clear h0
      go_enter Try.func22, Try.ntmps22
      go_wp2_with fail
      have X1 := Blk2.newAt w (w.heap.size) 34 (.bool false) (.slice A n c) (by first | rfl | simp)
      have hbwe1 : Below w.heap.size w (w.alloc (.cells #[.bool false, .slice A n c] 34)) := bW
      generalize (w.alloc (.cells #[.bool false, .slice A n c] 34)) = we1 at X1 hbwe1  ⊢
      have er := (show Blk2 we1 _ _ _ _ from X1.to bW).cell
      have er' := (show Blk2 we1 _ _ _ _ from X1.to bW).cell1
      exact bodyPost_ret (v := .agg #[.bool false, .slice A n c]) (by simp [results, Try.results22, go_sem, er, er']) rfl ⟨A, n, c, by rw [HX.out, decide_eq_true HZ.out]; rfl, by rw [HA.out]; exact (show NumAt _ _ we1 _ _ _ _ from h.to bW), (show Below w.heap.size w we1 from bW)⟩
    · have hI : decide (0 < n) = true := decide_eq_true (by omega)
      have HZ := Lib.hid (show ¬ x = 0 from fun e => by have := (h.zero_iff (by decide)).1 e; omega)
      clear h0
      go_enter Try.func22, Try.ntmps22
      go_wp2_with fail
      have X1 := Blk2.newAt w (w.heap.size) 34 (.bool true) (.slice A n c) (by first | rfl | simp)
      have hbwe1 : Below w.heap.size w (w.alloc (.cells #[.bool true, .slice A n c] 34)) := bW
      generalize (w.alloc (.cells #[.bool true, .slice A n c] 34)) = we1 at X1 hbwe1  ⊢
      have er := (show Blk2 we1 _ _ _ _ from X1.to bW).cell
      have er' := (show Blk2 we1 _ _ _ _ from X1.to bW).cell1
      exact bodyPost_ret (v := .agg #[.bool true, .slice A n c]) (by simp [results, Try.results22, go_sem, er, er']) rfl ⟨A, n, c, by rw [HX.out, decide_eq_false HZ.out]; rfl, by rw [HA.out]; exact (show NumAt _ _ we1 _ _ _ _ from h.to bW), (show Below w.heap.size w we1 from bW)⟩
  case false =>
    go_enter Try.func22, Try.ntmps22
    go_wp2_with fail
    have X1 := Blk2.newAt w (w.heap.size) 34 (.bool false) (.slice A n c) (by first | rfl | simp)
    have hbwe1 : Below w.heap.size w (w.alloc (.cells #[.bool false, .slice A n c] 34)) := bW
    generalize (w.alloc (.cells #[.bool false, .slice A n c] 34)) = we1 at X1 hbwe1  ⊢
    have er := (show Blk2 we1 _ _ _ _ from X1.to bW).cell
    have er' := (show Blk2 we1 _ _ _ _ from X1.to bW).cell1
    exact bodyPost_ret (v := .agg #[.bool false, .slice A n c]) (by simp [results, Try.results22, go_sem, er, er']) rfl ⟨A, n, c, by rw [HX.out]; rfl, by rw [HA.out]; exact (show NumAt _ _ we1 _ _ _ _ from h.to bW), (show Below w.heap.size w we1 from bW)⟩
set_option maxHeartbeats 4000000 in
theorem ref7_Neg (A : Option Addr) (n c : Nat) (z : Int) (w : World) (h : NumAt .i64 65536 w A n c z.natAbs) :
    Calls Try.prog 32 #[.agg #[.bool (bz z), .slice A n c]] w (RetZ w (-z)) := by
  go_enter Try.func32, Try.ntmps32
  go_wp2_with fail
  have X1 := Blk2.newAt w (w.heap.size) 34 (.bool (bz z)) (.slice A n c) (by first | rfl | simp)
  have X2 := Blk2.newAt (w.alloc (.cells #[.bool (bz z), .slice A n c] 34)) (w.heap.size + 1) 34 (.bool false) (.slice none 0 0) (by first | rfl | simp)
  replace X1 := (show Blk2 ((w.alloc (.cells #[.bool (bz z), .slice A n c] 34)).alloc (.cells #[.bool false, .slice none 0 0] 34)) _ _ _ _ from X1.to bW)
  have hbwe1 : Below w.heap.size w ((w.alloc (.cells #[.bool (bz z), .slice A n c] 34)).alloc (.cells #[.bool false, .slice none 0 0] 34)) := bW
  generalize ((w.alloc (.cells #[.bool (bz z), .slice A n c] 34)).alloc (.cells #[.bool false, .slice none 0 0] 34)) = we1 at X1 X2 hbwe1  ⊢
  refine (ref7_New (!(bz z)) _ _ _ z.natAbs _ (h.to bW)).mono ?_
  rw [neg_sg]
  rintro e w1 ⟨A1, n1, c1, rfl, h1, hb1⟩
  have d1 := (show Blk2 w1 _ _ _ _ from X2.to bW).cell
  have d1' := (show Blk2 w1 _ _ _ _ from X2.to bW).cell1
  have f0d1 := (show Blk2 w1 _ _ _ _ from X2.to bW).free 0
  have f1d1 := (show Blk2 w1 _ _ _ _ from X2.to bW).free 1
  go_wp2_with fail
  clear d1 d1' f0d1 f1d1
  replace h := (show NumAt _ _ w1 _ _ _ _ from h.to bW)
  replace h1 := (show NumAt _ _ w1 _ _ _ _ from h1.to bW)
  replace X1 := (show Blk2 w1 _ _ _ _ from X1.to bW)
  replace X2 := (show Blk2 w1 _ _ _ _ from X2.to bW)
  have hbws2 := below_put2 (show Below w.heap.size w w1 from bW) (g := w.heap.size + 1) (by show w.heap.size ≤ w.heap.size + 1; omega) (.bool (bz (-z))) (.slice A1 n1 c1)
  replace h := h.put2 X2 (.bool (bz (-z))) (.slice A1 n1 c1)
  replace h1 := h1.put2 X2 (.bool (bz (-z))) (.slice A1 n1 c1)
  replace X1 := X1.off2 (g := w.heap.size + 1) (by show w.heap.size ≠ w.heap.size + 1; omega) (.bool (bz (-z))) (.slice A1 n1 c1)
  replace X2 := X2.put2 (.bool (bz (-z))) (.slice A1 n1 c1)
  rw [show (w1.setCell ⟨w.heap.size + 1, 0, none⟩ (.bool (bz (-z)))).setCell ⟨w.heap.size + 1, 1, none⟩ (.slice A1 n1 c1) = put2 w1 (w.heap.size + 1) (.bool (bz (-z))) (.slice A1 n1 c1) from rfl]
  generalize put2 w1 (w.heap.size + 1) (.bool (bz (-z))) (.slice A1 n1 c1) = ws2 at h h1 X1 X2 hbws2 ⊢
  have erX2 := (show Blk2 ws2 _ _ _ _ from X2.to bW).cell
  have erX2' := (show Blk2 ws2 _ _ _ _ from X2.to bW).cell1
  exact bodyPost_ret (v := .agg #[.bool (bz (-z)), .slice A1 n1 c1]) (by simp [results, Try.results32, go_sem, erX2, erX2']) rfl ⟨_, _, _, rfl, (show NumAt _ _ ws2 _ _ _ _ from (h1.to bW)), (show Below w.heap.size w ws2 from bW)⟩
set_option maxHeartbeats 4000000 in
theorem ref7_Add (A : Option Addr) (n c : Nat) (x : Int) (A' : Option Addr) (n' c' : Nat) (y : Int) (w : World) (h : NumAt .i64 65536 w A n c x.natAbs) (h' : NumAt .i64 65536 w A' n' c' y.natAbs) (hn : n ≤ 900000000) (hn' : n' ≤ 900000000) :
    Calls Try.prog 33 #[.agg #[.bool (bz x), .slice A n c], .agg #[.bool (bz y), .slice A' n' c']] w (RetZ w (x + y)) := by
  cases hx : bz x
  case false =>
    cases hy : bz y
    case false =>
      have HE := Lib.hid (show sg false (x.natAbs + y.natAbs) = x + y by have := add_same (x := x) (y := y) (hx.trans hy.symm); rwa [hx] at this)
      clear hx hy
      go_enter Try.func33, Try.ntmps33
      go_wp2_with fail
      have X1 := Blk2.newAt w (w.heap.size) 34 (.bool false) (.slice A n c) (by first | rfl | simp)
      have X2 := Blk2.newAt (w.alloc (.cells #[.bool false, .slice A n c] 34)) (w.heap.size + 1) 34 (.bool false) (.slice A' n' c') (by first | rfl | simp)
      have X3 := Blk2.newAt ((w.alloc (.cells #[.bool false, .slice A n c] 34)).alloc (.cells #[.bool false, .slice A' n' c'] 34)) (w.heap.size + 1 + 1) 34 (.bool false) (.slice none 0 0) (by first | rfl | simp)
      replace X1 := (show Blk2 (((w.alloc (.cells #[.bool false, .slice A n c] 34)).alloc (.cells #[.bool false, .slice A' n' c'] 34)).alloc (.cells #[.bool false, .slice none 0 0] 34)) _ _ _ _ from X1.to bW)
      replace X2 := (show Blk2 (((w.alloc (.cells #[.bool false, .slice A n c] 34)).alloc (.cells #[.bool false, .slice A' n' c'] 34)).alloc (.cells #[.bool false, .slice none 0 0] 34)) _ _ _ _ from X2.to bW)
      have hbwe1 : Below w.heap.size w (((w.alloc (.cells #[.bool false, .slice A n c] 34)).alloc (.cells #[.bool false, .slice A' n' c'] 34)).alloc (.cells #[.bool false, .slice none 0 0] 34)) := bW
      generalize (((w.alloc (.cells #[.bool false, .slice A n c] 34)).alloc (.cells #[.bool false, .slice A' n' c'] 34)).alloc (.cells #[.bool false, .slice none 0 0] 34)) = we1 at X1 X2 X3 hbwe1  ⊢
      have CX1 := (show Blk2 we1 _ _ _ _ from X1.to bW).cell
      have CX1' := (show Blk2 we1 _ _ _ _ from X1.to bW).cell1
      have CX2 := (show Blk2 we1 _ _ _ _ from X2.to bW).cell
      have CX2' := (show Blk2 we1 _ _ _ _ from X2.to bW).cell1
      have KP1 : ∀ w', Below we1.heap.size we1 w' → w'.cell? ⟨w.heap.size, 0, none⟩ = some (.bool false) ∧ w'.cell? ⟨w.heap.size, 1, none⟩ = some (.slice A n c) ∧ w'.cell? ⟨w.heap.size + 1, 0, none⟩ = some (.bool false) ∧ w'.cell? ⟨w.heap.size + 1, 1, none⟩ = some (.slice A' n' c') ∧ True := fun w' hw' => ⟨cellB hw' CX1, cellB hw' CX1', cellB hw' CX2, cellB hw' CX2', trivial⟩
      refine wp_regionT (S := fun w' => w'.cell? ⟨w.heap.size, 0, none⟩ = some (.bool false) ∧ w'.cell? ⟨w.heap.size, 1, none⟩ = some (.slice A n c) ∧ w'.cell? ⟨w.heap.size + 1, 0, none⟩ = some (.bool false) ∧ w'.cell? ⟨w.heap.size + 1, 1, none⟩ = some (.slice A' n' c') ∧ True) [] kR (by first | exact ⟨CSX1_1, CSX1'_1, CSX2_1, CSX2'_1, trivial⟩ | exact KP1 _ bW) (fun hHeld => ?_)
      have hbd1 : Below we1.heap.size we1 we1.drew := nxw (Below.refl _ _)
      generalize we1.drew = wd1 at hHeld hbd1 ⊢
      refine anyT_take (i := 0) (v := ?_) gO kR kR kR kR (by exact fun _ _ _ h => h) (Or.inl ⟨by rfl, ?_⟩) (by assumption) ?_
      rotate_left
      · intro w hSw; (try dsimp only at hSw); go_simp; try with_reducible rfl
      try simp only [Act.put, sX, sY, sZ]
      refine anyT_take (i := 1) (v := ?_) gO kR kR kR kR (by exact fun _ _ _ h => h) (Or.inl ⟨by rfl, ?_⟩) (by assumption) ?_
      rotate_left
      · intro w hSw; (try dsimp only at hSw); go_simp; try with_reducible rfl
      try simp only [Act.put, sX, sY, sZ]
      refine anyT_take (i := 2) (v := ?_) gO kR kR kR kR (by exact fun _ _ _ h => h) (Or.inl ⟨by rfl, ?_⟩) (by assumption) ?_
      rotate_left
      · intro w hSw; (try dsimp only at hSw); go_simp; try with_reducible rfl
      try simp only [Act.put, sX, sY, sZ]
      refine anyT_take (i := 3) (v := ?_) gO kR kR kR kR (by exact fun _ _ _ h => h) (Or.inl ⟨by rfl, ?_⟩) (by assumption) ?_
      rotate_left
      · intro w hSw; (try dsimp only at hSw); go_simp; try with_reducible rfl
      try simp only [Act.put, sX, sY, sZ]
      refine anyT_take (i := 4) (v := ?_) gO kR kR kR kR (by exact fun _ _ _ h => h) (Or.inl ⟨by rfl, ?_⟩) (by assumption) ?_
      rotate_left
      · intro w hSw; (try dsimp only at hSw); go_simp; try with_reducible rfl
      try simp only [Act.put, sX, sY, sZ]
      refine anyT_take (i := 5) (v := ?_) gO kR kR kR kR (by exact fun _ _ _ h => h) (Or.inl ⟨by rfl, ?_⟩) (by assumption) ?_
      rotate_left
      · intro w hSw; (try dsimp only at hSw); go_simp; try with_reducible rfl
      try simp only [Act.put, sX, sY, sZ]
      refine anyT_ready (rs := [6]) kR (by simp) (ReadyT.cons gO (fun K hK => ?_) ReadyT.nil)
      go_simp
      go_at_call 45
      (with_reducible refine (ref2_Add _ _ _ _ _ _ _ _ _ (h.to bW) (h'.to bW) (by omega) (by omega)).mono ?_)
      rintro e w1 ⟨A1, n1, c1, rfl, h1, hb1, hf1⟩
      go_simp
      refine hK.out _ _ (by first | exact ⟨CSX1_1, CSX1'_1, CSX2_1, CSX2'_1, trivial⟩ | exact KP1 _ bW) (fun hHeld => ?_)
      clear hK K
      try simp only [Act.put, sX, sY, sZ]
      refine anyT_ready (rs := [7]) kR (by simp) (ReadyT.cons gO (fun K hK => ?_) ReadyT.nil)
      go_simp
      go_at_call 22
      refine (ref7_New false _ _ _ (x.natAbs + y.natAbs) _ (h1.to bW)).mono ?_
      rw [HE.out]
      rintro e w2 ⟨A2, n2, c2, rfl, h2, hb2⟩
      go_simp
      refine hK.out _ _ (by first | exact ⟨CSX1_1, CSX1'_1, CSX2_1, CSX2'_1, trivial⟩ | exact KP1 _ bW) (fun hHeld => ?_)
      clear hK K
      try simp only [Act.put, sX, sY, sZ]
      refine anyT_ready (rs := [8]) kR (by simp) (ReadyT.cons gO (fun K hK => ?_) ReadyT.nil)
      have cqX3 := (show Blk2 w2 _ _ _ _ from X3.to bW).cell
      have cqX3' := (show Blk2 w2 _ _ _ _ from X3.to bW).cell1
      have fqX3 := (show Blk2 w2 _ _ _ _ from X3.to bW).free 0
      have fqX3' := (show Blk2 w2 _ _ _ _ from X3.to bW).free 1
      have CSX1_1 := (((show Blk2 w2 _ _ _ _ from X1.to bW).far (p := ⟨w.heap.size + 1 + 1, 0, none⟩) (by show w.heap.size ≠ w.heap.size + 1 + 1; omega) (.bool (bz (x + y)))).far (p := ⟨w.heap.size + 1 + 1, 1, none⟩) (by show w.heap.size ≠ w.heap.size + 1 + 1; omega) (.slice A2 n2 c2)).cell
      have CSX1'_1 := (((show Blk2 w2 _ _ _ _ from X1.to bW).far (p := ⟨w.heap.size + 1 + 1, 0, none⟩) (by show w.heap.size ≠ w.heap.size + 1 + 1; omega) (.bool (bz (x + y)))).far (p := ⟨w.heap.size + 1 + 1, 1, none⟩) (by show w.heap.size ≠ w.heap.size + 1 + 1; omega) (.slice A2 n2 c2)).cell1
      have CSX2_1 := (((show Blk2 w2 _ _ _ _ from X2.to bW).far (p := ⟨w.heap.size + 1 + 1, 0, none⟩) (by show w.heap.size + 1 ≠ w.heap.size + 1 + 1; omega) (.bool (bz (x + y)))).far (p := ⟨w.heap.size + 1 + 1, 1, none⟩) (by show w.heap.size + 1 ≠ w.heap.size + 1 + 1; omega) (.slice A2 n2 c2)).cell
      have CSX2'_1 := (((show Blk2 w2 _ _ _ _ from X2.to bW).far (p := ⟨w.heap.size + 1 + 1, 0, none⟩) (by show w.heap.size + 1 ≠ w.heap.size + 1 + 1; omega) (.bool (bz (x + y)))).far (p := ⟨w.heap.size + 1 + 1, 1, none⟩) (by show w.heap.size + 1 ≠ w.heap.size + 1 + 1; omega) (.slice A2 n2 c2)).cell1
      go_simp
      refine hK.out _ _ (by first | exact ⟨CSX1_1, CSX1'_1, CSX2_1, CSX2'_1, trivial⟩ | exact KP1 _ bW) (fun hHeld => ?_)
      clear hK K
      try simp only [Act.put, sX, sY, sZ]
      refine anyT_done kR ?_ _
      clear CSX1_1 CSX1'_1 CSX2_1 CSX2'_1
      clear hHeld cqX3 cqX3' fqX3' fqX3 CX1 CX1' CX2 CX2' KP1
      replace h := (show NumAt _ _ w2 _ _ _ _ from h.to bW)
      replace h' := (show NumAt _ _ w2 _ _ _ _ from h'.to bW)
      replace h1 := (show NumAt _ _ w2 _ _ _ _ from h1.to bW)
      replace h2 := (show NumAt _ _ w2 _ _ _ _ from h2.to bW)
      replace X1 := (show Blk2 w2 _ _ _ _ from X1.to bW)
      replace X2 := (show Blk2 w2 _ _ _ _ from X2.to bW)
      replace X3 := (show Blk2 w2 _ _ _ _ from X3.to bW)
      have hbws2 := below_put2 (show Below w.heap.size w w2 from bW) (g := w.heap.size + 1 + 1) (by show w.heap.size ≤ w.heap.size + 1 + 1; omega) (.bool (bz (x + y))) (.slice A2 n2 c2)
      replace h := h.put2 X3 (.bool (bz (x + y))) (.slice A2 n2 c2)
      replace h' := h'.put2 X3 (.bool (bz (x + y))) (.slice A2 n2 c2)
      replace h1 := h1.put2 X3 (.bool (bz (x + y))) (.slice A2 n2 c2)
      replace h2 := h2.put2 X3 (.bool (bz (x + y))) (.slice A2 n2 c2)
      replace X1 := X1.off2 (g := w.heap.size + 1 + 1) (by show w.heap.size ≠ w.heap.size + 1 + 1; omega) (.bool (bz (x + y))) (.slice A2 n2 c2)
      replace X2 := X2.off2 (g := w.heap.size + 1 + 1) (by show w.heap.size + 1 ≠ w.heap.size + 1 + 1; omega) (.bool (bz (x + y))) (.slice A2 n2 c2)
      replace X3 := X3.put2 (.bool (bz (x + y))) (.slice A2 n2 c2)
      rw [show (w2.setCell ⟨w.heap.size + 1 + 1, 0, none⟩ (.bool (bz (x + y)))).setCell ⟨w.heap.size + 1 + 1, 1, none⟩ (.slice A2 n2 c2) = put2 w2 (w.heap.size + 1 + 1) (.bool (bz (x + y))) (.slice A2 n2 c2) from rfl]
      generalize put2 w2 (w.heap.size + 1 + 1) (.bool (bz (x + y))) (.slice A2 n2 c2) = ws2 at h h' h1 h2 X1 X2 X3 hbws2 ⊢
      go_wp2_with fail
      have erX3 := (show Blk2 ws2 _ _ _ _ from X3.to bW).cell
      have erX3' := (show Blk2 ws2 _ _ _ _ from X3.to bW).cell1
      exact bodyPost_ret (v := .agg #[.bool (bz (x + y)), .slice A2 n2 c2]) (by simp [results, Try.results33, go_sem, erX3, erX3']) rfl ⟨_, _, _, rfl, (show NumAt _ _ ws2 _ _ _ _ from (h2.to bW)), (show Below w.heap.size w ws2 from bW)⟩
    case true =>
      by_cases hg : y.natAbs ≤ x.natAbs
      · have HE := Lib.hid (show sg false (x.natAbs - y.natAbs) = x + y by have := add_great (x := x) (y := y) (by rw [hx, hy]; decide) hg; rwa [hx] at this)
        have HG := Lib.hid (show x.natAbs = x.natAbs - y.natAbs + y.natAbs by omega)
        obtain ⟨v, hv, v0⟩ : ∃ v : Int, cmpI x.natAbs y.natAbs = v ∧ 0 ≤ v := ⟨_, rfl, by rcases Nat.lt_or_eq_of_le hg with h1 | h1; (rw [cmpI_gt h1]; decide); (rw [cmpI_eq h1.symm]; decide)⟩
        have HV := Lib.hid hv
        clear hx hy hg hv
        go_enter Try.func33, Try.ntmps33
        go_wp2_with fail
        have X1 := Blk2.newAt w (w.heap.size) 34 (.bool false) (.slice A n c) (by first | rfl | simp)
        have X2 := Blk2.newAt (w.alloc (.cells #[.bool false, .slice A n c] 34)) (w.heap.size + 1) 34 (.bool true) (.slice A' n' c') (by first | rfl | simp)
        have X3 := Blk2.newAt ((w.alloc (.cells #[.bool false, .slice A n c] 34)).alloc (.cells #[.bool true, .slice A' n' c'] 34)) (w.heap.size + 1 + 1) 34 (.bool false) (.slice none 0 0) (by first | rfl | simp)
        replace X1 := (show Blk2 (((w.alloc (.cells #[.bool false, .slice A n c] 34)).alloc (.cells #[.bool true, .slice A' n' c'] 34)).alloc (.cells #[.bool false, .slice none 0 0] 34)) _ _ _ _ from X1.to bW)
        replace X2 := (show Blk2 (((w.alloc (.cells #[.bool false, .slice A n c] 34)).alloc (.cells #[.bool true, .slice A' n' c'] 34)).alloc (.cells #[.bool false, .slice none 0 0] 34)) _ _ _ _ from X2.to bW)
        have hbwe1 : Below w.heap.size w (((w.alloc (.cells #[.bool false, .slice A n c] 34)).alloc (.cells #[.bool true, .slice A' n' c'] 34)).alloc (.cells #[.bool false, .slice none 0 0] 34)) := bW
        generalize (((w.alloc (.cells #[.bool false, .slice A n c] 34)).alloc (.cells #[.bool true, .slice A' n' c'] 34)).alloc (.cells #[.bool false, .slice none 0 0] 34)) = we1 at X1 X2 X3 hbwe1  ⊢
        refine (ref2_Cmp _ _ _ _ _ _ _ _ _ (h.to bW) (h'.to bW)).mono ?_
        rw [HV.out]
        rintro e w1 ⟨rfl, hb1⟩
        go_wp2_with fail
        have CX1 := (show Blk2 w1 _ _ _ _ from X1.to bW).cell
        have CX1' := (show Blk2 w1 _ _ _ _ from X1.to bW).cell1
        have CX2 := (show Blk2 w1 _ _ _ _ from X2.to bW).cell
        have CX2' := (show Blk2 w1 _ _ _ _ from X2.to bW).cell1
        have KP1 : ∀ w', Below w1.heap.size w1 w' → w'.cell? ⟨w.heap.size, 0, none⟩ = some (.bool false) ∧ w'.cell? ⟨w.heap.size, 1, none⟩ = some (.slice A n c) ∧ w'.cell? ⟨w.heap.size + 1, 0, none⟩ = some (.bool true) ∧ w'.cell? ⟨w.heap.size + 1, 1, none⟩ = some (.slice A' n' c') ∧ True := fun w' hw' => ⟨cellB hw' CX1, cellB hw' CX1', cellB hw' CX2, cellB hw' CX2', trivial⟩
        refine wp_regionT (S := fun w' => w'.cell? ⟨w.heap.size, 0, none⟩ = some (.bool false) ∧ w'.cell? ⟨w.heap.size, 1, none⟩ = some (.slice A n c) ∧ w'.cell? ⟨w.heap.size + 1, 0, none⟩ = some (.bool true) ∧ w'.cell? ⟨w.heap.size + 1, 1, none⟩ = some (.slice A' n' c') ∧ True) [] kR (by first | exact ⟨CSX1_1, CSX1'_1, CSX2_1, CSX2'_1, trivial⟩ | exact KP1 _ bW) (fun hHeld => ?_)
        have hbd1 : Below w1.heap.size w1 w1.drew := nxw (Below.refl _ _)
        generalize w1.drew = wd1 at hHeld hbd1 ⊢
        refine anyT_take (i := 0) (v := ?_) gO kR kR kR kR (by exact fun _ _ _ h => h) (Or.inl ⟨by rfl, ?_⟩) (by assumption) ?_
        rotate_left
        · intro w hSw; (try dsimp only at hSw); go_simp; try with_reducible rfl
        try simp only [Act.put, sX, sY, sZ]
        refine anyT_take (i := 1) (v := ?_) gO kR kR kR kR (by exact fun _ _ _ h => h) (Or.inl ⟨by rfl, ?_⟩) (by assumption) ?_
        rotate_left
        · intro w hSw; (try dsimp only at hSw); go_simp; try with_reducible rfl
        try simp only [Act.put, sX, sY, sZ]
        refine anyT_take (i := 2) (v := ?_) gO kR kR kR kR (by exact fun _ _ _ h => h) (Or.inl ⟨by rfl, ?_⟩) (by assumption) ?_
        rotate_left
        · intro w hSw; (try dsimp only at hSw); go_simp; try with_reducible rfl
        try simp only [Act.put, sX, sY, sZ]
        refine anyT_take (i := 3) (v := ?_) gO kR kR kR kR (by exact fun _ _ _ h => h) (Or.inl ⟨by rfl, ?_⟩) (by assumption) ?_
        rotate_left
        · intro w hSw; (try dsimp only at hSw); go_simp; try with_reducible rfl
        try simp only [Act.put, sX, sY, sZ]
        refine anyT_take (i := 4) (v := ?_) gO kR kR kR kR (by exact fun _ _ _ h => h) (Or.inl ⟨by rfl, ?_⟩) (by assumption) ?_
        rotate_left
        · intro w hSw; (try dsimp only at hSw); go_simp; try with_reducible rfl
        try simp only [Act.put, sX, sY, sZ]
        refine anyT_take (i := 5) (v := ?_) gO kR kR kR kR (by exact fun _ _ _ h => h) (Or.inl ⟨by rfl, ?_⟩) (by assumption) ?_
        rotate_left
        · intro w hSw; (try dsimp only at hSw); go_simp; try with_reducible rfl
        try simp only [Act.put, sX, sY, sZ]
        refine anyT_ready (rs := [6]) kR (by simp) (ReadyT.cons gO (fun K hK => ?_) ReadyT.nil)
        go_simp
        go_at_call 46
        (with_reducible refine (ref2_Sub _ _ _ ((x.natAbs - y.natAbs)) _ _ _ _ _ (show NumAt _ _ _ _ _ _ ((x.natAbs - y.natAbs) + y.natAbs) from HG.out ▸ (h.to bW)) (h'.to bW) (by omega)).mono ?_)
        rintro e w2 ⟨A2, n2, c2, rfl, h2, hb2, hf2⟩
        go_simp
        refine hK.out _ _ (by first | exact ⟨CSX1_1, CSX1'_1, CSX2_1, CSX2'_1, trivial⟩ | exact KP1 _ bW) (fun hHeld => ?_)
        clear hK K
        try simp only [Act.put, sX, sY, sZ]
        refine anyT_ready (rs := [7]) kR (by simp) (ReadyT.cons gO (fun K hK => ?_) ReadyT.nil)
        go_simp
        go_at_call 22
        refine (ref7_New false _ _ _ (x.natAbs - y.natAbs) _ (h2.to bW)).mono ?_
        rw [HE.out]
        rintro e w3 ⟨A3, n3, c3, rfl, h3, hb3⟩
        go_simp
        refine hK.out _ _ (by first | exact ⟨CSX1_1, CSX1'_1, CSX2_1, CSX2'_1, trivial⟩ | exact KP1 _ bW) (fun hHeld => ?_)
        clear hK K
        try simp only [Act.put, sX, sY, sZ]
        refine anyT_ready (rs := [8]) kR (by simp) (ReadyT.cons gO (fun K hK => ?_) ReadyT.nil)
        have cqX3 := (show Blk2 w3 _ _ _ _ from X3.to bW).cell
        have cqX3' := (show Blk2 w3 _ _ _ _ from X3.to bW).cell1
        have fqX3 := (show Blk2 w3 _ _ _ _ from X3.to bW).free 0
        have fqX3' := (show Blk2 w3 _ _ _ _ from X3.to bW).free 1
        have CSX1_1 := (((show Blk2 w3 _ _ _ _ from X1.to bW).far (p := ⟨w.heap.size + 1 + 1, 0, none⟩) (by show w.heap.size ≠ w.heap.size + 1 + 1; omega) (.bool (bz (x + y)))).far (p := ⟨w.heap.size + 1 + 1, 1, none⟩) (by show w.heap.size ≠ w.heap.size + 1 + 1; omega) (.slice A3 n3 c3)).cell
        have CSX1'_1 := (((show Blk2 w3 _ _ _ _ from X1.to bW).far (p := ⟨w.heap.size + 1 + 1, 0, none⟩) (by show w.heap.size ≠ w.heap.size + 1 + 1; omega) (.bool (bz (x + y)))).far (p := ⟨w.heap.size + 1 + 1, 1, none⟩) (by show w.heap.size ≠ w.heap.size + 1 + 1; omega) (.slice A3 n3 c3)).cell1
        have CSX2_1 := (((show Blk2 w3 _ _ _ _ from X2.to bW).far (p := ⟨w.heap.size + 1 + 1, 0, none⟩) (by show w.heap.size + 1 ≠ w.heap.size + 1 + 1; omega) (.bool (bz (x + y)))).far (p := ⟨w.heap.size + 1 + 1, 1, none⟩) (by show w.heap.size + 1 ≠ w.heap.size + 1 + 1; omega) (.slice A3 n3 c3)).cell
        have CSX2'_1 := (((show Blk2 w3 _ _ _ _ from X2.to bW).far (p := ⟨w.heap.size + 1 + 1, 0, none⟩) (by show w.heap.size + 1 ≠ w.heap.size + 1 + 1; omega) (.bool (bz (x + y)))).far (p := ⟨w.heap.size + 1 + 1, 1, none⟩) (by show w.heap.size + 1 ≠ w.heap.size + 1 + 1; omega) (.slice A3 n3 c3)).cell1
        go_simp
        refine hK.out _ _ (by first | exact ⟨CSX1_1, CSX1'_1, CSX2_1, CSX2'_1, trivial⟩ | exact KP1 _ bW) (fun hHeld => ?_)
        clear hK K
        try simp only [Act.put, sX, sY, sZ]
        refine anyT_done kR ?_ _
        clear CSX1_1 CSX1'_1 CSX2_1 CSX2'_1
        clear hHeld cqX3 cqX3' fqX3' fqX3 CX1 CX1' CX2 CX2' KP1
        replace h := (show NumAt _ _ w3 _ _ _ _ from h.to bW)
        replace h' := (show NumAt _ _ w3 _ _ _ _ from h'.to bW)
        replace h2 := (show NumAt _ _ w3 _ _ _ _ from h2.to bW)
        replace h3 := (show NumAt _ _ w3 _ _ _ _ from h3.to bW)
        replace X1 := (show Blk2 w3 _ _ _ _ from X1.to bW)
        replace X2 := (show Blk2 w3 _ _ _ _ from X2.to bW)
        replace X3 := (show Blk2 w3 _ _ _ _ from X3.to bW)
        have hbws2 := below_put2 (show Below w.heap.size w w3 from bW) (g := w.heap.size + 1 + 1) (by show w.heap.size ≤ w.heap.size + 1 + 1; omega) (.bool (bz (x + y))) (.slice A3 n3 c3)
        replace h := h.put2 X3 (.bool (bz (x + y))) (.slice A3 n3 c3)
        replace h' := h'.put2 X3 (.bool (bz (x + y))) (.slice A3 n3 c3)
        replace h2 := h2.put2 X3 (.bool (bz (x + y))) (.slice A3 n3 c3)
        replace h3 := h3.put2 X3 (.bool (bz (x + y))) (.slice A3 n3 c3)
        replace X1 := X1.off2 (g := w.heap.size + 1 + 1) (by show w.heap.size ≠ w.heap.size + 1 + 1; omega) (.bool (bz (x + y))) (.slice A3 n3 c3)
        replace X2 := X2.off2 (g := w.heap.size + 1 + 1) (by show w.heap.size + 1 ≠ w.heap.size + 1 + 1; omega) (.bool (bz (x + y))) (.slice A3 n3 c3)
        replace X3 := X3.put2 (.bool (bz (x + y))) (.slice A3 n3 c3)
        rw [show (w3.setCell ⟨w.heap.size + 1 + 1, 0, none⟩ (.bool (bz (x + y)))).setCell ⟨w.heap.size + 1 + 1, 1, none⟩ (.slice A3 n3 c3) = put2 w3 (w.heap.size + 1 + 1) (.bool (bz (x + y))) (.slice A3 n3 c3) from rfl]
        generalize put2 w3 (w.heap.size + 1 + 1) (.bool (bz (x + y))) (.slice A3 n3 c3) = ws2 at h h' h2 h3 X1 X2 X3 hbws2 ⊢
        go_wp2_with fail
        have erX3 := (show Blk2 ws2 _ _ _ _ from X3.to bW).cell
        have erX3' := (show Blk2 ws2 _ _ _ _ from X3.to bW).cell1
        exact bodyPost_ret (v := .agg #[.bool (bz (x + y)), .slice A3 n3 c3]) (by simp [results, Try.results33, go_sem, erX3, erX3']) rfl ⟨_, _, _, rfl, (show NumAt _ _ ws2 _ _ _ _ from (h3.to bW)), (show Below w.heap.size w ws2 from bW)⟩
      · have HE := Lib.hid (show sg true (y.natAbs - x.natAbs) = x + y by have := add_less (x := x) (y := y) (by rw [hx, hy]; decide) (by omega); rwa [hy] at this)
        have HG := Lib.hid (show y.natAbs = y.natAbs - x.natAbs + x.natAbs by omega)
        obtain ⟨v, hv, v0⟩ : ∃ v : Int, cmpI x.natAbs y.natAbs = v ∧ ¬ 0 ≤ v := ⟨_, rfl, by rw [cmpI_lt (by omega)]; decide⟩
        have HV := Lib.hid hv
        clear hx hy hg hv
        go_enter Try.func33, Try.ntmps33
        go_wp2_with fail
        have X1 := Blk2.newAt w (w.heap.size) 34 (.bool false) (.slice A n c) (by first | rfl | simp)
        have X2 := Blk2.newAt (w.alloc (.cells #[.bool false, .slice A n c] 34)) (w.heap.size + 1) 34 (.bool true) (.slice A' n' c') (by first | rfl | simp)
        have X3 := Blk2.newAt ((w.alloc (.cells #[.bool false, .slice A n c] 34)).alloc (.cells #[.bool true, .slice A' n' c'] 34)) (w.heap.size + 1 + 1) 34 (.bool false) (.slice none 0 0) (by first | rfl | simp)
        replace X1 := (show Blk2 (((w.alloc (.cells #[.bool false, .slice A n c] 34)).alloc (.cells #[.bool true, .slice A' n' c'] 34)).alloc (.cells #[.bool false, .slice none 0 0] 34)) _ _ _ _ from X1.to bW)
        replace X2 := (show Blk2 (((w.alloc (.cells #[.bool false, .slice A n c] 34)).alloc (.cells #[.bool true, .slice A' n' c'] 34)).alloc (.cells #[.bool false, .slice none 0 0] 34)) _ _ _ _ from X2.to bW)
        have hbwe1 : Below w.heap.size w (((w.alloc (.cells #[.bool false, .slice A n c] 34)).alloc (.cells #[.bool true, .slice A' n' c'] 34)).alloc (.cells #[.bool false, .slice none 0 0] 34)) := bW
        generalize (((w.alloc (.cells #[.bool false, .slice A n c] 34)).alloc (.cells #[.bool true, .slice A' n' c'] 34)).alloc (.cells #[.bool false, .slice none 0 0] 34)) = we1 at X1 X2 X3 hbwe1  ⊢
        refine (ref2_Cmp _ _ _ _ _ _ _ _ _ (h.to bW) (h'.to bW)).mono ?_
        rw [HV.out]
        rintro e w1 ⟨rfl, hb1⟩
        go_wp2_with fail
        have CX2 := (show Blk2 w1 _ _ _ _ from X2.to bW).cell
        have CX2' := (show Blk2 w1 _ _ _ _ from X2.to bW).cell1
        have CX1 := (show Blk2 w1 _ _ _ _ from X1.to bW).cell
        have CX1' := (show Blk2 w1 _ _ _ _ from X1.to bW).cell1
        have KP1 : ∀ w', Below w1.heap.size w1 w' → w'.cell? ⟨w.heap.size + 1, 0, none⟩ = some (.bool true) ∧ w'.cell? ⟨w.heap.size + 1, 1, none⟩ = some (.slice A' n' c') ∧ w'.cell? ⟨w.heap.size, 0, none⟩ = some (.bool false) ∧ w'.cell? ⟨w.heap.size, 1, none⟩ = some (.slice A n c) ∧ True := fun w' hw' => ⟨cellB hw' CX2, cellB hw' CX2', cellB hw' CX1, cellB hw' CX1', trivial⟩
        refine wp_regionT (S := fun w' => w'.cell? ⟨w.heap.size + 1, 0, none⟩ = some (.bool true) ∧ w'.cell? ⟨w.heap.size + 1, 1, none⟩ = some (.slice A' n' c') ∧ w'.cell? ⟨w.heap.size, 0, none⟩ = some (.bool false) ∧ w'.cell? ⟨w.heap.size, 1, none⟩ = some (.slice A n c) ∧ True) [] kR (by first | exact ⟨CSX2_1, CSX2'_1, CSX1_1, CSX1'_1, trivial⟩ | exact KP1 _ bW) (fun hHeld => ?_)
        have hbd1 : Below w1.heap.size w1 w1.drew := nxw (Below.refl _ _)
        generalize w1.drew = wd1 at hHeld hbd1 ⊢
        refine anyT_take (i := 0) (v := ?_) gO kR kR kR kR (by exact fun _ _ _ h => h) (Or.inl ⟨by rfl, ?_⟩) (by assumption) ?_
        rotate_left
        · intro w hSw; (try dsimp only at hSw); go_simp; try with_reducible rfl
        try simp only [Act.put, sX, sY, sZ]
        refine anyT_take (i := 1) (v := ?_) gO kR kR kR kR (by exact fun _ _ _ h => h) (Or.inl ⟨by rfl, ?_⟩) (by assumption) ?_
        rotate_left
        · intro w hSw; (try dsimp only at hSw); go_simp; try with_reducible rfl
        try simp only [Act.put, sX, sY, sZ]
        refine anyT_take (i := 2) (v := ?_) gO kR kR kR kR (by exact fun _ _ _ h => h) (Or.inl ⟨by rfl, ?_⟩) (by assumption) ?_
        rotate_left
        · intro w hSw; (try dsimp only at hSw); go_simp; try with_reducible rfl
        try simp only [Act.put, sX, sY, sZ]
        refine anyT_take (i := 3) (v := ?_) gO kR kR kR kR (by exact fun _ _ _ h => h) (Or.inl ⟨by rfl, ?_⟩) (by assumption) ?_
        rotate_left
        · intro w hSw; (try dsimp only at hSw); go_simp; try with_reducible rfl
        try simp only [Act.put, sX, sY, sZ]
        refine anyT_take (i := 4) (v := ?_) gO kR kR kR kR (by exact fun _ _ _ h => h) (Or.inl ⟨by rfl, ?_⟩) (by assumption) ?_
        rotate_left
        · intro w hSw; (try dsimp only at hSw); go_simp; try with_reducible rfl
        try simp only [Act.put, sX, sY, sZ]
        refine anyT_take (i := 5) (v := ?_) gO kR kR kR kR (by exact fun _ _ _ h => h) (Or.inl ⟨by rfl, ?_⟩) (by assumption) ?_
        rotate_left
        · intro w hSw; (try dsimp only at hSw); go_simp; try with_reducible rfl
        try simp only [Act.put, sX, sY, sZ]
        refine anyT_ready (rs := [6]) kR (by simp) (ReadyT.cons gO (fun K hK => ?_) ReadyT.nil)
        go_simp
        go_at_call 46
        (with_reducible refine (ref2_Sub _ _ _ ((y.natAbs - x.natAbs)) _ _ _ _ _ (show NumAt _ _ _ _ _ _ ((y.natAbs - x.natAbs) + x.natAbs) from HG.out ▸ (h'.to bW)) (h.to bW) (by omega)).mono ?_)
        rintro e w2 ⟨A2, n2, c2, rfl, h2, hb2, hf2⟩
        go_simp
        refine hK.out _ _ (by first | exact ⟨CSX2_1, CSX2'_1, CSX1_1, CSX1'_1, trivial⟩ | exact KP1 _ bW) (fun hHeld => ?_)
        clear hK K
        try simp only [Act.put, sX, sY, sZ]
        refine anyT_ready (rs := [7]) kR (by simp) (ReadyT.cons gO (fun K hK => ?_) ReadyT.nil)
        go_simp
        go_at_call 22
        refine (ref7_New true _ _ _ (y.natAbs - x.natAbs) _ (h2.to bW)).mono ?_
        rw [HE.out]
        rintro e w3 ⟨A3, n3, c3, rfl, h3, hb3⟩
        go_simp
        refine hK.out _ _ (by first | exact ⟨CSX2_1, CSX2'_1, CSX1_1, CSX1'_1, trivial⟩ | exact KP1 _ bW) (fun hHeld => ?_)
        clear hK K
        try simp only [Act.put, sX, sY, sZ]
        refine anyT_ready (rs := [8]) kR (by simp) (ReadyT.cons gO (fun K hK => ?_) ReadyT.nil)
        have cqX3 := (show Blk2 w3 _ _ _ _ from X3.to bW).cell
        have cqX3' := (show Blk2 w3 _ _ _ _ from X3.to bW).cell1
        have fqX3 := (show Blk2 w3 _ _ _ _ from X3.to bW).free 0
        have fqX3' := (show Blk2 w3 _ _ _ _ from X3.to bW).free 1
        have CSX2_1 := (((show Blk2 w3 _ _ _ _ from X2.to bW).far (p := ⟨w.heap.size + 1 + 1, 0, none⟩) (by show w.heap.size + 1 ≠ w.heap.size + 1 + 1; omega) (.bool (bz (x + y)))).far (p := ⟨w.heap.size + 1 + 1, 1, none⟩) (by show w.heap.size + 1 ≠ w.heap.size + 1 + 1; omega) (.slice A3 n3 c3)).cell
        have CSX2'_1 := (((show Blk2 w3 _ _ _ _ from X2.to bW).far (p := ⟨w.heap.size + 1 + 1, 0, none⟩) (by show w.heap.size + 1 ≠ w.heap.size + 1 + 1; omega) (.bool (bz (x + y)))).far (p := ⟨w.heap.size + 1 + 1, 1, none⟩) (by show w.heap.size + 1 ≠ w.heap.size + 1 + 1; omega) (.slice A3 n3 c3)).cell1
        have CSX1_1 := (((show Blk2 w3 _ _ _ _ from X1.to bW).far (p := ⟨w.heap.size + 1 + 1, 0, none⟩) (by show w.heap.size ≠ w.heap.size + 1 + 1; omega) (.bool (bz (x + y)))).far (p := ⟨w.heap.size + 1 + 1, 1, none⟩) (by show w.heap.size ≠ w.heap.size + 1 + 1; omega) (.slice A3 n3 c3)).cell
        have CSX1'_1 := (((show Blk2 w3 _ _ _ _ from X1.to bW).far (p := ⟨w.heap.size + 1 + 1, 0, none⟩) (by show w.heap.size ≠ w.heap.size + 1 + 1; omega) (.bool (bz (x + y)))).far (p := ⟨w.heap.size + 1 + 1, 1, none⟩) (by show w.heap.size ≠ w.heap.size + 1 + 1; omega) (.slice A3 n3 c3)).cell1
        go_simp
        refine hK.out _ _ (by first | exact ⟨CSX2_1, CSX2'_1, CSX1_1, CSX1'_1, trivial⟩ | exact KP1 _ bW) (fun hHeld => ?_)
        clear hK K
        try simp only [Act.put, sX, sY, sZ]
        refine anyT_done kR ?_ _
        clear CSX2_1 CSX2'_1 CSX1_1 CSX1'_1
        clear hHeld cqX3 cqX3' fqX3' fqX3 CX2 CX2' CX1 CX1' KP1
        replace h := (show NumAt _ _ w3 _ _ _ _ from h.to bW)
        replace h' := (show NumAt _ _ w3 _ _ _ _ from h'.to bW)
        replace h2 := (show NumAt _ _ w3 _ _ _ _ from h2.to bW)
        replace h3 := (show NumAt _ _ w3 _ _ _ _ from h3.to bW)
        replace X1 := (show Blk2 w3 _ _ _ _ from X1.to bW)
        replace X2 := (show Blk2 w3 _ _ _ _ from X2.to bW)
        replace X3 := (show Blk2 w3 _ _ _ _ from X3.to bW)
        have hbws2 := below_put2 (show Below w.heap.size w w3 from bW) (g := w.heap.size + 1 + 1) (by show w.heap.size ≤ w.heap.size + 1 + 1; omega) (.bool (bz (x + y))) (.slice A3 n3 c3)
        replace h := h.put2 X3 (.bool (bz (x + y))) (.slice A3 n3 c3)
        replace h' := h'.put2 X3 (.bool (bz (x + y))) (.slice A3 n3 c3)
        replace h2 := h2.put2 X3 (.bool (bz (x + y))) (.slice A3 n3 c3)
        replace h3 := h3.put2 X3 (.bool (bz (x + y))) (.slice A3 n3 c3)
        replace X1 := X1.off2 (g := w.heap.size + 1 + 1) (by show w.heap.size ≠ w.heap.size + 1 + 1; omega) (.bool (bz (x + y))) (.slice A3 n3 c3)
        replace X2 := X2.off2 (g := w.heap.size + 1 + 1) (by show w.heap.size + 1 ≠ w.heap.size + 1 + 1; omega) (.bool (bz (x + y))) (.slice A3 n3 c3)
        replace X3 := X3.put2 (.bool (bz (x + y))) (.slice A3 n3 c3)
        rw [show (w3.setCell ⟨w.heap.size + 1 + 1, 0, none⟩ (.bool (bz (x + y)))).setCell ⟨w.heap.size + 1 + 1, 1, none⟩ (.slice A3 n3 c3) = put2 w3 (w.heap.size + 1 + 1) (.bool (bz (x + y))) (.slice A3 n3 c3) from rfl]
        generalize put2 w3 (w.heap.size + 1 + 1) (.bool (bz (x + y))) (.slice A3 n3 c3) = ws2 at h h' h2 h3 X1 X2 X3 hbws2 ⊢
        go_wp2_with fail
        have erX3 := (show Blk2 ws2 _ _ _ _ from X3.to bW).cell
        have erX3' := (show Blk2 ws2 _ _ _ _ from X3.to bW).cell1
        exact bodyPost_ret (v := .agg #[.bool (bz (x + y)), .slice A3 n3 c3]) (by simp [results, Try.results33, go_sem, erX3, erX3']) rfl ⟨_, _, _, rfl, (show NumAt _ _ ws2 _ _ _ _ from (h3.to bW)), (show Below w.heap.size w ws2 from bW)⟩
  case true =>
    cases hy : bz y
    case false =>
      by_cases hg : y.natAbs ≤ x.natAbs
      · have HE := Lib.hid (show sg true (x.natAbs - y.natAbs) = x + y by have := add_great (x := x) (y := y) (by rw [hx, hy]; decide) hg; rwa [hx] at this)
        have HG := Lib.hid (show x.natAbs = x.natAbs - y.natAbs + y.natAbs by omega)
        obtain ⟨v, hv, v0⟩ : ∃ v : Int, cmpI x.natAbs y.natAbs = v ∧ 0 ≤ v := ⟨_, rfl, by rcases Nat.lt_or_eq_of_le hg with h1 | h1; (rw [cmpI_gt h1]; decide); (rw [cmpI_eq h1.symm]; decide)⟩
        have HV := Lib.hid hv
        clear hx hy hg hv
        go_enter Try.func33, Try.ntmps33
        go_wp2_with fail
        have X1 := Blk2.newAt w (w.heap.size) 34 (.bool true) (.slice A n c) (by first | rfl | simp)
        have X2 := Blk2.newAt (w.alloc (.cells #[.bool true, .slice A n c] 34)) (w.heap.size + 1) 34 (.bool false) (.slice A' n' c') (by first | rfl | simp)
        have X3 := Blk2.newAt ((w.alloc (.cells #[.bool true, .slice A n c] 34)).alloc (.cells #[.bool false, .slice A' n' c'] 34)) (w.heap.size + 1 + 1) 34 (.bool false) (.slice none 0 0) (by first | rfl | simp)
        replace X1 := (show Blk2 (((w.alloc (.cells #[.bool true, .slice A n c] 34)).alloc (.cells #[.bool false, .slice A' n' c'] 34)).alloc (.cells #[.bool false, .slice none 0 0] 34)) _ _ _ _ from X1.to bW)
        replace X2 := (show Blk2 (((w.alloc (.cells #[.bool true, .slice A n c] 34)).alloc (.cells #[.bool false, .slice A' n' c'] 34)).alloc (.cells #[.bool false, .slice none 0 0] 34)) _ _ _ _ from X2.to bW)
        have hbwe1 : Below w.heap.size w (((w.alloc (.cells #[.bool true, .slice A n c] 34)).alloc (.cells #[.bool false, .slice A' n' c'] 34)).alloc (.cells #[.bool false, .slice none 0 0] 34)) := bW
        generalize (((w.alloc (.cells #[.bool true, .slice A n c] 34)).alloc (.cells #[.bool false, .slice A' n' c'] 34)).alloc (.cells #[.bool false, .slice none 0 0] 34)) = we1 at X1 X2 X3 hbwe1  ⊢
        refine (ref2_Cmp _ _ _ _ _ _ _ _ _ (h.to bW) (h'.to bW)).mono ?_
        rw [HV.out]
        rintro e w1 ⟨rfl, hb1⟩
        go_wp2_with fail
        have CX1 := (show Blk2 w1 _ _ _ _ from X1.to bW).cell
        have CX1' := (show Blk2 w1 _ _ _ _ from X1.to bW).cell1
        have CX2 := (show Blk2 w1 _ _ _ _ from X2.to bW).cell
        have CX2' := (show Blk2 w1 _ _ _ _ from X2.to bW).cell1
        have KP1 : ∀ w', Below w1.heap.size w1 w' → w'.cell? ⟨w.heap.size, 0, none⟩ = some (.bool true) ∧ w'.cell? ⟨w.heap.size, 1, none⟩ = some (.slice A n c) ∧ w'.cell? ⟨w.heap.size + 1, 0, none⟩ = some (.bool false) ∧ w'.cell? ⟨w.heap.size + 1, 1, none⟩ = some (.slice A' n' c') ∧ True := fun w' hw' => ⟨cellB hw' CX1, cellB hw' CX1', cellB hw' CX2, cellB hw' CX2', trivial⟩
        refine wp_regionT (S := fun w' => w'.cell? ⟨w.heap.size, 0, none⟩ = some (.bool true) ∧ w'.cell? ⟨w.heap.size, 1, none⟩ = some (.slice A n c) ∧ w'.cell? ⟨w.heap.size + 1, 0, none⟩ = some (.bool false) ∧ w'.cell? ⟨w.heap.size + 1, 1, none⟩ = some (.slice A' n' c') ∧ True) [] kR (by first | exact ⟨CSX1_1, CSX1'_1, CSX2_1, CSX2'_1, trivial⟩ | exact KP1 _ bW) (fun hHeld => ?_)
        have hbd1 : Below w1.heap.size w1 w1.drew := nxw (Below.refl _ _)
        generalize w1.drew = wd1 at hHeld hbd1 ⊢
        refine anyT_take (i := 0) (v := ?_) gO kR kR kR kR (by exact fun _ _ _ h => h) (Or.inl ⟨by rfl, ?_⟩) (by assumption) ?_
        rotate_left
        · intro w hSw; (try dsimp only at hSw); go_simp; try with_reducible rfl
        try simp only [Act.put, sX, sY, sZ]
        refine anyT_take (i := 1) (v := ?_) gO kR kR kR kR (by exact fun _ _ _ h => h) (Or.inl ⟨by rfl, ?_⟩) (by assumption) ?_
        rotate_left
        · intro w hSw; (try dsimp only at hSw); go_simp; try with_reducible rfl
        try simp only [Act.put, sX, sY, sZ]
        refine anyT_take (i := 2) (v := ?_) gO kR kR kR kR (by exact fun _ _ _ h => h) (Or.inl ⟨by rfl, ?_⟩) (by assumption) ?_
        rotate_left
        · intro w hSw; (try dsimp only at hSw); go_simp; try with_reducible rfl
        try simp only [Act.put, sX, sY, sZ]
        refine anyT_take (i := 3) (v := ?_) gO kR kR kR kR (by exact fun _ _ _ h => h) (Or.inl ⟨by rfl, ?_⟩) (by assumption) ?_
        rotate_left
        · intro w hSw; (try dsimp only at hSw); go_simp; try with_reducible rfl
        try simp only [Act.put, sX, sY, sZ]
        refine anyT_take (i := 4) (v := ?_) gO kR kR kR kR (by exact fun _ _ _ h => h) (Or.inl ⟨by rfl, ?_⟩) (by assumption) ?_
        rotate_left
        · intro w hSw; (try dsimp only at hSw); go_simp; try with_reducible rfl
        try simp only [Act.put, sX, sY, sZ]
        refine anyT_take (i := 5) (v := ?_) gO kR kR kR kR (by exact fun _ _ _ h => h) (Or.inl ⟨by rfl, ?_⟩) (by assumption) ?_
        rotate_left
        · intro w hSw; (try dsimp only at hSw); go_simp; try with_reducible rfl
        try simp only [Act.put, sX, sY, sZ]
        refine anyT_ready (rs := [6]) kR (by simp) (ReadyT.cons gO (fun K hK => ?_) ReadyT.nil)
        go_simp
        go_at_call 46
        (with_reducible refine (ref2_Sub _ _ _ ((x.natAbs - y.natAbs)) _ _ _ _ _ (show NumAt _ _ _ _ _ _ ((x.natAbs - y.natAbs) + y.natAbs) from HG.out ▸ (h.to bW)) (h'.to bW) (by omega)).mono ?_)
        rintro e w2 ⟨A2, n2, c2, rfl, h2, hb2, hf2⟩
        go_simp
        refine hK.out _ _ (by first | exact ⟨CSX1_1, CSX1'_1, CSX2_1, CSX2'_1, trivial⟩ | exact KP1 _ bW) (fun hHeld => ?_)
        clear hK K
        try simp only [Act.put, sX, sY, sZ]
        refine anyT_ready (rs := [7]) kR (by simp) (ReadyT.cons gO (fun K hK => ?_) ReadyT.nil)
        go_simp
        go_at_call 22
        refine (ref7_New true _ _ _ (x.natAbs - y.natAbs) _ (h2.to bW)).mono ?_
        rw [HE.out]
        rintro e w3 ⟨A3, n3, c3, rfl, h3, hb3⟩
        go_simp
        refine hK.out _ _ (by first | exact ⟨CSX1_1, CSX1'_1, CSX2_1, CSX2'_1, trivial⟩ | exact KP1 _ bW) (fun hHeld => ?_)
        clear hK K
        try simp only [Act.put, sX, sY, sZ]
        refine anyT_ready (rs := [8]) kR (by simp) (ReadyT.cons gO (fun K hK => ?_) ReadyT.nil)
        have cqX3 := (show Blk2 w3 _ _ _ _ from X3.to bW).cell
        have cqX3' := (show Blk2 w3 _ _ _ _ from X3.to bW).cell1
        have fqX3 := (show Blk2 w3 _ _ _ _ from X3.to bW).free 0
        have fqX3' := (show Blk2 w3 _ _ _ _ from X3.to bW).free 1
        have CSX1_1 := (((show Blk2 w3 _ _ _ _ from X1.to bW).far (p := ⟨w.heap.size + 1 + 1, 0, none⟩) (by show w.heap.size ≠ w.heap.size + 1 + 1; omega) (.bool (bz (x + y)))).far (p := ⟨w.heap.size + 1 + 1, 1, none⟩) (by show w.heap.size ≠ w.heap.size + 1 + 1; omega) (.slice A3 n3 c3)).cell
        have CSX1'_1 := (((show Blk2 w3 _ _ _ _ from X1.to bW).far (p := ⟨w.heap.size + 1 + 1, 0, none⟩) (by show w.heap.size ≠ w.heap.size + 1 + 1; omega) (.bool (bz (x + y)))).far (p := ⟨w.heap.size + 1 + 1, 1, none⟩) (by show w.heap.size ≠ w.heap.size + 1 + 1; omega) (.slice A3 n3 c3)).cell1
        have CSX2_1 := (((show Blk2 w3 _ _ _ _ from X2.to bW).far (p := ⟨w.heap.size + 1 + 1, 0, none⟩) (by show w.heap.size + 1 ≠ w.heap.size + 1 + 1; omega) (.bool (bz (x + y)))).far (p := ⟨w.heap.size + 1 + 1, 1, none⟩) (by show w.heap.size + 1 ≠ w.heap.size + 1 + 1; omega) (.slice A3 n3 c3)).cell
        have CSX2'_1 := (((show Blk2 w3 _ _ _ _ from X2.to bW).far (p := ⟨w.heap.size + 1 + 1, 0, none⟩) (by show w.heap.size + 1 ≠ w.heap.size + 1 + 1; omega) (.bool (bz (x + y)))).far (p := ⟨w.heap.size + 1 + 1, 1, none⟩) (by show w.heap.size + 1 ≠ w.heap.size + 1 + 1; omega) (.slice A3 n3 c3)).cell1
        go_simp
        refine hK.out _ _ (by first | exact ⟨CSX1_1, CSX1'_1, CSX2_1, CSX2'_1, trivial⟩ | exact KP1 _ bW) (fun hHeld => ?_)
        clear hK K
        try simp only [Act.put, sX, sY, sZ]
        refine anyT_done kR ?_ _
        clear CSX1_1 CSX1'_1 CSX2_1 CSX2'_1
        clear hHeld cqX3 cqX3' fqX3' fqX3 CX1 CX1' CX2 CX2' KP1
        replace h := (show NumAt _ _ w3 _ _ _ _ from h.to bW)
        replace h' := (show NumAt _ _ w3 _ _ _ _ from h'.to bW)
        replace h2 := (show NumAt _ _ w3 _ _ _ _ from h2.to bW)
        replace h3 := (show NumAt _ _ w3 _ _ _ _ from h3.to bW)
        replace X1 := (show Blk2 w3 _ _ _ _ from X1.to bW)
        replace X2 := (show Blk2 w3 _ _ _ _ from X2.to bW)
        replace X3 := (show Blk2 w3 _ _ _ _ from X3.to bW)
        have hbws2 := below_put2 (show Below w.heap.size w w3 from bW) (g := w.heap.size + 1 + 1) (by show w.heap.size ≤ w.heap.size + 1 + 1; omega) (.bool (bz (x + y))) (.slice A3 n3 c3)
        replace h := h.put2 X3 (.bool (bz (x + y))) (.slice A3 n3 c3)
        replace h' := h'.put2 X3 (.bool (bz (x + y))) (.slice A3 n3 c3)
        replace h2 := h2.put2 X3 (.bool (bz (x + y))) (.slice A3 n3 c3)
        replace h3 := h3.put2 X3 (.bool (bz (x + y))) (.slice A3 n3 c3)
        replace X1 := X1.off2 (g := w.heap.size + 1 + 1) (by show w.heap.size ≠ w.heap.size + 1 + 1; omega) (.bool (bz (x + y))) (.slice A3 n3 c3)
        replace X2 := X2.off2 (g := w.heap.size + 1 + 1) (by show w.heap.size + 1 ≠ w.heap.size + 1 + 1; omega) (.bool (bz (x + y))) (.slice A3 n3 c3)
        replace X3 := X3.put2 (.bool (bz (x + y))) (.slice A3 n3 c3)
        rw [show (w3.setCell ⟨w.heap.size + 1 + 1, 0, none⟩ (.bool (bz (x + y)))).setCell ⟨w.heap.size + 1 + 1, 1, none⟩ (.slice A3 n3 c3) = put2 w3 (w.heap.size + 1 + 1) (.bool (bz (x + y))) (.slice A3 n3 c3) from rfl]
        generalize put2 w3 (w.heap.size + 1 + 1) (.bool (bz (x + y))) (.slice A3 n3 c3) = ws2 at h h' h2 h3 X1 X2 X3 hbws2 ⊢
        go_wp2_with fail
        have erX3 := (show Blk2 ws2 _ _ _ _ from X3.to bW).cell
        have erX3' := (show Blk2 ws2 _ _ _ _ from X3.to bW).cell1
        exact bodyPost_ret (v := .agg #[.bool (bz (x + y)), .slice A3 n3 c3]) (by simp [results, Try.results33, go_sem, erX3, erX3']) rfl ⟨_, _, _, rfl, (show NumAt _ _ ws2 _ _ _ _ from (h3.to bW)), (show Below w.heap.size w ws2 from bW)⟩
      · have HE := Lib.hid (show sg false (y.natAbs - x.natAbs) = x + y by have := add_less (x := x) (y := y) (by rw [hx, hy]; decide) (by omega); rwa [hy] at this)
        have HG := Lib.hid (show y.natAbs = y.natAbs - x.natAbs + x.natAbs by omega)
        obtain ⟨v, hv, v0⟩ : ∃ v : Int, cmpI x.natAbs y.natAbs = v ∧ ¬ 0 ≤ v := ⟨_, rfl, by rw [cmpI_lt (by omega)]; decide⟩
        have HV := Lib.hid hv
        clear hx hy hg hv
        go_enter Try.func33, Try.ntmps33
        go_wp2_with fail
        have X1 := Blk2.newAt w (w.heap.size) 34 (.bool true) (.slice A n c) (by first | rfl | simp)
        have X2 := Blk2.newAt (w.alloc (.cells #[.bool true, .slice A n c] 34)) (w.heap.size + 1) 34 (.bool false) (.slice A' n' c') (by first | rfl | simp)
        have X3 := Blk2.newAt ((w.alloc (.cells #[.bool true, .slice A n c] 34)).alloc (.cells #[.bool false, .slice A' n' c'] 34)) (w.heap.size + 1 + 1) 34 (.bool false) (.slice none 0 0) (by first | rfl | simp)
        replace X1 := (show Blk2 (((w.alloc (.cells #[.bool true, .slice A n c] 34)).alloc (.cells #[.bool false, .slice A' n' c'] 34)).alloc (.cells #[.bool false, .slice none 0 0] 34)) _ _ _ _ from X1.to bW)
        replace X2 := (show Blk2 (((w.alloc (.cells #[.bool true, .slice A n c] 34)).alloc (.cells #[.bool false, .slice A' n' c'] 34)).alloc (.cells #[.bool false, .slice none 0 0] 34)) _ _ _ _ from X2.to bW)
        have hbwe1 : Below w.heap.size w (((w.alloc (.cells #[.bool true, .slice A n c] 34)).alloc (.cells #[.bool false, .slice A' n' c'] 34)).alloc (.cells #[.bool false, .slice none 0 0] 34)) := bW
        generalize (((w.alloc (.cells #[.bool true, .slice A n c] 34)).alloc (.cells #[.bool false, .slice A' n' c'] 34)).alloc (.cells #[.bool false, .slice none 0 0] 34)) = we1 at X1 X2 X3 hbwe1  ⊢
        refine (ref2_Cmp _ _ _ _ _ _ _ _ _ (h.to bW) (h'.to bW)).mono ?_
        rw [HV.out]
        rintro e w1 ⟨rfl, hb1⟩
        go_wp2_with fail
        have CX2 := (show Blk2 w1 _ _ _ _ from X2.to bW).cell
        have CX2' := (show Blk2 w1 _ _ _ _ from X2.to bW).cell1
        have CX1 := (show Blk2 w1 _ _ _ _ from X1.to bW).cell
        have CX1' := (show Blk2 w1 _ _ _ _ from X1.to bW).cell1
        have KP1 : ∀ w', Below w1.heap.size w1 w' → w'.cell? ⟨w.heap.size + 1, 0, none⟩ = some (.bool false) ∧ w'.cell? ⟨w.heap.size + 1, 1, none⟩ = some (.slice A' n' c') ∧ w'.cell? ⟨w.heap.size, 0, none⟩ = some (.bool true) ∧ w'.cell? ⟨w.heap.size, 1, none⟩ = some (.slice A n c) ∧ True := fun w' hw' => ⟨cellB hw' CX2, cellB hw' CX2', cellB hw' CX1, cellB hw' CX1', trivial⟩
        refine wp_regionT (S := fun w' => w'.cell? ⟨w.heap.size + 1, 0, none⟩ = some (.bool false) ∧ w'.cell? ⟨w.heap.size + 1, 1, none⟩ = some (.slice A' n' c') ∧ w'.cell? ⟨w.heap.size, 0, none⟩ = some (.bool true) ∧ w'.cell? ⟨w.heap.size, 1, none⟩ = some (.slice A n c) ∧ True) [] kR (by first | exact ⟨CSX2_1, CSX2'_1, CSX1_1, CSX1'_1, trivial⟩ | exact KP1 _ bW) (fun hHeld => ?_)
        have hbd1 : Below w1.heap.size w1 w1.drew := nxw (Below.refl _ _)
        generalize w1.drew = wd1 at hHeld hbd1 ⊢
        refine anyT_take (i := 0) (v := ?_) gO kR kR kR kR (by exact fun _ _ _ h => h) (Or.inl ⟨by rfl, ?_⟩) (by assumption) ?_
        rotate_left
        · intro w hSw; (try dsimp only at hSw); go_simp; try with_reducible rfl
        try simp only [Act.put, sX, sY, sZ]
        refine anyT_take (i := 1) (v := ?_) gO kR kR kR kR (by exact fun _ _ _ h => h) (Or.inl ⟨by rfl, ?_⟩) (by assumption) ?_
        rotate_left
        · intro w hSw; (try dsimp only at hSw); go_simp; try with_reducible rfl
        try simp only [Act.put, sX, sY, sZ]
        refine anyT_take (i := 2) (v := ?_) gO kR kR kR kR (by exact fun _ _ _ h => h) (Or.inl ⟨by rfl, ?_⟩) (by assumption) ?_
        rotate_left
        · intro w hSw; (try dsimp only at hSw); go_simp; try with_reducible rfl
        try simp only [Act.put, sX, sY, sZ]
        refine anyT_take (i := 3) (v := ?_) gO kR kR kR kR (by exact fun _ _ _ h => h) (Or.inl ⟨by rfl, ?_⟩) (by assumption) ?_
        rotate_left
        · intro w hSw; (try dsimp only at hSw); go_simp; try with_reducible rfl
        try simp only [Act.put, sX, sY, sZ]
        refine anyT_take (i := 4) (v := ?_) gO kR kR kR kR (by exact fun _ _ _ h => h) (Or.inl ⟨by rfl, ?_⟩) (by assumption) ?_
        rotate_left
        · intro w hSw; (try dsimp only at hSw); go_simp; try with_reducible rfl
        try simp only [Act.put, sX, sY, sZ]
        refine anyT_take (i := 5) (v := ?_) gO kR kR kR kR (by exact fun _ _ _ h => h) (Or.inl ⟨by rfl, ?_⟩) (by assumption) ?_
        rotate_left
        · intro w hSw; (try dsimp only at hSw); go_simp; try with_reducible rfl
        try simp only [Act.put, sX, sY, sZ]
        refine anyT_ready (rs := [6]) kR (by simp) (ReadyT.cons gO (fun K hK => ?_) ReadyT.nil)
        go_simp
        go_at_call 46
        (with_reducible refine (ref2_Sub _ _ _ ((y.natAbs - x.natAbs)) _ _ _ _ _ (show NumAt _ _ _ _ _ _ ((y.natAbs - x.natAbs) + x.natAbs) from HG.out ▸ (h'.to bW)) (h.to bW) (by omega)).mono ?_)
        rintro e w2 ⟨A2, n2, c2, rfl, h2, hb2, hf2⟩
        go_simp
        refine hK.out _ _ (by first | exact ⟨CSX2_1, CSX2'_1, CSX1_1, CSX1'_1, trivial⟩ | exact KP1 _ bW) (fun hHeld => ?_)
        clear hK K
        try simp only [Act.put, sX, sY, sZ]
        refine anyT_ready (rs := [7]) kR (by simp) (ReadyT.cons gO (fun K hK => ?_) ReadyT.nil)
        go_simp
        go_at_call 22
        refine (ref7_New false _ _ _ (y.natAbs - x.natAbs) _ (h2.to bW)).mono ?_
        rw [HE.out]
        rintro e w3 ⟨A3, n3, c3, rfl, h3, hb3⟩
        go_simp
        refine hK.out _ _ (by first | exact ⟨CSX2_1, CSX2'_1, CSX1_1, CSX1'_1, trivial⟩ | exact KP1 _ bW) (fun hHeld => ?_)
        clear hK K
        try simp only [Act.put, sX, sY, sZ]
        refine anyT_ready (rs := [8]) kR (by simp) (ReadyT.cons gO (fun K hK => ?_) ReadyT.nil)
        have cqX3 := (show Blk2 w3 _ _ _ _ from X3.to bW).cell
        have cqX3' := (show Blk2 w3 _ _ _ _ from X3.to bW).cell1
        have fqX3 := (show Blk2 w3 _ _ _ _ from X3.to bW).free 0
        have fqX3' := (show Blk2 w3 _ _ _ _ from X3.to bW).free 1
        have CSX2_1 := (((show Blk2 w3 _ _ _ _ from X2.to bW).far (p := ⟨w.heap.size + 1 + 1, 0, none⟩) (by show w.heap.size + 1 ≠ w.heap.size + 1 + 1; omega) (.bool (bz (x + y)))).far (p := ⟨w.heap.size + 1 + 1, 1, none⟩) (by show w.heap.size + 1 ≠ w.heap.size + 1 + 1; omega) (.slice A3 n3 c3)).cell
        have CSX2'_1 := (((show Blk2 w3 _ _ _ _ from X2.to bW).far (p := ⟨w.heap.size + 1 + 1, 0, none⟩) (by show w.heap.size + 1 ≠ w.heap.size + 1 + 1; omega) (.bool (bz (x + y)))).far (p := ⟨w.heap.size + 1 + 1, 1, none⟩) (by show w.heap.size + 1 ≠ w.heap.size + 1 + 1; omega) (.slice A3 n3 c3)).cell1
        have CSX1_1 := (((show Blk2 w3 _ _ _ _ from X1.to bW).far (p := ⟨w.heap.size + 1 + 1, 0, none⟩) (by show w.heap.size ≠ w.heap.size + 1 + 1; omega) (.bool (bz (x + y)))).far (p := ⟨w.heap.size + 1 + 1, 1, none⟩) (by show w.heap.size ≠ w.heap.size + 1 + 1; omega) (.slice A3 n3 c3)).cell
        have CSX1'_1 := (((show Blk2 w3 _ _ _ _ from X1.to bW).far (p := ⟨w.heap.size + 1 + 1, 0, none⟩) (by show w.heap.size ≠ w.heap.size + 1 + 1; omega) (.bool (bz (x + y)))).far (p := ⟨w.heap.size + 1 + 1, 1, none⟩) (by show w.heap.size ≠ w.heap.size + 1 + 1; omega) (.slice A3 n3 c3)).cell1
        go_simp
        refine hK.out _ _ (by first | exact ⟨CSX2_1, CSX2'_1, CSX1_1, CSX1'_1, trivial⟩ | exact KP1 _ bW) (fun hHeld => ?_)
        clear hK K
        try simp only [Act.put, sX, sY, sZ]
        refine anyT_done kR ?_ _
        clear CSX2_1 CSX2'_1 CSX1_1 CSX1'_1
        clear hHeld cqX3 cqX3' fqX3' fqX3 CX2 CX2' CX1 CX1' KP1
        replace h := (show NumAt _ _ w3 _ _ _ _ from h.to bW)
        replace h' := (show NumAt _ _ w3 _ _ _ _ from h'.to bW)
        replace h2 := (show NumAt _ _ w3 _ _ _ _ from h2.to bW)
        replace h3 := (show NumAt _ _ w3 _ _ _ _ from h3.to bW)
        replace X1 := (show Blk2 w3 _ _ _ _ from X1.to bW)
        replace X2 := (show Blk2 w3 _ _ _ _ from X2.to bW)
        replace X3 := (show Blk2 w3 _ _ _ _ from X3.to bW)
        have hbws2 := below_put2 (show Below w.heap.size w w3 from bW) (g := w.heap.size + 1 + 1) (by show w.heap.size ≤ w.heap.size + 1 + 1; omega) (.bool (bz (x + y))) (.slice A3 n3 c3)
        replace h := h.put2 X3 (.bool (bz (x + y))) (.slice A3 n3 c3)
        replace h' := h'.put2 X3 (.bool (bz (x + y))) (.slice A3 n3 c3)
        replace h2 := h2.put2 X3 (.bool (bz (x + y))) (.slice A3 n3 c3)
        replace h3 := h3.put2 X3 (.bool (bz (x + y))) (.slice A3 n3 c3)
        replace X1 := X1.off2 (g := w.heap.size + 1 + 1) (by show w.heap.size ≠ w.heap.size + 1 + 1; omega) (.bool (bz (x + y))) (.slice A3 n3 c3)
        replace X2 := X2.off2 (g := w.heap.size + 1 + 1) (by show w.heap.size + 1 ≠ w.heap.size + 1 + 1; omega) (.bool (bz (x + y))) (.slice A3 n3 c3)
        replace X3 := X3.put2 (.bool (bz (x + y))) (.slice A3 n3 c3)
        rw [show (w3.setCell ⟨w.heap.size + 1 + 1, 0, none⟩ (.bool (bz (x + y)))).setCell ⟨w.heap.size + 1 + 1, 1, none⟩ (.slice A3 n3 c3) = put2 w3 (w.heap.size + 1 + 1) (.bool (bz (x + y))) (.slice A3 n3 c3) from rfl]
        generalize put2 w3 (w.heap.size + 1 + 1) (.bool (bz (x + y))) (.slice A3 n3 c3) = ws2 at h h' h2 h3 X1 X2 X3 hbws2 ⊢
        go_wp2_with fail
        have erX3 := (show Blk2 ws2 _ _ _ _ from X3.to bW).cell
        have erX3' := (show Blk2 ws2 _ _ _ _ from X3.to bW).cell1
        exact bodyPost_ret (v := .agg #[.bool (bz (x + y)), .slice A3 n3 c3]) (by simp [results, Try.results33, go_sem, erX3, erX3']) rfl ⟨_, _, _, rfl, (show NumAt _ _ ws2 _ _ _ _ from (h3.to bW)), (show Below w.heap.size w ws2 from bW)⟩
    case true =>
      have HE := Lib.hid (show sg true (x.natAbs + y.natAbs) = x + y by have := add_same (x := x) (y := y) (hx.trans hy.symm); rwa [hx] at this)
      clear hx hy
      go_enter Try.func33, Try.ntmps33
      go_wp2_with fail
      have X1 := Blk2.newAt w (w.heap.size) 34 (.bool true) (.slice A n c) (by first | rfl | simp)
      have X2 := Blk2.newAt (w.alloc (.cells #[.bool true, .slice A n c] 34)) (w.heap.size + 1) 34 (.bool true) (.slice A' n' c') (by first | rfl | simp)
      have X3 := Blk2.newAt ((w.alloc (.cells #[.bool true, .slice A n c] 34)).alloc (.cells #[.bool true, .slice A' n' c'] 34)) (w.heap.size + 1 + 1) 34 (.bool false) (.slice none 0 0) (by first | rfl | simp)
      replace X1 := (show Blk2 (((w.alloc (.cells #[.bool true, .slice A n c] 34)).alloc (.cells #[.bool true, .slice A' n' c'] 34)).alloc (.cells #[.bool false, .slice none 0 0] 34)) _ _ _ _ from X1.to bW)
      replace X2 := (show Blk2 (((w.alloc (.cells #[.bool true, .slice A n c] 34)).alloc (.cells #[.bool true, .slice A' n' c'] 34)).alloc (.cells #[.bool false, .slice none 0 0] 34)) _ _ _ _ from X2.to bW)
      have hbwe1 : Below w.heap.size w (((w.alloc (.cells #[.bool true, .slice A n c] 34)).alloc (.cells #[.bool true, .slice A' n' c'] 34)).alloc (.cells #[.bool false, .slice none 0 0] 34)) := bW
      generalize (((w.alloc (.cells #[.bool true, .slice A n c] 34)).alloc (.cells #[.bool true, .slice A' n' c'] 34)).alloc (.cells #[.bool false, .slice none 0 0] 34)) = we1 at X1 X2 X3 hbwe1  ⊢
      have CX1 := (show Blk2 we1 _ _ _ _ from X1.to bW).cell
      have CX1' := (show Blk2 we1 _ _ _ _ from X1.to bW).cell1
      have CX2 := (show Blk2 we1 _ _ _ _ from X2.to bW).cell
      have CX2' := (show Blk2 we1 _ _ _ _ from X2.to bW).cell1
      have KP1 : ∀ w', Below we1.heap.size we1 w' → w'.cell? ⟨w.heap.size, 0, none⟩ = some (.bool true) ∧ w'.cell? ⟨w.heap.size, 1, none⟩ = some (.slice A n c) ∧ w'.cell? ⟨w.heap.size + 1, 0, none⟩ = some (.bool true) ∧ w'.cell? ⟨w.heap.size + 1, 1, none⟩ = some (.slice A' n' c') ∧ True := fun w' hw' => ⟨cellB hw' CX1, cellB hw' CX1', cellB hw' CX2, cellB hw' CX2', trivial⟩
      refine wp_regionT (S := fun w' => w'.cell? ⟨w.heap.size, 0, none⟩ = some (.bool true) ∧ w'.cell? ⟨w.heap.size, 1, none⟩ = some (.slice A n c) ∧ w'.cell? ⟨w.heap.size + 1, 0, none⟩ = some (.bool true) ∧ w'.cell? ⟨w.heap.size + 1, 1, none⟩ = some (.slice A' n' c') ∧ True) [] kR (by first | exact ⟨CSX1_1, CSX1'_1, CSX2_1, CSX2'_1, trivial⟩ | exact KP1 _ bW) (fun hHeld => ?_)
      have hbd1 : Below we1.heap.size we1 we1.drew := nxw (Below.refl _ _)
      generalize we1.drew = wd1 at hHeld hbd1 ⊢
      refine anyT_take (i := 0) (v := ?_) gO kR kR kR kR (by exact fun _ _ _ h => h) (Or.inl ⟨by rfl, ?_⟩) (by assumption) ?_
      rotate_left
      · intro w hSw; (try dsimp only at hSw); go_simp; try with_reducible rfl
      try simp only [Act.put, sX, sY, sZ]
      refine anyT_take (i := 1) (v := ?_) gO kR kR kR kR (by exact fun _ _ _ h => h) (Or.inl ⟨by rfl, ?_⟩) (by assumption) ?_
      rotate_left
      · intro w hSw; (try dsimp only at hSw); go_simp; try with_reducible rfl
      try simp only [Act.put, sX, sY, sZ]
      refine anyT_take (i := 2) (v := ?_) gO kR kR kR kR (by exact fun _ _ _ h => h) (Or.inl ⟨by rfl, ?_⟩) (by assumption) ?_
      rotate_left
      · intro w hSw; (try dsimp only at hSw); go_simp; try with_reducible rfl
      try simp only [Act.put, sX, sY, sZ]
      refine anyT_take (i := 3) (v := ?_) gO kR kR kR kR (by exact fun _ _ _ h => h) (Or.inl ⟨by rfl, ?_⟩) (by assumption) ?_
      rotate_left
      · intro w hSw; (try dsimp only at hSw); go_simp; try with_reducible rfl
      try simp only [Act.put, sX, sY, sZ]
      refine anyT_take (i := 4) (v := ?_) gO kR kR kR kR (by exact fun _ _ _ h => h) (Or.inl ⟨by rfl, ?_⟩) (by assumption) ?_
      rotate_left
      · intro w hSw; (try dsimp only at hSw); go_simp; try with_reducible rfl
      try simp only [Act.put, sX, sY, sZ]
      refine anyT_take (i := 5) (v := ?_) gO kR kR kR kR (by exact fun _ _ _ h => h) (Or.inl ⟨by rfl, ?_⟩) (by assumption) ?_
      rotate_left
      · intro w hSw; (try dsimp only at hSw); go_simp; try with_reducible rfl
      try simp only [Act.put, sX, sY, sZ]
      refine anyT_ready (rs := [6]) kR (by simp) (ReadyT.cons gO (fun K hK => ?_) ReadyT.nil)
      go_simp
      go_at_call 45
      (with_reducible refine (ref2_Add _ _ _ _ _ _ _ _ _ (h.to bW) (h'.to bW) (by omega) (by omega)).mono ?_)
      rintro e w1 ⟨A1, n1, c1, rfl, h1, hb1, hf1⟩
      go_simp
      refine hK.out _ _ (by first | exact ⟨CSX1_1, CSX1'_1, CSX2_1, CSX2'_1, trivial⟩ | exact KP1 _ bW) (fun hHeld => ?_)
      clear hK K
      try simp only [Act.put, sX, sY, sZ]
      refine anyT_ready (rs := [7]) kR (by simp) (ReadyT.cons gO (fun K hK => ?_) ReadyT.nil)
      go_simp
      go_at_call 22
      refine (ref7_New true _ _ _ (x.natAbs + y.natAbs) _ (h1.to bW)).mono ?_
      rw [HE.out]
      rintro e w2 ⟨A2, n2, c2, rfl, h2, hb2⟩
      go_simp
      refine hK.out _ _ (by first | exact ⟨CSX1_1, CSX1'_1, CSX2_1, CSX2'_1, trivial⟩ | exact KP1 _ bW) (fun hHeld => ?_)
      clear hK K
      try simp only [Act.put, sX, sY, sZ]
      refine anyT_ready (rs := [8]) kR (by simp) (ReadyT.cons gO (fun K hK => ?_) ReadyT.nil)
      have cqX3 := (show Blk2 w2 _ _ _ _ from X3.to bW).cell
      have cqX3' := (show Blk2 w2 _ _ _ _ from X3.to bW).cell1
      have fqX3 := (show Blk2 w2 _ _ _ _ from X3.to bW).free 0
      have fqX3' := (show Blk2 w2 _ _ _ _ from X3.to bW).free 1
      have CSX1_1 := (((show Blk2 w2 _ _ _ _ from X1.to bW).far (p := ⟨w.heap.size + 1 + 1, 0, none⟩) (by show w.heap.size ≠ w.heap.size + 1 + 1; omega) (.bool (bz (x + y)))).far (p := ⟨w.heap.size + 1 + 1, 1, none⟩) (by show w.heap.size ≠ w.heap.size + 1 + 1; omega) (.slice A2 n2 c2)).cell
      have CSX1'_1 := (((show Blk2 w2 _ _ _ _ from X1.to bW).far (p := ⟨w.heap.size + 1 + 1, 0, none⟩) (by show w.heap.size ≠ w.heap.size + 1 + 1; omega) (.bool (bz (x + y)))).far (p := ⟨w.heap.size + 1 + 1, 1, none⟩) (by show w.heap.size ≠ w.heap.size + 1 + 1; omega) (.slice A2 n2 c2)).cell1
      have CSX2_1 := (((show Blk2 w2 _ _ _ _ from X2.to bW).far (p := ⟨w.heap.size + 1 + 1, 0, none⟩) (by show w.heap.size + 1 ≠ w.heap.size + 1 + 1; omega) (.bool (bz (x + y)))).far (p := ⟨w.heap.size + 1 + 1, 1, none⟩) (by show w.heap.size + 1 ≠ w.heap.size + 1 + 1; omega) (.slice A2 n2 c2)).cell
      have CSX2'_1 := (((show Blk2 w2 _ _ _ _ from X2.to bW).far (p := ⟨w.heap.size + 1 + 1, 0, none⟩) (by show w.heap.size + 1 ≠ w.heap.size + 1 + 1; omega) (.bool (bz (x + y)))).far (p := ⟨w.heap.size + 1 + 1, 1, none⟩) (by show w.heap.size + 1 ≠ w.heap.size + 1 + 1; omega) (.slice A2 n2 c2)).cell1
      go_simp
      refine hK.out _ _ (by first | exact ⟨CSX1_1, CSX1'_1, CSX2_1, CSX2'_1, trivial⟩ | exact KP1 _ bW) (fun hHeld => ?_)
      clear hK K
      try simp only [Act.put, sX, sY, sZ]
      refine anyT_done kR ?_ _
      clear CSX1_1 CSX1'_1 CSX2_1 CSX2'_1
      clear hHeld cqX3 cqX3' fqX3' fqX3 CX1 CX1' CX2 CX2' KP1
      replace h := (show NumAt _ _ w2 _ _ _ _ from h.to bW)
      replace h' := (show NumAt _ _ w2 _ _ _ _ from h'.to bW)
      replace h1 := (show NumAt _ _ w2 _ _ _ _ from h1.to bW)
      replace h2 := (show NumAt _ _ w2 _ _ _ _ from h2.to bW)
      replace X1 := (show Blk2 w2 _ _ _ _ from X1.to bW)
      replace X2 := (show Blk2 w2 _ _ _ _ from X2.to bW)
      replace X3 := (show Blk2 w2 _ _ _ _ from X3.to bW)
      have hbws2 := below_put2 (show Below w.heap.size w w2 from bW) (g := w.heap.size + 1 + 1) (by show w.heap.size ≤ w.heap.size + 1 + 1; omega) (.bool (bz (x + y))) (.slice A2 n2 c2)
      replace h := h.put2 X3 (.bool (bz (x + y))) (.slice A2 n2 c2)
      replace h' := h'.put2 X3 (.bool (bz (x + y))) (.slice A2 n2 c2)
      replace h1 := h1.put2 X3 (.bool (bz (x + y))) (.slice A2 n2 c2)
      replace h2 := h2.put2 X3 (.bool (bz (x + y))) (.slice A2 n2 c2)
      replace X1 := X1.off2 (g := w.heap.size + 1 + 1) (by show w.heap.size ≠ w.heap.size + 1 + 1; omega) (.bool (bz (x + y))) (.slice A2 n2 c2)
      replace X2 := X2.off2 (g := w.heap.size + 1 + 1) (by show w.heap.size + 1 ≠ w.heap.size + 1 + 1; omega) (.bool (bz (x + y))) (.slice A2 n2 c2)
      replace X3 := X3.put2 (.bool (bz (x + y))) (.slice A2 n2 c2)
      rw [show (w2.setCell ⟨w.heap.size + 1 + 1, 0, none⟩ (.bool (bz (x + y)))).setCell ⟨w.heap.size + 1 + 1, 1, none⟩ (.slice A2 n2 c2) = put2 w2 (w.heap.size + 1 + 1) (.bool (bz (x + y))) (.slice A2 n2 c2) from rfl]
      generalize put2 w2 (w.heap.size + 1 + 1) (.bool (bz (x + y))) (.slice A2 n2 c2) = ws2 at h h' h1 h2 X1 X2 X3 hbws2 ⊢
      go_wp2_with fail
      have erX3 := (show Blk2 ws2 _ _ _ _ from X3.to bW).cell
      have erX3' := (show Blk2 ws2 _ _ _ _ from X3.to bW).cell1
      exact bodyPost_ret (v := .agg #[.bool (bz (x + y)), .slice A2 n2 c2]) (by simp [results, Try.results33, go_sem, erX3, erX3']) rfl ⟨_, _, _, rfl, (show NumAt _ _ ws2 _ _ _ _ from (h2.to bW)), (show Below w.heap.size w ws2 from bW)⟩
set_option maxHeartbeats 4000000 in
theorem ref7_Mul (A : Option Addr) (n c : Nat) (x : Int) (A' : Option Addr) (n' c' : Nat) (y : Int) (w : World) (h : NumAt .i64 65536 w A n c x.natAbs) (h' : NumAt .i64 65536 w A' n' c' y.natAbs) (hn : n ≤ 900000000) (hn' : n' ≤ 900000000) :
    Calls Try.prog 34 #[.agg #[.bool (bz x), .slice A n c], .agg #[.bool (bz y), .slice A' n' c']] w (RetZ w (x * y)) := by
  go_enter Try.func34, Try.ntmps34
  go_wp2_with fail
  have X1 := Blk2.newAt w (w.heap.size) 34 (.bool (bz x)) (.slice A n c) (by first | rfl | simp)
  have X2 := Blk2.newAt (w.alloc (.cells #[.bool (bz x), .slice A n c] 34)) (w.heap.size + 1) 34 (.bool (bz y)) (.slice A' n' c') (by first | rfl | simp)
  have X3 := Blk2.newAt ((w.alloc (.cells #[.bool (bz x), .slice A n c] 34)).alloc (.cells #[.bool (bz y), .slice A' n' c'] 34)) (w.heap.size + 1 + 1) 34 (.bool false) (.slice none 0 0) (by first | rfl | simp)
  replace X1 := (show Blk2 (((w.alloc (.cells #[.bool (bz x), .slice A n c] 34)).alloc (.cells #[.bool (bz y), .slice A' n' c'] 34)).alloc (.cells #[.bool false, .slice none 0 0] 34)) _ _ _ _ from X1.to bW)
  replace X2 := (show Blk2 (((w.alloc (.cells #[.bool (bz x), .slice A n c] 34)).alloc (.cells #[.bool (bz y), .slice A' n' c'] 34)).alloc (.cells #[.bool false, .slice none 0 0] 34)) _ _ _ _ from X2.to bW)
  have hbwe1 : Below w.heap.size w (((w.alloc (.cells #[.bool (bz x), .slice A n c] 34)).alloc (.cells #[.bool (bz y), .slice A' n' c'] 34)).alloc (.cells #[.bool false, .slice none 0 0] 34)) := bW
  generalize (((w.alloc (.cells #[.bool (bz x), .slice A n c] 34)).alloc (.cells #[.bool (bz y), .slice A' n' c'] 34)).alloc (.cells #[.bool false, .slice none 0 0] 34)) = we1 at X1 X2 X3 hbwe1  ⊢
  have CX1 := (show Blk2 we1 _ _ _ _ from X1.to bW).cell
  have CX1' := (show Blk2 we1 _ _ _ _ from X1.to bW).cell1
  have CX2 := (show Blk2 we1 _ _ _ _ from X2.to bW).cell
  have CX2' := (show Blk2 we1 _ _ _ _ from X2.to bW).cell1
  have KP1 : ∀ w', Below we1.heap.size we1 w' → w'.cell? ⟨w.heap.size, 0, none⟩ = some (.bool (bz x)) ∧ w'.cell? ⟨w.heap.size, 1, none⟩ = some (.slice A n c) ∧ w'.cell? ⟨w.heap.size + 1, 0, none⟩ = some (.bool (bz y)) ∧ w'.cell? ⟨w.heap.size + 1, 1, none⟩ = some (.slice A' n' c') ∧ True := fun w' hw' => ⟨cellB hw' CX1, cellB hw' CX1', cellB hw' CX2, cellB hw' CX2', trivial⟩
  refine wp_regionT (S := fun w' => w'.cell? ⟨w.heap.size, 0, none⟩ = some (.bool (bz x)) ∧ w'.cell? ⟨w.heap.size, 1, none⟩ = some (.slice A n c) ∧ w'.cell? ⟨w.heap.size + 1, 0, none⟩ = some (.bool (bz y)) ∧ w'.cell? ⟨w.heap.size + 1, 1, none⟩ = some (.slice A' n' c') ∧ True) [] kR (by first | exact ⟨CSX1_1, CSX1'_1, CSX2_1, CSX2'_1, trivial⟩ | exact KP1 _ bW) (fun hHeld => ?_)
  have hbd1 : Below we1.heap.size we1 we1.drew := nxw (Below.refl _ _)
  generalize we1.drew = wd1 at hHeld hbd1 ⊢
  refine anyT_take (i := 0) (v := ?_) gO kR kR kR kR (by exact fun _ _ _ h => h) (Or.inl ⟨by rfl, ?_⟩) (by assumption) ?_
  rotate_left
  · intro w hSw; (try dsimp only at hSw); go_simp; try with_reducible rfl
  try simp only [Act.put, sX, sY, sZ]
  refine anyT_take (i := 1) (v := ?_) gO kR kR kR kR (by exact fun _ _ _ h => h) (Or.inl ⟨by rfl, ?_⟩) (by assumption) ?_
  rotate_left
  · intro w hSw; (try dsimp only at hSw); go_simp; try with_reducible rfl
  try simp only [Act.put, sX, sY, sZ]
  refine anyT_take (i := 2) (v := ?_) gO kR kR kR kR (by exact fun _ _ _ h => h) (Or.inl ⟨by rfl, ?_⟩) (by assumption) ?_
  rotate_left
  · intro w hSw; (try dsimp only at hSw); go_simp; try with_reducible rfl
  try simp only [Act.put, sX, sY, sZ]
  refine anyT_take (i := 3) (v := ?_) gO kR kR kR kR (by exact fun _ _ _ h => h) (Or.inl ⟨by rfl, ?_⟩) (by assumption) ?_
  rotate_left
  · intro w hSw; (try dsimp only at hSw); go_simp; try with_reducible rfl
  try simp only [Act.put, sX, sY, sZ]
  refine anyT_take (i := 4) (v := ?_) gO kR kR kR kR (by exact fun _ _ _ h => h) (Or.inl ⟨by rfl, ?_⟩) (by assumption) ?_
  rotate_left
  · intro w hSw; (try dsimp only at hSw); go_simp; try with_reducible rfl
  try simp only [Act.put, sX, sY, sZ]
  refine anyT_take (i := 5) (v := ?_) gO kR kR kR kR (by exact fun _ _ _ h => h) (Or.inl ⟨by rfl, ?_⟩) (by assumption) ?_
  rotate_left
  · intro w hSw; (try dsimp only at hSw); go_simp; try with_reducible rfl
  try simp only [Act.put, sX, sY, sZ]
  refine anyT_take (i := 6) (v := ?_) gO kR kR kR kR (by exact fun _ _ _ h => h) (Or.inl ⟨by rfl, ?_⟩) (by assumption) ?_
  rotate_left
  · intro w hSw; (try dsimp only at hSw); go_simp; try with_reducible rfl
  try simp only [Act.put, sX, sY, sZ]
  refine anyT_take (i := 7) (v := ?_) gO kR kR kR kR (by exact fun _ _ _ h => h) (Or.inl ⟨by rfl, ?_⟩) (by assumption) ?_
  rotate_left
  · intro w hSw; (try dsimp only at hSw); go_simp; try with_reducible rfl
  try simp only [Act.put, sX, sY, sZ]
  refine anyT_take (i := 8) (v := ?_) gO kR kR kR kR (by exact fun _ _ _ h => h) (Or.inl ⟨by rfl, ?_⟩) (by assumption) ?_
  rotate_left
  · intro w hSw; (try dsimp only at hSw); go_simp; try with_reducible rfl
  try simp only [Act.put, sX, sY, sZ]
  refine anyT_ready (rs := [9]) kR (by simp) (ReadyT.cons gO (fun K hK => ?_) ReadyT.nil)
  go_simp
  go_at_call 57
  (with_reducible refine (ref3_Mul _ _ _ _ _ _ _ _ _ (h.to bW) (h'.to bW) (by omega) (by omega)).mono ?_)
  rintro e w1 ⟨A1, n1, c1, rfl, h1, hb1, hf1⟩
  have l1 := h1.le_of (by decide) _ (ref_mul_lt h.lt h'.lt)
  go_simp
  refine hK.out _ _ (by first | exact ⟨CSX1_1, CSX1'_1, CSX2_1, CSX2'_1, trivial⟩ | exact KP1 _ bW) (fun hHeld => ?_)
  clear hK K
  try simp only [Act.put, sX, sY, sZ]
  refine anyT_ready (rs := [10]) kR (by simp) (ReadyT.cons gO (fun K hK => ?_) ReadyT.nil)
  go_simp
  go_at_call 22
  refine (ref7_New ((bz x) != (bz y)) _ _ _ (x.natAbs * y.natAbs) _ (h1.to bW)).mono ?_
  rw [mul_sg]
  rintro e w2 ⟨A2, n2, c2, rfl, h2, hb2⟩
  go_simp
  refine hK.out _ _ (by first | exact ⟨CSX1_1, CSX1'_1, CSX2_1, CSX2'_1, trivial⟩ | exact KP1 _ bW) (fun hHeld => ?_)
  clear hK K
  try simp only [Act.put, sX, sY, sZ]
  refine anyT_ready (rs := [11]) kR (by simp) (ReadyT.cons gO (fun K hK => ?_) ReadyT.nil)
  have cqX3 := (show Blk2 w2 _ _ _ _ from X3.to bW).cell
  have cqX3' := (show Blk2 w2 _ _ _ _ from X3.to bW).cell1
  have fqX3 := (show Blk2 w2 _ _ _ _ from X3.to bW).free 0
  have fqX3' := (show Blk2 w2 _ _ _ _ from X3.to bW).free 1
  have CSX1_1 := (((show Blk2 w2 _ _ _ _ from X1.to bW).far (p := ⟨w.heap.size + 1 + 1, 0, none⟩) (by show w.heap.size ≠ w.heap.size + 1 + 1; omega) (.bool (bz (x * y)))).far (p := ⟨w.heap.size + 1 + 1, 1, none⟩) (by show w.heap.size ≠ w.heap.size + 1 + 1; omega) (.slice A2 n2 c2)).cell
  have CSX1'_1 := (((show Blk2 w2 _ _ _ _ from X1.to bW).far (p := ⟨w.heap.size + 1 + 1, 0, none⟩) (by show w.heap.size ≠ w.heap.size + 1 + 1; omega) (.bool (bz (x * y)))).far (p := ⟨w.heap.size + 1 + 1, 1, none⟩) (by show w.heap.size ≠ w.heap.size + 1 + 1; omega) (.slice A2 n2 c2)).cell1
  have CSX2_1 := (((show Blk2 w2 _ _ _ _ from X2.to bW).far (p := ⟨w.heap.size + 1 + 1, 0, none⟩) (by show w.heap.size + 1 ≠ w.heap.size + 1 + 1; omega) (.bool (bz (x * y)))).far (p := ⟨w.heap.size + 1 + 1, 1, none⟩) (by show w.heap.size + 1 ≠ w.heap.size + 1 + 1; omega) (.slice A2 n2 c2)).cell
  have CSX2'_1 := (((show Blk2 w2 _ _ _ _ from X2.to bW).far (p := ⟨w.heap.size + 1 + 1, 0, none⟩) (by show w.heap.size + 1 ≠ w.heap.size + 1 + 1; omega) (.bool (bz (x * y)))).far (p := ⟨w.heap.size + 1 + 1, 1, none⟩) (by show w.heap.size + 1 ≠ w.heap.size + 1 + 1; omega) (.slice A2 n2 c2)).cell1
  go_simp
  refine hK.out _ _ (by first | exact ⟨CSX1_1, CSX1'_1, CSX2_1, CSX2'_1, trivial⟩ | exact KP1 _ bW) (fun hHeld => ?_)
  clear hK K
  try simp only [Act.put, sX, sY, sZ]
  refine anyT_done kR ?_ _
  clear CSX1_1 CSX1'_1 CSX2_1 CSX2'_1
  clear hHeld cqX3 cqX3' fqX3' fqX3 CX1 CX1' CX2 CX2' KP1
  replace h := (show NumAt _ _ w2 _ _ _ _ from h.to bW)
  replace h' := (show NumAt _ _ w2 _ _ _ _ from h'.to bW)
  replace h1 := (show NumAt _ _ w2 _ _ _ _ from h1.to bW)
  replace h2 := (show NumAt _ _ w2 _ _ _ _ from h2.to bW)
  replace X1 := (show Blk2 w2 _ _ _ _ from X1.to bW)
  replace X2 := (show Blk2 w2 _ _ _ _ from X2.to bW)
  replace X3 := (show Blk2 w2 _ _ _ _ from X3.to bW)
  have hbws2 := below_put2 (show Below w.heap.size w w2 from bW) (g := w.heap.size + 1 + 1) (by show w.heap.size ≤ w.heap.size + 1 + 1; omega) (.bool (bz (x * y))) (.slice A2 n2 c2)
  replace h := h.put2 X3 (.bool (bz (x * y))) (.slice A2 n2 c2)
  replace h' := h'.put2 X3 (.bool (bz (x * y))) (.slice A2 n2 c2)
  replace h1 := h1.put2 X3 (.bool (bz (x * y))) (.slice A2 n2 c2)
  replace h2 := h2.put2 X3 (.bool (bz (x * y))) (.slice A2 n2 c2)
  replace X1 := X1.off2 (g := w.heap.size + 1 + 1) (by show w.heap.size ≠ w.heap.size + 1 + 1; omega) (.bool (bz (x * y))) (.slice A2 n2 c2)
  replace X2 := X2.off2 (g := w.heap.size + 1 + 1) (by show w.heap.size + 1 ≠ w.heap.size + 1 + 1; omega) (.bool (bz (x * y))) (.slice A2 n2 c2)
  replace X3 := X3.put2 (.bool (bz (x * y))) (.slice A2 n2 c2)
  rw [show (w2.setCell ⟨w.heap.size + 1 + 1, 0, none⟩ (.bool (bz (x * y)))).setCell ⟨w.heap.size + 1 + 1, 1, none⟩ (.slice A2 n2 c2) = put2 w2 (w.heap.size + 1 + 1) (.bool (bz (x * y))) (.slice A2 n2 c2) from rfl]
  generalize put2 w2 (w.heap.size + 1 + 1) (.bool (bz (x * y))) (.slice A2 n2 c2) = ws2 at h h' h1 h2 X1 X2 X3 hbws2 ⊢
  go_wp2_with fail
  have erX3 := (show Blk2 ws2 _ _ _ _ from X3.to bW).cell
  have erX3' := (show Blk2 ws2 _ _ _ _ from X3.to bW).cell1
  exact bodyPost_ret (v := .agg #[.bool (bz (x * y)), .slice A2 n2 c2]) (by simp [results, Try.results34, go_sem, erX3, erX3']) rfl ⟨_, _, _, rfl, (show NumAt _ _ ws2 _ _ _ _ from (h2.to bW)), (show Below w.heap.size w ws2 from bW)⟩
end Go.Proofs.Ytihbpkljjmpkjaa
