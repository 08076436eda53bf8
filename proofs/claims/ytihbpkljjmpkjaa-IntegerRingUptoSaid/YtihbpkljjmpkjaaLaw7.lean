/- What the laws of layer 7 share: Make, is. -/
import Derived.Test.YtihbpkljjmpkjaaInt6
set_option linter.unusedVariables false
set_option linter.unusedSimpArgs false
namespace Go.Proofs.Ytihbpkljjmpkjaa
open Go.RowKit
set_option maxRecDepth 100000
theorem dq_le (x y : Int) : (dq x y).natAbs ≤ x.natAbs := by
  unfold dq
  have h1 := Nat.div_le_self x.natAbs y.natAbs
  split
  · rw [Int.natAbs_natCast]; exact h1
  · split
    · rw [Int.natAbs_neg, Int.natAbs_natCast]; exact h1
    · rename_i h2 h3
      have h4 := Nat.div_add_mod x.natAbs y.natAbs
      have h5 : (-((x.natAbs / y.natAbs + 1 : Nat) : Int)).natAbs = x.natAbs / y.natAbs + 1 := by rw [Int.natAbs_neg, Int.natAbs_natCast]
      rw [h5]
      have h9 : x.natAbs % y.natAbs ≠ 0 := h3
      generalize x.natAbs % y.natAbs = r at *
      rcases Nat.eq_zero_or_pos (x.natAbs / y.natAbs) with h6 | h6
      · rw [h6] at h4 ⊢; omega
      · have h7 : x.natAbs / y.natAbs ≤ y.natAbs * (x.natAbs / y.natAbs) := by
          rcases Nat.eq_zero_or_pos y.natAbs with h8 | h8
          · rw [h8, Nat.div_zero] at h6; omega
          · exact Nat.le_mul_of_pos_left _ h8
        omega
theorem dr_lt {x y : Int} (h : 0 < y.natAbs) : (dr x y).natAbs < y.natAbs := dr_abs (by omega)
theorem mk_lt {b : Bool} {u n : Nat} (h : u < W ^ n) : (sg b u).natAbs < W ^ n := by rw [sg_abs]; exact h
theorem ref_lt {b : Bool} {u n : Nat} (h : u < W ^ n) : (sg b u).natAbs < 65536 ^ (4 * n) := by
  rw [sg_abs, Nat.pow_mul]
  exact h
set_option maxHeartbeats 4000000 in
theorem law7_Make (b : Bool) (A : Option Addr) (n c u : Nat) (w : World) (k1 : Dig .u64 W w A n c u) (hn : n ≤ 17592186044416) :
    Calls Try.prog 12 #[.agg #[.bool b, .slice A n c]] w (RetInt w (sg b u)) := by
  go_enter Try.func12, Try.ntmps12
  go_wp2_with fail
  have X1 := Blk2.newAt w (w.heap.size) 24 (.bool b) (.slice A n c) (by first | rfl | simp)
  have X2 := Blk2.newAt (w.alloc (.cells #[.bool b, .slice A n c] 24)) (w.heap.size + 1) 29 (.bool false) (.slice none 0 0) (by first | rfl | simp)
  replace X1 := (show Blk2 ((w.alloc (.cells #[.bool b, .slice A n c] 24)).alloc (.cells #[.bool false, .slice none 0 0] 29)) _ _ _ _ from X1.to bW)
  have hbwe1 : Below w.heap.size w ((w.alloc (.cells #[.bool b, .slice A n c] 24)).alloc (.cells #[.bool false, .slice none 0 0] 29)) := bW
  generalize ((w.alloc (.cells #[.bool b, .slice A n c] 24)).alloc (.cells #[.bool false, .slice none 0 0] 29)) = we1 at X1 X2 hbwe1  ⊢
  have CX1 := (show Blk2 we1 _ _ _ _ from X1.to bW).cell
  have CX1' := (show Blk2 we1 _ _ _ _ from X1.to bW).cell1
  have KP1 : ∀ w', Below we1.heap.size we1 w' → w'.cell? ⟨w.heap.size, 0, none⟩ = some (.bool b) ∧ w'.cell? ⟨w.heap.size, 1, none⟩ = some (.slice A n c) ∧ True := fun w' hw' => ⟨cellB hw' CX1, cellB hw' CX1', trivial⟩
  refine wp_regionT (S := fun w' => w'.cell? ⟨w.heap.size, 0, none⟩ = some (.bool b) ∧ w'.cell? ⟨w.heap.size, 1, none⟩ = some (.slice A n c) ∧ True) [] kR (by first | exact ⟨CSX1_1, CSX1'_1, trivial⟩ | exact KP1 _ bW) (fun hHeld => ?_)
  have hbd1 : Below we1.heap.size we1 we1.drew := nxw (Below.refl _ _)
  generalize we1.drew = wd1 at hHeld hbd1 ⊢
  refine anyT_take (i := 0) (v := ?_) gO kR kR kR kR (by exact fun _ _ _ h => h) (Or.inl ⟨by rfl, ?_⟩) (by assumption) ?_
  rotate_left
  · intro w hSw; (try dsimp only at hSw); go_simp; try with_reducible rfl
  try simp only [Act.put, sX, sY, sZ]
  refine anyT_take (i := 1) (v := ?_) gO kR kR kR kR (by exact fun _ _ _ h => h) (Or.inl ⟨by rfl, ?_⟩) (by assumption) ?_
  rotate_left
  · intro w hSw; (try dsimp only at hSw); go_simp; try with_reducible rfl
  try simp only [Act.put, sX, sY, sZ]
  refine anyT_take (i := 2) (v := ?_) gO kR kR kR kR (by exact fun _ _ _ h => h) (Or.inl ⟨by rfl, ?_⟩) (by assumption) ?_
  rotate_left
  · intro w hSw; (try dsimp only at hSw); go_simp; try with_reducible rfl
  try simp only [Act.put, sX, sY, sZ]
  refine anyT_take (i := 3) (v := ?_) gO kR kR kR kR (by exact fun _ _ _ h => h) (Or.inl ⟨by rfl, ?_⟩) (by assumption) ?_
  rotate_left
  · intro w hSw; (try dsimp only at hSw); go_simp; try with_reducible rfl
  try simp only [Act.put, sX, sY, sZ]
  refine anyT_ready (rs := [4]) kR (by simp) (ReadyT.cons gO (fun K hK => ?_) ReadyT.nil)
  go_simp
  go_at_call 38
  (with_reducible refine (nat_Of _ _ _ _ _ (k1.to bW) (by omega)).mono ?_)
  rintro e w1 ⟨A1, n1, c1, rfl, h1, hb1, m1⟩
  go_simp
  refine hK.out _ _ (by first | exact ⟨CSX1_1, CSX1'_1, trivial⟩ | exact KP1 _ bW) (fun hHeld => ?_)
  clear hK K
  try simp only [Act.put, sX, sY, sZ]
  refine anyT_ready (rs := [5]) kR (by simp) (ReadyT.cons gO (fun K hK => ?_) ReadyT.nil)
  go_simp
  go_at_call 37
  refine (integer_New b _ _ _ u _ (h1.to bW)).mono ?_
  rintro e w2 ⟨A2, n2, c2, rfl, h2, hb2⟩
  go_simp
  refine hK.out _ _ (by first | exact ⟨CSX1_1, CSX1'_1, trivial⟩ | exact KP1 _ bW) (fun hHeld => ?_)
  clear hK K
  try simp only [Act.put, sX, sY, sZ]
  refine anyT_ready (rs := [6]) kR (by simp) (ReadyT.cons gO (fun K hK => ?_) ReadyT.nil)
  have cqX2 := (show Blk2 w2 _ _ _ _ from X2.to bW).cell
  have cqX2' := (show Blk2 w2 _ _ _ _ from X2.to bW).cell1
  have fqX2 := (show Blk2 w2 _ _ _ _ from X2.to bW).free 0
  have fqX2' := (show Blk2 w2 _ _ _ _ from X2.to bW).free 1
  have CSX1_1 := (((show Blk2 w2 _ _ _ _ from X1.to bW).far (p := ⟨w.heap.size + 1, 0, none⟩) (by show w.heap.size ≠ w.heap.size + 1; omega) (.bool (bz (sg b u)))).far (p := ⟨w.heap.size + 1, 1, none⟩) (by show w.heap.size ≠ w.heap.size + 1; omega) (.slice A2 n2 c2)).cell
  have CSX1'_1 := (((show Blk2 w2 _ _ _ _ from X1.to bW).far (p := ⟨w.heap.size + 1, 0, none⟩) (by show w.heap.size ≠ w.heap.size + 1; omega) (.bool (bz (sg b u)))).far (p := ⟨w.heap.size + 1, 1, none⟩) (by show w.heap.size ≠ w.heap.size + 1; omega) (.slice A2 n2 c2)).cell1
  go_simp
  refine hK.out _ _ (by first | exact ⟨CSX1_1, CSX1'_1, trivial⟩ | exact KP1 _ bW) (fun hHeld => ?_)
  clear hK K
  try simp only [Act.put, sX, sY, sZ]
  refine anyT_done kR ?_ _
  clear CSX1_1 CSX1'_1
  clear hHeld cqX2 cqX2' fqX2' fqX2 CX1 CX1' KP1
  replace k1 := (show Dig _ _ w2 _ _ _ _ from k1.to bW)
  replace h1 := (show NatAt w2 _ _ _ _ from h1.to bW)
  replace h2 := (show NatAt w2 _ _ _ _ from h2.to bW)
  replace X1 := (show Blk2 w2 _ _ _ _ from X1.to bW)
  replace X2 := (show Blk2 w2 _ _ _ _ from X2.to bW)
  have hbws2 := below_put2 (show Below w.heap.size w w2 from bW) (g := w.heap.size + 1) (by show w.heap.size ≤ w.heap.size + 1; omega) (.bool (bz (sg b u))) (.slice A2 n2 c2)
  replace k1 := k1.put2 X2 (bool_no _) (slice_no _ _ _) (.bool (bz (sg b u))) (.slice A2 n2 c2)
  replace h1 := h1.put2 X2 (.bool (bz (sg b u))) (.slice A2 n2 c2)
  replace h2 := h2.put2 X2 (.bool (bz (sg b u))) (.slice A2 n2 c2)
  replace X1 := X1.off2 (g := w.heap.size + 1) (by show w.heap.size ≠ w.heap.size + 1; omega) (.bool (bz (sg b u))) (.slice A2 n2 c2)
  replace X2 := X2.put2 (.bool (bz (sg b u))) (.slice A2 n2 c2)
  rw [show (w2.setCell ⟨w.heap.size + 1, 0, none⟩ (.bool (bz (sg b u)))).setCell ⟨w.heap.size + 1, 1, none⟩ (.slice A2 n2 c2) = put2 w2 (w.heap.size + 1) (.bool (bz (sg b u))) (.slice A2 n2 c2) from rfl]
  generalize put2 w2 (w.heap.size + 1) (.bool (bz (sg b u))) (.slice A2 n2 c2) = ws2 at k1 h1 h2 X1 X2 hbws2 ⊢
  go_wp2_with fail
  have erX2 := (show Blk2 ws2 _ _ _ _ from X2.to bW).cell
  have erX2' := (show Blk2 ws2 _ _ _ _ from X2.to bW).cell1
  exact bodyPost_ret (v := .agg #[.bool (bz (sg b u)), .slice A2 n2 c2]) (by simp [results, Try.results12, go_sem, erX2, erX2']) rfl ⟨_, _, _, rfl, (show NatAt ws2 _ _ _ _ from (h2.to bW)), (show Below w.heap.size w ws2 from bW)⟩
set_option maxHeartbeats 4000000 in
theorem law7_is (A : Option Addr) (n c : Nat) (z : Int) (w : World) (h : NatAt w A n c z.natAbs) (i : Int) :
    Calls Try.prog 27 #[.agg #[.bool (bz z), .slice A n c], .int .i64 i] w (Ret w (.bool (decide (isInt z ∧ z = i)))) := by
  by_cases hi : isInt z
  · have HI := Lib.hid hi
    by_cases he : z = i
    · have HE := Lib.hid he
      have zq : (z == i) = true := by simp [he]
      rw [decide_eq_true (show isInt z ∧ z = i from ⟨hi, he⟩)]
      clear hi he
      go_enter Try.func27, Try.ntmps27
      go_wp2_with fail
      have X1 := Blk2.newAt w (w.heap.size) 29 (.bool (bz z)) (.slice A n c) (by first | rfl | simp)
      have hbwe1 : Below w.heap.size w (w.alloc (.cells #[.bool (bz z), .slice A n c] 29)) := bW
      generalize (w.alloc (.cells #[.bool (bz z), .slice A n c] 29)) = we1 at X1 hbwe1  ⊢
      refine (integer_Int_yes _ _ _ z _ (h.to bW) HI.out).mono ?_
      rintro e w1 ⟨rfl, hb1⟩
      go_wp2_with fail
      go_ret
      exact ⟨rfl, bW⟩
    · have HE := Lib.hid he
      have zq : (z == i) = false := by simp [he]
      rw [decide_eq_false (show ¬ (isInt z ∧ z = i) from fun h => he h.2)]
      clear hi he
      go_enter Try.func27, Try.ntmps27
      go_wp2_with fail
      have X1 := Blk2.newAt w (w.heap.size) 29 (.bool (bz z)) (.slice A n c) (by first | rfl | simp)
      have hbwe1 : Below w.heap.size w (w.alloc (.cells #[.bool (bz z), .slice A n c] 29)) := bW
      generalize (w.alloc (.cells #[.bool (bz z), .slice A n c] 29)) = we1 at X1 hbwe1  ⊢
      refine (integer_Int_yes _ _ _ z _ (h.to bW) HI.out).mono ?_
      rintro e w1 ⟨rfl, hb1⟩
      go_wp2_with fail
      go_ret
      exact ⟨rfl, bW⟩
  · have HI := Lib.hid hi
    rw [decide_eq_false (show ¬ (isInt z ∧ z = i) from fun h => hi h.1)]
    clear hi
    go_enter Try.func27, Try.ntmps27
    go_wp2_with fail
    have X1 := Blk2.newAt w (w.heap.size) 29 (.bool (bz z)) (.slice A n c) (by first | rfl | simp)
    have hbwe1 : Below w.heap.size w (w.alloc (.cells #[.bool (bz z), .slice A n c] 29)) := bW
    generalize (w.alloc (.cells #[.bool (bz z), .slice A n c] 29)) = we1 at X1 hbwe1  ⊢
    refine (integer_Int_no _ _ _ z _ (h.to bW) HI.out).mono ?_
    rintro e w1 ⟨rfl, hb1⟩
    go_wp2_with fail
    go_ret
    exact ⟨rfl, bW⟩
theorem integer_Below_b (b : Bool) {z : Int} (hb : bz z = b) (A : Option Addr) (n c : Nat) (w : World) (h : NatAt w A n c z.natAbs) :
    Calls Try.prog 47 #[.agg #[.bool b, .slice A n c]] w (Ret w (.bool b)) := by
  subst hb
  exact integer_Below A n c z w h
theorem integer_Sign_b (b : Bool) {z : Int} (hb : bz z = b) (A : Option Addr) (n c : Nat) (w : World) (h : NatAt w A n c z.natAbs) :
    Calls Try.prog 15 #[.agg #[.bool b, .slice A n c]] w (Ret w (.int .i64 (sgn z))) := by
  subst hb
  exact integer_Sign A n c z w h
theorem integer_Abs_b (b : Bool) {z : Int} (hb : bz z = b) (A : Option Addr) (n c : Nat) (w : World) (h : NatAt w A n c z.natAbs) :
    Calls Try.prog 31 #[.agg #[.bool b, .slice A n c]] w (RetNat w z.natAbs) := by
  subst hb
  exact integer_Abs A n c z w h
end Go.Proofs.Ytihbpkljjmpkjaa
