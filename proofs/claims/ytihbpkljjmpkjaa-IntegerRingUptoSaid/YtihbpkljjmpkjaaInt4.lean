/- The walks of package integer, third part: Div, Text, Read, Int. -/
import Derived.Test.YtihbpkljjmpkjaaInt3
import Derived.Test.YtihbpkljjmpkjaaDig4
import Derived.Test.YtihbpkljjmpkjaaKB
set_option linter.unusedVariables false
set_option linter.unusedSimpArgs false
namespace Go.Proofs.Ytihbpkljjmpkjaa
open Go.RowKit
set_option maxRecDepth 100000
def RetDivZ (w : World) (q r : Int) (b : Bool) (e : Ending) (w' : World) : Prop := ∃ A n c A' n' c', e = .returned (.tuple #[.agg #[.bool (bz q), .slice A n c], .agg #[.bool (bz r), .slice A' n' c'], .bool b]) ∧ NatAt w' A n c q.natAbs ∧ NatAt w' A' n' c' r.natAbs ∧ Below w.heap.size w w'
theorem dq_same {x y : Int} (h : bz x = bz y) : dq x y = sg false (x.natAbs / y.natAbs) ∧ dr x y = sg (bz y) (x.natAbs % y.natAbs) := by
  unfold dq dr
  rw [if_pos h, if_pos h]
  exact ⟨rfl, rfl⟩
theorem dq_even {x y : Int} (h : bz x ≠ bz y) (h0 : x.natAbs % y.natAbs = 0) : dq x y = sg true (x.natAbs / y.natAbs) ∧ dr x y = 0 := by
  unfold dq dr
  rw [if_neg h, if_neg h, if_pos h0, if_pos h0]
  exact ⟨rfl, rfl⟩
theorem dq_odd {x y : Int} (h : bz x ≠ bz y) (h0 : x.natAbs % y.natAbs ≠ 0) : dq x y = sg true (x.natAbs / y.natAbs + 1) ∧ dr x y = sg (bz y) (y.natAbs - x.natAbs % y.natAbs) := by
  unfold dq dr
  rw [if_neg h, if_neg h, if_neg h0, if_neg h0]
  exact ⟨rfl, rfl⟩
set_option maxHeartbeats 4000000 in
theorem integer_Div_zero (A : Option Addr) (n c : Nat) (x : Int) (A' : Option Addr) (n' c' : Nat) (y : Int) (w : World) (h : NatAt w A n c x.natAbs) (h' : NatAt w A' n' c' y.natAbs) (hn : n ≤ 17592186044000) (hy : y = 0) :
    Calls Try.prog 14 #[.agg #[.bool (bz x), .slice A n c], .agg #[.bool (bz y), .slice A' n' c']] w (RetDivZ w 0 0 false) := by
  have HY := Lib.hid (show y.natAbs = 0 by omega)
  clear hy
  go_enter Try.func14, Try.ntmps14
  go_wp2_with fail
  have X1 := Blk2.newAt w (w.heap.size) 29 (.bool (bz x)) (.slice A n c) (by first | rfl | simp)
  have X2 := Blk2.newAt (w.alloc (.cells #[.bool (bz x), .slice A n c] 29)) (w.heap.size + 1) 29 (.bool (bz y)) (.slice A' n' c') (by first | rfl | simp)
  have X3 := Blk2.newAt ((w.alloc (.cells #[.bool (bz x), .slice A n c] 29)).alloc (.cells #[.bool (bz y), .slice A' n' c'] 29)) (w.heap.size + 1 + 1) 29 (.bool false) (.slice none 0 0) (by first | rfl | simp)
  have X4 := Blk2.newAt (((w.alloc (.cells #[.bool (bz x), .slice A n c] 29)).alloc (.cells #[.bool (bz y), .slice A' n' c'] 29)).alloc (.cells #[.bool false, .slice none 0 0] 29)) (w.heap.size + 1 + 1 + 1) 29 (.bool false) (.slice none 0 0) (by first | rfl | simp)
  replace X1 := (show Blk2 ((((w.alloc (.cells #[.bool (bz x), .slice A n c] 29)).alloc (.cells #[.bool (bz y), .slice A' n' c'] 29)).alloc (.cells #[.bool false, .slice none 0 0] 29)).alloc (.cells #[.bool false, .slice none 0 0] 29)) _ _ _ _ from X1.to bW)
  replace X2 := (show Blk2 ((((w.alloc (.cells #[.bool (bz x), .slice A n c] 29)).alloc (.cells #[.bool (bz y), .slice A' n' c'] 29)).alloc (.cells #[.bool false, .slice none 0 0] 29)).alloc (.cells #[.bool false, .slice none 0 0] 29)) _ _ _ _ from X2.to bW)
  replace X3 := (show Blk2 ((((w.alloc (.cells #[.bool (bz x), .slice A n c] 29)).alloc (.cells #[.bool (bz y), .slice A' n' c'] 29)).alloc (.cells #[.bool false, .slice none 0 0] 29)).alloc (.cells #[.bool false, .slice none 0 0] 29)) _ _ _ _ from X3.to bW)
  have hbwe1 : Below w.heap.size w ((((w.alloc (.cells #[.bool (bz x), .slice A n c] 29)).alloc (.cells #[.bool (bz y), .slice A' n' c'] 29)).alloc (.cells #[.bool false, .slice none 0 0] 29)).alloc (.cells #[.bool false, .slice none 0 0] 29)) := bW
  generalize ((((w.alloc (.cells #[.bool (bz x), .slice A n c] 29)).alloc (.cells #[.bool (bz y), .slice A' n' c'] 29)).alloc (.cells #[.bool false, .slice none 0 0] 29)).alloc (.cells #[.bool false, .slice none 0 0] 29)) = we1 at X1 X2 X3 X4 hbwe1  ⊢
  refine (quot_DivMod_zero _ _ _ _ _ _ _ _ _ (h.to bW) (h'.to bW) (by omega) HY.out).mono ?_
  rintro e w1 ⟨A1, n1, c1, A1', n1', c1', rfl, h1, h1', hb1⟩
  have q1 := h1.le_of 0 (by decide)
  have q1' := h1'.le_of 0 (by decide)
  have d1 := (show Blk2 ((w1.alloc (.cells #[.slice A1 n1 c1] 27)).alloc (.cells #[.slice A1' n1' c1'] 27)) _ _ _ _ from X3.to bW).cell
  have d1' := (show Blk2 ((w1.alloc (.cells #[.slice A1 n1 c1] 27)).alloc (.cells #[.slice A1' n1' c1'] 27)) _ _ _ _ from X3.to bW).cell1
  have f0d1 := (show Blk2 ((w1.alloc (.cells #[.slice A1 n1 c1] 27)).alloc (.cells #[.slice A1' n1' c1'] 27)) _ _ _ _ from X3.to bW).free 0
  have f1d1 := (show Blk2 ((w1.alloc (.cells #[.slice A1 n1 c1] 27)).alloc (.cells #[.slice A1' n1' c1'] 27)) _ _ _ _ from X3.to bW).free 1
  have d2 := (show Blk2 ((w1.alloc (.cells #[.slice A1 n1 c1] 27)).alloc (.cells #[.slice A1' n1' c1'] 27)) _ _ _ _ from X4.to bW).cell
  have d2' := (show Blk2 ((w1.alloc (.cells #[.slice A1 n1 c1] 27)).alloc (.cells #[.slice A1' n1' c1'] 27)) _ _ _ _ from X4.to bW).cell1
  have f0d2 := (show Blk2 ((w1.alloc (.cells #[.slice A1 n1 c1] 27)).alloc (.cells #[.slice A1' n1' c1'] 27)) _ _ _ _ from X4.to bW).free 0
  have f1d2 := (show Blk2 ((w1.alloc (.cells #[.slice A1 n1 c1] 27)).alloc (.cells #[.slice A1' n1' c1'] 27)) _ _ _ _ from X4.to bW).free 1
  go_wp2_with fail
  clear d1 d1' f0d1 f1d1 d2 d2' f0d2 f1d2
  have ltX1_w1 : w.heap.size < w1.heap.size := (show Blk2 w1 _ _ _ _ from X1.to bW).lt
  have ltX2_w1 : w.heap.size + 1 < w1.heap.size := (show Blk2 w1 _ _ _ _ from X2.to bW).lt
  have ltX3_w1 : w.heap.size + 1 + 1 < w1.heap.size := (show Blk2 w1 _ _ _ _ from X3.to bW).lt
  have ltX4_w1 : w.heap.size + 1 + 1 + 1 < w1.heap.size := (show Blk2 w1 _ _ _ _ from X4.to bW).lt
  have X5 := Blk1.newAt w1 (w1.heap.size) 27 (.slice A1 n1 c1) (by first | rfl | simp)
  have X6 := Blk1.newAt (w1.alloc (.cells #[.slice A1 n1 c1] 27)) (w1.heap.size + 1) 27 (.slice A1' n1' c1') (by first | rfl | simp)
  replace X5 := (show Blk1 ((w1.alloc (.cells #[.slice A1 n1 c1] 27)).alloc (.cells #[.slice A1' n1' c1'] 27)) _ _ _ from X5.to bW)
  have hbwe2 : Below w1.heap.size w1 ((w1.alloc (.cells #[.slice A1 n1 c1] 27)).alloc (.cells #[.slice A1' n1' c1'] 27)) := bW
  generalize ((w1.alloc (.cells #[.slice A1 n1 c1] 27)).alloc (.cells #[.slice A1' n1' c1'] 27)) = we2 at X5 X6 hbwe2  ⊢
  replace h := (show NatAt we2 _ _ _ _ from h.to bW)
  replace h' := (show NatAt we2 _ _ _ _ from h'.to bW)
  replace h1 := (show NatAt we2 _ _ _ _ from h1.to bW)
  replace h1' := (show NatAt we2 _ _ _ _ from h1'.to bW)
  replace X1 := (show Blk2 we2 _ _ _ _ from X1.to bW)
  replace X2 := (show Blk2 we2 _ _ _ _ from X2.to bW)
  replace X3 := (show Blk2 we2 _ _ _ _ from X3.to bW)
  replace X4 := (show Blk2 we2 _ _ _ _ from X4.to bW)
  replace X5 := (show Blk1 we2 _ _ _ from X5.to bW)
  replace X6 := (show Blk1 we2 _ _ _ from X6.to bW)
  have hbws3 := below_put2 (show Below w.heap.size w we2 from bW) (g := w.heap.size + 1 + 1) (by show w.heap.size ≤ w.heap.size + 1 + 1; omega) (.bool false) (.slice none 0 0)
  replace h := h.put2 X3 (.bool false) (.slice none 0 0)
  replace h' := h'.put2 X3 (.bool false) (.slice none 0 0)
  replace h1 := h1.put2 X3 (.bool false) (.slice none 0 0)
  replace h1' := h1'.put2 X3 (.bool false) (.slice none 0 0)
  replace X1 := X1.off2 (g := w.heap.size + 1 + 1) (by show w.heap.size ≠ w.heap.size + 1 + 1; omega) (.bool false) (.slice none 0 0)
  replace X2 := X2.off2 (g := w.heap.size + 1 + 1) (by show w.heap.size + 1 ≠ w.heap.size + 1 + 1; omega) (.bool false) (.slice none 0 0)
  replace X4 := X4.off2 (g := w.heap.size + 1 + 1) (by show w.heap.size + 1 + 1 + 1 ≠ w.heap.size + 1 + 1; omega) (.bool false) (.slice none 0 0)
  replace X5 := X5.off2 (g := w.heap.size + 1 + 1) (by show w1.heap.size ≠ w.heap.size + 1 + 1; omega) (.bool false) (.slice none 0 0)
  replace X6 := X6.off2 (g := w.heap.size + 1 + 1) (by show w1.heap.size + 1 ≠ w.heap.size + 1 + 1; omega) (.bool false) (.slice none 0 0)
  replace X3 := X3.put2 (.bool false) (.slice none 0 0)
  rw [show (we2.setCell ⟨w.heap.size + 1 + 1, 0, none⟩ (.bool false)).setCell ⟨w.heap.size + 1 + 1, 1, none⟩ (.slice none 0 0) = put2 we2 (w.heap.size + 1 + 1) (.bool false) (.slice none 0 0) from rfl]
  generalize put2 we2 (w.heap.size + 1 + 1) (.bool false) (.slice none 0 0) = ws3 at h h' h1 h1' X1 X2 X4 X5 X6 X3 hbws3 ⊢
  replace h := (show NatAt ws3 _ _ _ _ from h.to bW)
  replace h' := (show NatAt ws3 _ _ _ _ from h'.to bW)
  replace h1 := (show NatAt ws3 _ _ _ _ from h1.to bW)
  replace h1' := (show NatAt ws3 _ _ _ _ from h1'.to bW)
  replace X1 := (show Blk2 ws3 _ _ _ _ from X1.to bW)
  replace X2 := (show Blk2 ws3 _ _ _ _ from X2.to bW)
  replace X3 := (show Blk2 ws3 _ _ _ _ from X3.to bW)
  replace X4 := (show Blk2 ws3 _ _ _ _ from X4.to bW)
  replace X5 := (show Blk1 ws3 _ _ _ from X5.to bW)
  replace X6 := (show Blk1 ws3 _ _ _ from X6.to bW)
  have hbws4 := below_put2 (show Below w.heap.size w ws3 from bW) (g := w.heap.size + 1 + 1 + 1) (by show w.heap.size ≤ w.heap.size + 1 + 1 + 1; omega) (.bool false) (.slice none 0 0)
  replace h := h.put2 X4 (.bool false) (.slice none 0 0)
  replace h' := h'.put2 X4 (.bool false) (.slice none 0 0)
  replace h1 := h1.put2 X4 (.bool false) (.slice none 0 0)
  replace h1' := h1'.put2 X4 (.bool false) (.slice none 0 0)
  replace X1 := X1.off2 (g := w.heap.size + 1 + 1 + 1) (by show w.heap.size ≠ w.heap.size + 1 + 1 + 1; omega) (.bool false) (.slice none 0 0)
  replace X2 := X2.off2 (g := w.heap.size + 1 + 1 + 1) (by show w.heap.size + 1 ≠ w.heap.size + 1 + 1 + 1; omega) (.bool false) (.slice none 0 0)
  replace X3 := X3.off2 (g := w.heap.size + 1 + 1 + 1) (by show w.heap.size + 1 + 1 ≠ w.heap.size + 1 + 1 + 1; omega) (.bool false) (.slice none 0 0)
  replace X5 := X5.off2 (g := w.heap.size + 1 + 1 + 1) (by show w1.heap.size ≠ w.heap.size + 1 + 1 + 1; omega) (.bool false) (.slice none 0 0)
  replace X6 := X6.off2 (g := w.heap.size + 1 + 1 + 1) (by show w1.heap.size + 1 ≠ w.heap.size + 1 + 1 + 1; omega) (.bool false) (.slice none 0 0)
  replace X4 := X4.put2 (.bool false) (.slice none 0 0)
  rw [show (ws3.setCell ⟨w.heap.size + 1 + 1 + 1, 0, none⟩ (.bool false)).setCell ⟨w.heap.size + 1 + 1 + 1, 1, none⟩ (.slice none 0 0) = put2 ws3 (w.heap.size + 1 + 1 + 1) (.bool false) (.slice none 0 0) from rfl]
  generalize put2 ws3 (w.heap.size + 1 + 1 + 1) (.bool false) (.slice none 0 0) = ws4 at h h' h1 h1' X1 X2 X3 X5 X6 X4 hbws4 ⊢
  have erX3 := (show Blk2 ws4 _ _ _ _ from X3.to bW).cell
  have erX3' := (show Blk2 ws4 _ _ _ _ from X3.to bW).cell1
  have erX4 := (show Blk2 ws4 _ _ _ _ from X4.to bW).cell
  have erX4' := (show Blk2 ws4 _ _ _ _ from X4.to bW).cell1
  exact bodyPost_ret (v := .tuple #[.agg #[.bool false, .slice none 0 0], .agg #[.bool false, .slice none 0 0], .bool false]) (by simp [results, Try.results14, go_sem, erX3, erX3', erX4, erX4']) rfl ⟨_, _, _, _, _, _, rfl, (show NatAt ws4 _ _ _ _ from (nat_nil ws4)), (show NatAt ws4 _ _ _ _ from (nat_nil ws4)), (show Below w.heap.size w ws4 from bW)⟩
set_option maxHeartbeats 4000000 in
theorem integer_Div_pos (A : Option Addr) (n c : Nat) (x : Int) (A' : Option Addr) (n' c' : Nat) (y : Int) (w : World) (h : NatAt w A n c x.natAbs) (h' : NatAt w A' n' c' y.natAbs) (hn : n ≤ 17592186044000) (hn' : n' ≤ 17592186044000) (hp : 0 < y.natAbs) :
    Calls Try.prog 14 #[.agg #[.bool (bz x), .slice A n c], .agg #[.bool (bz y), .slice A' n' c']] w (RetDivZ w (dq x y) (dr x y) true) := by
  cases hx : bz x
  case false =>
    cases hy : bz y
    case false =>
      have HE := Lib.hid (dq_same (hx.trans hy.symm))
      rw [hy] at HE
      have HP := Lib.hid hp
      clear hx hy hp
      go_enter Try.func14, Try.ntmps14
      go_wp2_with fail
      have X1 := Blk2.newAt w (w.heap.size) 29 (.bool false) (.slice A n c) (by first | rfl | simp)
      have X2 := Blk2.newAt (w.alloc (.cells #[.bool false, .slice A n c] 29)) (w.heap.size + 1) 29 (.bool false) (.slice A' n' c') (by first | rfl | simp)
      have X3 := Blk2.newAt ((w.alloc (.cells #[.bool false, .slice A n c] 29)).alloc (.cells #[.bool false, .slice A' n' c'] 29)) (w.heap.size + 1 + 1) 29 (.bool false) (.slice none 0 0) (by first | rfl | simp)
      have X4 := Blk2.newAt (((w.alloc (.cells #[.bool false, .slice A n c] 29)).alloc (.cells #[.bool false, .slice A' n' c'] 29)).alloc (.cells #[.bool false, .slice none 0 0] 29)) (w.heap.size + 1 + 1 + 1) 29 (.bool false) (.slice none 0 0) (by first | rfl | simp)
      replace X1 := (show Blk2 ((((w.alloc (.cells #[.bool false, .slice A n c] 29)).alloc (.cells #[.bool false, .slice A' n' c'] 29)).alloc (.cells #[.bool false, .slice none 0 0] 29)).alloc (.cells #[.bool false, .slice none 0 0] 29)) _ _ _ _ from X1.to bW)
      replace X2 := (show Blk2 ((((w.alloc (.cells #[.bool false, .slice A n c] 29)).alloc (.cells #[.bool false, .slice A' n' c'] 29)).alloc (.cells #[.bool false, .slice none 0 0] 29)).alloc (.cells #[.bool false, .slice none 0 0] 29)) _ _ _ _ from X2.to bW)
      replace X3 := (show Blk2 ((((w.alloc (.cells #[.bool false, .slice A n c] 29)).alloc (.cells #[.bool false, .slice A' n' c'] 29)).alloc (.cells #[.bool false, .slice none 0 0] 29)).alloc (.cells #[.bool false, .slice none 0 0] 29)) _ _ _ _ from X3.to bW)
      have hbwe1 : Below w.heap.size w ((((w.alloc (.cells #[.bool false, .slice A n c] 29)).alloc (.cells #[.bool false, .slice A' n' c'] 29)).alloc (.cells #[.bool false, .slice none 0 0] 29)).alloc (.cells #[.bool false, .slice none 0 0] 29)) := bW
      generalize ((((w.alloc (.cells #[.bool false, .slice A n c] 29)).alloc (.cells #[.bool false, .slice A' n' c'] 29)).alloc (.cells #[.bool false, .slice none 0 0] 29)).alloc (.cells #[.bool false, .slice none 0 0] 29)) = we1 at X1 X2 X3 X4 hbwe1  ⊢
      refine (quot_DivMod _ _ _ _ _ _ _ _ _ (h.to bW) (h'.to bW) (by omega) HP.out).mono ?_
      rintro e w1 ⟨A1, n1, c1, A1', n1', c1', rfl, h1, h1', hb1⟩
      have q1 := h1.le_of _ (Nat.lt_of_le_of_lt (Nat.div_le_self _ _) h.lt)
      have q1' := h1'.le_of _ (Nat.lt_of_le_of_lt (Nat.mod_le _ _) h.lt)
      have d1 := (show Blk2 ((w1.alloc (.cells #[.slice A1 n1 c1] 27)).alloc (.cells #[.slice A1' n1' c1'] 27)) _ _ _ _ from X1.to bW).cell
      have d1' := (show Blk2 ((w1.alloc (.cells #[.slice A1 n1 c1] 27)).alloc (.cells #[.slice A1' n1' c1'] 27)) _ _ _ _ from X1.to bW).cell1
      have d2 := (show Blk2 ((w1.alloc (.cells #[.slice A1 n1 c1] 27)).alloc (.cells #[.slice A1' n1' c1'] 27)) _ _ _ _ from X2.to bW).cell
      have d2' := (show Blk2 ((w1.alloc (.cells #[.slice A1 n1 c1] 27)).alloc (.cells #[.slice A1' n1' c1'] 27)) _ _ _ _ from X2.to bW).cell1
      go_wp2_with fail
      clear d1 d1' d2 d2'
      have ltX1_w1 : w.heap.size < w1.heap.size := (show Blk2 w1 _ _ _ _ from X1.to bW).lt
      have ltX2_w1 : w.heap.size + 1 < w1.heap.size := (show Blk2 w1 _ _ _ _ from X2.to bW).lt
      have ltX3_w1 : w.heap.size + 1 + 1 < w1.heap.size := (show Blk2 w1 _ _ _ _ from X3.to bW).lt
      have ltX4_w1 : w.heap.size + 1 + 1 + 1 < w1.heap.size := (show Blk2 w1 _ _ _ _ from X4.to bW).lt
      have X5 := Blk1.newAt w1 (w1.heap.size) 27 (.slice A1 n1 c1) (by first | rfl | simp)
      have X6 := Blk1.newAt (w1.alloc (.cells #[.slice A1 n1 c1] 27)) (w1.heap.size + 1) 27 (.slice A1' n1' c1') (by first | rfl | simp)
      replace X5 := (show Blk1 ((w1.alloc (.cells #[.slice A1 n1 c1] 27)).alloc (.cells #[.slice A1' n1' c1'] 27)) _ _ _ from X5.to bW)
      have hbwe2 : Below w1.heap.size w1 ((w1.alloc (.cells #[.slice A1 n1 c1] 27)).alloc (.cells #[.slice A1' n1' c1'] 27)) := bW
      generalize ((w1.alloc (.cells #[.slice A1 n1 c1] 27)).alloc (.cells #[.slice A1' n1' c1'] 27)) = we2 at X5 X6 hbwe2  ⊢
      have CX5 := (show Blk1 we2 _ _ _ from X5.to bW).cell
      have CX2 := (show Blk2 we2 _ _ _ _ from X2.to bW).cell
      have CX2' := (show Blk2 we2 _ _ _ _ from X2.to bW).cell1
      have CX6 := (show Blk1 we2 _ _ _ from X6.to bW).cell
      have KP1 : ∀ w', Below we2.heap.size we2 w' → w'.cell? ⟨w1.heap.size, 0, none⟩ = some (.slice A1 n1 c1) ∧ w'.cell? ⟨w.heap.size + 1, 0, none⟩ = some (.bool false) ∧ w'.cell? ⟨w.heap.size + 1, 1, none⟩ = some (.slice A' n' c') ∧ w'.cell? ⟨w1.heap.size + 1, 0, none⟩ = some (.slice A1' n1' c1') ∧ True := fun w' hw' => ⟨cellB hw' CX5, cellB hw' CX2, cellB hw' CX2', cellB hw' CX6, trivial⟩
      refine wp_regionT (S := fun w' => w'.cell? ⟨w1.heap.size, 0, none⟩ = some (.slice A1 n1 c1) ∧ w'.cell? ⟨w.heap.size + 1, 0, none⟩ = some (.bool false) ∧ w'.cell? ⟨w.heap.size + 1, 1, none⟩ = some (.slice A' n' c') ∧ w'.cell? ⟨w1.heap.size + 1, 0, none⟩ = some (.slice A1' n1' c1') ∧ True) [] kR (by first | exact ⟨CSX5_1, CSX2_1, CSX2'_1, CSX6_1, trivial⟩ | exact ⟨CSX5_2, CSX2_2, CSX2'_2, CSX6_2, trivial⟩ | exact KP1 _ bW) (fun hHeld => ?_)
      have hbd1 : Below we2.heap.size we2 we2.drew := nxw (Below.refl _ _)
      generalize we2.drew = wd1 at hHeld hbd1 ⊢
      refine anyT_take (i := 0) (v := ?_) gO kR kR kR kR (by exact fun _ _ _ h => h) (Or.inl ⟨by rfl, ?_⟩) (by assumption) ?_
      rotate_left
      · intro w hSw; (try dsimp only at hSw); go_simp; try with_reducible rfl
      try simp only [Act.put, sX, sY, sZ]
      refine anyT_take (i := 2) (v := ?_) gO kR kR kR kR (by exact fun _ _ _ h => h) (Or.inl ⟨by rfl, ?_⟩) (by assumption) ?_
      rotate_left
      · intro w hSw; (try dsimp only at hSw); go_simp; try with_reducible rfl
      try simp only [Act.put, sX, sY, sZ]
      refine anyT_take (i := 3) (v := ?_) gO kR kR kR kR (by exact fun _ _ _ h => h) (Or.inl ⟨by rfl, ?_⟩) (by assumption) ?_
      rotate_left
      · intro w hSw; (try dsimp only at hSw); go_simp; try with_reducible rfl
      try simp only [Act.put, sX, sY, sZ]
      refine anyT_take (i := 4) (v := ?_) gO kR kR kR kR (by exact fun _ _ _ h => h) (Or.inl ⟨by rfl, ?_⟩) (by assumption) ?_
      rotate_left
      · intro w hSw; (try dsimp only at hSw); go_simp; try with_reducible rfl
      try simp only [Act.put, sX, sY, sZ]
      refine anyT_ready (rs := [1]) kR (by simp) (ReadyT.cons gO (fun K hK => ?_) ReadyT.nil)
      go_simp
      go_at_call 37
      refine (integer_New false _ _ _ (x.natAbs / y.natAbs) _ (h1.to bW)).mono ?_
      rw [← HE.out.1]
      rintro e w2 ⟨A2, n2, c2, rfl, h2, hb2⟩
      go_simp
      refine hK.out _ _ (by first | exact ⟨CSX5_1, CSX2_1, CSX2'_1, CSX6_1, trivial⟩ | exact ⟨CSX5_2, CSX2_2, CSX2'_2, CSX6_2, trivial⟩ | exact KP1 _ bW) (fun hHeld => ?_)
      clear hK K
      try simp only [Act.put, sX, sY, sZ]
      refine anyT_ready (rs := [5]) kR (by simp) (ReadyT.cons gO (fun K hK => ?_) ReadyT.nil)
      go_simp
      go_at_call 37
      refine (integer_New false _ _ _ (x.natAbs % y.natAbs) _ (h1'.to bW)).mono ?_
      rw [← HE.out.2]
      rintro e w3 ⟨A3, n3, c3, rfl, h3, hb3⟩
      go_simp
      refine hK.out _ _ (by first | exact ⟨CSX5_1, CSX2_1, CSX2'_1, CSX6_1, trivial⟩ | exact ⟨CSX5_2, CSX2_2, CSX2'_2, CSX6_2, trivial⟩ | exact KP1 _ bW) (fun hHeld => ?_)
      clear hK K
      try simp only [Act.put, sX, sY, sZ]
      refine anyT_ready (rs := [6]) kR (by simp) (ReadyT.cons gO (fun K hK => ?_) ReadyT.nil)
      have cqX3 := (show Blk2 w3 _ _ _ _ from X3.to bW).cell
      have cqX3' := (show Blk2 w3 _ _ _ _ from X3.to bW).cell1
      have fqX3 := (show Blk2 w3 _ _ _ _ from X3.to bW).free 0
      have fqX3' := (show Blk2 w3 _ _ _ _ from X3.to bW).free 1
      have CSX5_1 := (((show Blk1 w3 _ _ _ from X5.to bW).far (p := ⟨w.heap.size + 1 + 1, 0, none⟩) (by show w1.heap.size ≠ w.heap.size + 1 + 1; omega) (.bool (bz (dq x y)))).far (p := ⟨w.heap.size + 1 + 1, 1, none⟩) (by show w1.heap.size ≠ w.heap.size + 1 + 1; omega) (.slice A2 n2 c2)).cell
      have CSX2_1 := (((show Blk2 w3 _ _ _ _ from X2.to bW).far (p := ⟨w.heap.size + 1 + 1, 0, none⟩) (by show w.heap.size + 1 ≠ w.heap.size + 1 + 1; omega) (.bool (bz (dq x y)))).far (p := ⟨w.heap.size + 1 + 1, 1, none⟩) (by show w.heap.size + 1 ≠ w.heap.size + 1 + 1; omega) (.slice A2 n2 c2)).cell
      have CSX2'_1 := (((show Blk2 w3 _ _ _ _ from X2.to bW).far (p := ⟨w.heap.size + 1 + 1, 0, none⟩) (by show w.heap.size + 1 ≠ w.heap.size + 1 + 1; omega) (.bool (bz (dq x y)))).far (p := ⟨w.heap.size + 1 + 1, 1, none⟩) (by show w.heap.size + 1 ≠ w.heap.size + 1 + 1; omega) (.slice A2 n2 c2)).cell1
      have CSX6_1 := (((show Blk1 w3 _ _ _ from X6.to bW).far (p := ⟨w.heap.size + 1 + 1, 0, none⟩) (by show w1.heap.size + 1 ≠ w.heap.size + 1 + 1; omega) (.bool (bz (dq x y)))).far (p := ⟨w.heap.size + 1 + 1, 1, none⟩) (by show w1.heap.size + 1 ≠ w.heap.size + 1 + 1; omega) (.slice A2 n2 c2)).cell
      go_simp
      refine hK.out _ _ (by first | exact ⟨CSX5_1, CSX2_1, CSX2'_1, CSX6_1, trivial⟩ | exact ⟨CSX5_2, CSX2_2, CSX2'_2, CSX6_2, trivial⟩ | exact KP1 _ bW) (fun hHeld => ?_)
      clear hK K
      try simp only [Act.put, sX, sY, sZ]
      refine anyT_ready (rs := [7]) kR (by simp) (ReadyT.cons gO (fun K hK => ?_) ReadyT.nil)
      have cqX4 := (((show Blk2 w3 _ _ _ _ from X4.to bW).far (p := ⟨w.heap.size + 1 + 1, 0, none⟩) (by show w.heap.size + 1 + 1 + 1 ≠ w.heap.size + 1 + 1; omega) (.bool (bz (dq x y)))).far (p := ⟨w.heap.size + 1 + 1, 1, none⟩) (by show w.heap.size + 1 + 1 + 1 ≠ w.heap.size + 1 + 1; omega) (.slice A2 n2 c2)).cell
      have cqX4' := (((show Blk2 w3 _ _ _ _ from X4.to bW).far (p := ⟨w.heap.size + 1 + 1, 0, none⟩) (by show w.heap.size + 1 + 1 + 1 ≠ w.heap.size + 1 + 1; omega) (.bool (bz (dq x y)))).far (p := ⟨w.heap.size + 1 + 1, 1, none⟩) (by show w.heap.size + 1 + 1 + 1 ≠ w.heap.size + 1 + 1; omega) (.slice A2 n2 c2)).cell1
      have fqX4 := (((show Blk2 w3 _ _ _ _ from X4.to bW).far (p := ⟨w.heap.size + 1 + 1, 0, none⟩) (by show w.heap.size + 1 + 1 + 1 ≠ w.heap.size + 1 + 1; omega) (.bool (bz (dq x y)))).far (p := ⟨w.heap.size + 1 + 1, 1, none⟩) (by show w.heap.size + 1 + 1 + 1 ≠ w.heap.size + 1 + 1; omega) (.slice A2 n2 c2)).free 0
      have fqX4' := (((show Blk2 w3 _ _ _ _ from X4.to bW).far (p := ⟨w.heap.size + 1 + 1, 0, none⟩) (by show w.heap.size + 1 + 1 + 1 ≠ w.heap.size + 1 + 1; omega) (.bool (bz (dq x y)))).far (p := ⟨w.heap.size + 1 + 1, 1, none⟩) (by show w.heap.size + 1 + 1 + 1 ≠ w.heap.size + 1 + 1; omega) (.slice A2 n2 c2)).free 1
      have CSX5_2 := (((((show Blk1 w3 _ _ _ from X5.to bW).far (p := ⟨w.heap.size + 1 + 1, 0, none⟩) (by show w1.heap.size ≠ w.heap.size + 1 + 1; omega) (.bool (bz (dq x y)))).far (p := ⟨w.heap.size + 1 + 1, 1, none⟩) (by show w1.heap.size ≠ w.heap.size + 1 + 1; omega) (.slice A2 n2 c2)).far (p := ⟨w.heap.size + 1 + 1 + 1, 0, none⟩) (by show w1.heap.size ≠ w.heap.size + 1 + 1 + 1; omega) (.bool (bz (dr x y)))).far (p := ⟨w.heap.size + 1 + 1 + 1, 1, none⟩) (by show w1.heap.size ≠ w.heap.size + 1 + 1 + 1; omega) (.slice A3 n3 c3)).cell
      have CSX2_2 := (((((show Blk2 w3 _ _ _ _ from X2.to bW).far (p := ⟨w.heap.size + 1 + 1, 0, none⟩) (by show w.heap.size + 1 ≠ w.heap.size + 1 + 1; omega) (.bool (bz (dq x y)))).far (p := ⟨w.heap.size + 1 + 1, 1, none⟩) (by show w.heap.size + 1 ≠ w.heap.size + 1 + 1; omega) (.slice A2 n2 c2)).far (p := ⟨w.heap.size + 1 + 1 + 1, 0, none⟩) (by show w.heap.size + 1 ≠ w.heap.size + 1 + 1 + 1; omega) (.bool (bz (dr x y)))).far (p := ⟨w.heap.size + 1 + 1 + 1, 1, none⟩) (by show w.heap.size + 1 ≠ w.heap.size + 1 + 1 + 1; omega) (.slice A3 n3 c3)).cell
      have CSX2'_2 := (((((show Blk2 w3 _ _ _ _ from X2.to bW).far (p := ⟨w.heap.size + 1 + 1, 0, none⟩) (by show w.heap.size + 1 ≠ w.heap.size + 1 + 1; omega) (.bool (bz (dq x y)))).far (p := ⟨w.heap.size + 1 + 1, 1, none⟩) (by show w.heap.size + 1 ≠ w.heap.size + 1 + 1; omega) (.slice A2 n2 c2)).far (p := ⟨w.heap.size + 1 + 1 + 1, 0, none⟩) (by show w.heap.size + 1 ≠ w.heap.size + 1 + 1 + 1; omega) (.bool (bz (dr x y)))).far (p := ⟨w.heap.size + 1 + 1 + 1, 1, none⟩) (by show w.heap.size + 1 ≠ w.heap.size + 1 + 1 + 1; omega) (.slice A3 n3 c3)).cell1
      have CSX6_2 := (((((show Blk1 w3 _ _ _ from X6.to bW).far (p := ⟨w.heap.size + 1 + 1, 0, none⟩) (by show w1.heap.size + 1 ≠ w.heap.size + 1 + 1; omega) (.bool (bz (dq x y)))).far (p := ⟨w.heap.size + 1 + 1, 1, none⟩) (by show w1.heap.size + 1 ≠ w.heap.size + 1 + 1; omega) (.slice A2 n2 c2)).far (p := ⟨w.heap.size + 1 + 1 + 1, 0, none⟩) (by show w1.heap.size + 1 ≠ w.heap.size + 1 + 1 + 1; omega) (.bool (bz (dr x y)))).far (p := ⟨w.heap.size + 1 + 1 + 1, 1, none⟩) (by show w1.heap.size + 1 ≠ w.heap.size + 1 + 1 + 1; omega) (.slice A3 n3 c3)).cell
      go_simp
      refine hK.out _ _ (by first | exact ⟨CSX5_1, CSX2_1, CSX2'_1, CSX6_1, trivial⟩ | exact ⟨CSX5_2, CSX2_2, CSX2'_2, CSX6_2, trivial⟩ | exact KP1 _ bW) (fun hHeld => ?_)
      clear hK K
      try simp only [Act.put, sX, sY, sZ]
      refine anyT_take (i := 8) (v := ?_) gO kR kR kR kR (by exact fun _ _ _ h => h) (Or.inl ⟨by rfl, ?_⟩) (by assumption) ?_
      rotate_left
      · intro w hSw; (try dsimp only at hSw); go_simp; try with_reducible rfl
      try simp only [Act.put, sX, sY, sZ]
      refine anyT_done kR ?_ _
      clear CSX5_1 CSX2_1 CSX2'_1 CSX6_1 CSX5_2 CSX2_2 CSX2'_2 CSX6_2
      clear hHeld cqX3 cqX3' fqX3' fqX3 cqX4 cqX4' fqX4' fqX4 CX5 CX2 CX2' CX6 KP1
      replace h := (show NatAt w3 _ _ _ _ from h.to bW)
      replace h' := (show NatAt w3 _ _ _ _ from h'.to bW)
      replace h1 := (show NatAt w3 _ _ _ _ from h1.to bW)
      replace h1' := (show NatAt w3 _ _ _ _ from h1'.to bW)
      replace h2 := (show NatAt w3 _ _ _ _ from h2.to bW)
      replace h3 := (show NatAt w3 _ _ _ _ from h3.to bW)
      replace X1 := (show Blk2 w3 _ _ _ _ from X1.to bW)
      replace X2 := (show Blk2 w3 _ _ _ _ from X2.to bW)
      replace X3 := (show Blk2 w3 _ _ _ _ from X3.to bW)
      replace X4 := (show Blk2 w3 _ _ _ _ from X4.to bW)
      replace X5 := (show Blk1 w3 _ _ _ from X5.to bW)
      replace X6 := (show Blk1 w3 _ _ _ from X6.to bW)
      have hbws3 := below_put2 (show Below w.heap.size w w3 from bW) (g := w.heap.size + 1 + 1) (by show w.heap.size ≤ w.heap.size + 1 + 1; omega) (.bool (bz (dq x y))) (.slice A2 n2 c2)
      replace h := h.put2 X3 (.bool (bz (dq x y))) (.slice A2 n2 c2)
      replace h' := h'.put2 X3 (.bool (bz (dq x y))) (.slice A2 n2 c2)
      replace h1 := h1.put2 X3 (.bool (bz (dq x y))) (.slice A2 n2 c2)
      replace h1' := h1'.put2 X3 (.bool (bz (dq x y))) (.slice A2 n2 c2)
      replace h2 := h2.put2 X3 (.bool (bz (dq x y))) (.slice A2 n2 c2)
      replace h3 := h3.put2 X3 (.bool (bz (dq x y))) (.slice A2 n2 c2)
      replace X1 := X1.off2 (g := w.heap.size + 1 + 1) (by show w.heap.size ≠ w.heap.size + 1 + 1; omega) (.bool (bz (dq x y))) (.slice A2 n2 c2)
      replace X2 := X2.off2 (g := w.heap.size + 1 + 1) (by show w.heap.size + 1 ≠ w.heap.size + 1 + 1; omega) (.bool (bz (dq x y))) (.slice A2 n2 c2)
      replace X4 := X4.off2 (g := w.heap.size + 1 + 1) (by show w.heap.size + 1 + 1 + 1 ≠ w.heap.size + 1 + 1; omega) (.bool (bz (dq x y))) (.slice A2 n2 c2)
      replace X5 := X5.off2 (g := w.heap.size + 1 + 1) (by show w1.heap.size ≠ w.heap.size + 1 + 1; omega) (.bool (bz (dq x y))) (.slice A2 n2 c2)
      replace X6 := X6.off2 (g := w.heap.size + 1 + 1) (by show w1.heap.size + 1 ≠ w.heap.size + 1 + 1; omega) (.bool (bz (dq x y))) (.slice A2 n2 c2)
      replace X3 := X3.put2 (.bool (bz (dq x y))) (.slice A2 n2 c2)
      rw [show (w3.setCell ⟨w.heap.size + 1 + 1, 0, none⟩ (.bool (bz (dq x y)))).setCell ⟨w.heap.size + 1 + 1, 1, none⟩ (.slice A2 n2 c2) = put2 w3 (w.heap.size + 1 + 1) (.bool (bz (dq x y))) (.slice A2 n2 c2) from rfl]
      generalize put2 w3 (w.heap.size + 1 + 1) (.bool (bz (dq x y))) (.slice A2 n2 c2) = ws3 at h h' h1 h1' h2 h3 X1 X2 X4 X5 X6 X3 hbws3 ⊢
      replace h := (show NatAt ws3 _ _ _ _ from h.to bW)
      replace h' := (show NatAt ws3 _ _ _ _ from h'.to bW)
      replace h1 := (show NatAt ws3 _ _ _ _ from h1.to bW)
      replace h1' := (show NatAt ws3 _ _ _ _ from h1'.to bW)
      replace h2 := (show NatAt ws3 _ _ _ _ from h2.to bW)
      replace h3 := (show NatAt ws3 _ _ _ _ from h3.to bW)
      replace X1 := (show Blk2 ws3 _ _ _ _ from X1.to bW)
      replace X2 := (show Blk2 ws3 _ _ _ _ from X2.to bW)
      replace X3 := (show Blk2 ws3 _ _ _ _ from X3.to bW)
      replace X4 := (show Blk2 ws3 _ _ _ _ from X4.to bW)
      replace X5 := (show Blk1 ws3 _ _ _ from X5.to bW)
      replace X6 := (show Blk1 ws3 _ _ _ from X6.to bW)
      have hbws4 := below_put2 (show Below w.heap.size w ws3 from bW) (g := w.heap.size + 1 + 1 + 1) (by show w.heap.size ≤ w.heap.size + 1 + 1 + 1; omega) (.bool (bz (dr x y))) (.slice A3 n3 c3)
      replace h := h.put2 X4 (.bool (bz (dr x y))) (.slice A3 n3 c3)
      replace h' := h'.put2 X4 (.bool (bz (dr x y))) (.slice A3 n3 c3)
      replace h1 := h1.put2 X4 (.bool (bz (dr x y))) (.slice A3 n3 c3)
      replace h1' := h1'.put2 X4 (.bool (bz (dr x y))) (.slice A3 n3 c3)
      replace h2 := h2.put2 X4 (.bool (bz (dr x y))) (.slice A3 n3 c3)
      replace h3 := h3.put2 X4 (.bool (bz (dr x y))) (.slice A3 n3 c3)
      replace X1 := X1.off2 (g := w.heap.size + 1 + 1 + 1) (by show w.heap.size ≠ w.heap.size + 1 + 1 + 1; omega) (.bool (bz (dr x y))) (.slice A3 n3 c3)
      replace X2 := X2.off2 (g := w.heap.size + 1 + 1 + 1) (by show w.heap.size + 1 ≠ w.heap.size + 1 + 1 + 1; omega) (.bool (bz (dr x y))) (.slice A3 n3 c3)
      replace X3 := X3.off2 (g := w.heap.size + 1 + 1 + 1) (by show w.heap.size + 1 + 1 ≠ w.heap.size + 1 + 1 + 1; omega) (.bool (bz (dr x y))) (.slice A3 n3 c3)
      replace X5 := X5.off2 (g := w.heap.size + 1 + 1 + 1) (by show w1.heap.size ≠ w.heap.size + 1 + 1 + 1; omega) (.bool (bz (dr x y))) (.slice A3 n3 c3)
      replace X6 := X6.off2 (g := w.heap.size + 1 + 1 + 1) (by show w1.heap.size + 1 ≠ w.heap.size + 1 + 1 + 1; omega) (.bool (bz (dr x y))) (.slice A3 n3 c3)
      replace X4 := X4.put2 (.bool (bz (dr x y))) (.slice A3 n3 c3)
      rw [show (ws3.setCell ⟨w.heap.size + 1 + 1 + 1, 0, none⟩ (.bool (bz (dr x y)))).setCell ⟨w.heap.size + 1 + 1 + 1, 1, none⟩ (.slice A3 n3 c3) = put2 ws3 (w.heap.size + 1 + 1 + 1) (.bool (bz (dr x y))) (.slice A3 n3 c3) from rfl]
      generalize put2 ws3 (w.heap.size + 1 + 1 + 1) (.bool (bz (dr x y))) (.slice A3 n3 c3) = ws4 at h h' h1 h1' h2 h3 X1 X2 X3 X5 X6 X4 hbws4 ⊢
      go_wp2_with fail
      have erX3 := (show Blk2 ws4 _ _ _ _ from X3.to bW).cell
      have erX3' := (show Blk2 ws4 _ _ _ _ from X3.to bW).cell1
      have erX4 := (show Blk2 ws4 _ _ _ _ from X4.to bW).cell
      have erX4' := (show Blk2 ws4 _ _ _ _ from X4.to bW).cell1
      exact bodyPost_ret (v := .tuple #[.agg #[.bool (bz (dq x y)), .slice A2 n2 c2], .agg #[.bool (bz (dr x y)), .slice A3 n3 c3], .bool true]) (by simp [results, Try.results14, go_sem, erX3, erX3', erX4, erX4']) rfl ⟨_, _, _, _, _, _, rfl, (show NatAt ws4 _ _ _ _ from (h2.to bW)), (show NatAt ws4 _ _ _ _ from (h3.to bW)), (show Below w.heap.size w ws4 from bW)⟩
    case true =>
      by_cases hr : x.natAbs % y.natAbs = 0
      · have HE := Lib.hid (dq_even (by rw [hx, hy]; decide) hr)
        have HR := Lib.hid hr
        have HP := Lib.hid hp
        rw [HE.out.2]
        clear hx hy hr hp
        go_enter Try.func14, Try.ntmps14
        go_wp2_with fail
        have X1 := Blk2.newAt w (w.heap.size) 29 (.bool false) (.slice A n c) (by first | rfl | simp)
        have X2 := Blk2.newAt (w.alloc (.cells #[.bool false, .slice A n c] 29)) (w.heap.size + 1) 29 (.bool true) (.slice A' n' c') (by first | rfl | simp)
        have X3 := Blk2.newAt ((w.alloc (.cells #[.bool false, .slice A n c] 29)).alloc (.cells #[.bool true, .slice A' n' c'] 29)) (w.heap.size + 1 + 1) 29 (.bool false) (.slice none 0 0) (by first | rfl | simp)
        have X4 := Blk2.newAt (((w.alloc (.cells #[.bool false, .slice A n c] 29)).alloc (.cells #[.bool true, .slice A' n' c'] 29)).alloc (.cells #[.bool false, .slice none 0 0] 29)) (w.heap.size + 1 + 1 + 1) 29 (.bool false) (.slice none 0 0) (by first | rfl | simp)
        replace X1 := (show Blk2 ((((w.alloc (.cells #[.bool false, .slice A n c] 29)).alloc (.cells #[.bool true, .slice A' n' c'] 29)).alloc (.cells #[.bool false, .slice none 0 0] 29)).alloc (.cells #[.bool false, .slice none 0 0] 29)) _ _ _ _ from X1.to bW)
        replace X2 := (show Blk2 ((((w.alloc (.cells #[.bool false, .slice A n c] 29)).alloc (.cells #[.bool true, .slice A' n' c'] 29)).alloc (.cells #[.bool false, .slice none 0 0] 29)).alloc (.cells #[.bool false, .slice none 0 0] 29)) _ _ _ _ from X2.to bW)
        replace X3 := (show Blk2 ((((w.alloc (.cells #[.bool false, .slice A n c] 29)).alloc (.cells #[.bool true, .slice A' n' c'] 29)).alloc (.cells #[.bool false, .slice none 0 0] 29)).alloc (.cells #[.bool false, .slice none 0 0] 29)) _ _ _ _ from X3.to bW)
        have hbwe1 : Below w.heap.size w ((((w.alloc (.cells #[.bool false, .slice A n c] 29)).alloc (.cells #[.bool true, .slice A' n' c'] 29)).alloc (.cells #[.bool false, .slice none 0 0] 29)).alloc (.cells #[.bool false, .slice none 0 0] 29)) := bW
        generalize ((((w.alloc (.cells #[.bool false, .slice A n c] 29)).alloc (.cells #[.bool true, .slice A' n' c'] 29)).alloc (.cells #[.bool false, .slice none 0 0] 29)).alloc (.cells #[.bool false, .slice none 0 0] 29)) = we1 at X1 X2 X3 X4 hbwe1  ⊢
        refine (quot_DivMod _ _ _ _ _ _ _ _ _ (h.to bW) (h'.to bW) (by omega) HP.out).mono ?_
        rintro e w1 ⟨A1, n1, c1, A1', n1', c1', rfl, h1, h1', hb1⟩
        have q1 := h1.le_of _ (Nat.lt_of_le_of_lt (Nat.div_le_self _ _) h.lt)
        have q1' := h1'.le_of _ (Nat.lt_of_le_of_lt (Nat.mod_le _ _) h.lt)
        have d1 := (show Blk2 ((w1.alloc (.cells #[.slice A1 n1 c1] 27)).alloc (.cells #[.slice A1' n1' c1'] 27)) _ _ _ _ from X1.to bW).cell
        have d1' := (show Blk2 ((w1.alloc (.cells #[.slice A1 n1 c1] 27)).alloc (.cells #[.slice A1' n1' c1'] 27)) _ _ _ _ from X1.to bW).cell1
        have d2 := (show Blk2 ((w1.alloc (.cells #[.slice A1 n1 c1] 27)).alloc (.cells #[.slice A1' n1' c1'] 27)) _ _ _ _ from X2.to bW).cell
        have d2' := (show Blk2 ((w1.alloc (.cells #[.slice A1 n1 c1] 27)).alloc (.cells #[.slice A1' n1' c1'] 27)) _ _ _ _ from X2.to bW).cell1
        go_wp2_with fail
        clear d1 d1' d2 d2'
        have ltX1_w1 : w.heap.size < w1.heap.size := (show Blk2 w1 _ _ _ _ from X1.to bW).lt
        have ltX2_w1 : w.heap.size + 1 < w1.heap.size := (show Blk2 w1 _ _ _ _ from X2.to bW).lt
        have ltX3_w1 : w.heap.size + 1 + 1 < w1.heap.size := (show Blk2 w1 _ _ _ _ from X3.to bW).lt
        have ltX4_w1 : w.heap.size + 1 + 1 + 1 < w1.heap.size := (show Blk2 w1 _ _ _ _ from X4.to bW).lt
        have X5 := Blk1.newAt w1 (w1.heap.size) 27 (.slice A1 n1 c1) (by first | rfl | simp)
        have X6 := Blk1.newAt (w1.alloc (.cells #[.slice A1 n1 c1] 27)) (w1.heap.size + 1) 27 (.slice A1' n1' c1') (by first | rfl | simp)
        replace X5 := (show Blk1 ((w1.alloc (.cells #[.slice A1 n1 c1] 27)).alloc (.cells #[.slice A1' n1' c1'] 27)) _ _ _ from X5.to bW)
        have hbwe2 : Below w1.heap.size w1 ((w1.alloc (.cells #[.slice A1 n1 c1] 27)).alloc (.cells #[.slice A1' n1' c1'] 27)) := bW
        generalize ((w1.alloc (.cells #[.slice A1 n1 c1] 27)).alloc (.cells #[.slice A1' n1' c1'] 27)) = we2 at X5 X6 hbwe2  ⊢
        refine (nat_Zero _ _ _ _ _ (h1'.to bW)).mono ?_
        rw [decide_eq_true HR.out]
        rintro e w2 ⟨rfl, hb2⟩
        have d3 := (show Blk1 w2 _ _ _ from X5.to bW).cell
        go_wp2_with fail
        clear d3
        refine (integer_New true _ _ _ (x.natAbs / y.natAbs) _ (h1.to bW)).mono ?_
        rw [← HE.out.1]
        rintro e w3 ⟨A3, n3, c3, rfl, h3, hb3⟩
        have d4 := (show Blk2 w3 _ _ _ _ from X3.to bW).cell
        have d4' := (show Blk2 w3 _ _ _ _ from X3.to bW).cell1
        have f0d4 := (show Blk2 w3 _ _ _ _ from X3.to bW).free 0
        have f1d4 := (show Blk2 w3 _ _ _ _ from X3.to bW).free 1
        have d5 := (show Blk2 w3 _ _ _ _ from X4.to bW).cell
        have d5' := (show Blk2 w3 _ _ _ _ from X4.to bW).cell1
        have f0d5 := (show Blk2 w3 _ _ _ _ from X4.to bW).free 0
        have f1d5 := (show Blk2 w3 _ _ _ _ from X4.to bW).free 1
        go_wp2_with fail
        clear d4 d4' f0d4 f1d4 d5 d5' f0d5 f1d5
        replace h := (show NatAt w3 _ _ _ _ from h.to bW)
        replace h' := (show NatAt w3 _ _ _ _ from h'.to bW)
        replace h1 := (show NatAt w3 _ _ _ _ from h1.to bW)
        replace h1' := (show NatAt w3 _ _ _ _ from h1'.to bW)
        replace h3 := (show NatAt w3 _ _ _ _ from h3.to bW)
        replace X1 := (show Blk2 w3 _ _ _ _ from X1.to bW)
        replace X2 := (show Blk2 w3 _ _ _ _ from X2.to bW)
        replace X3 := (show Blk2 w3 _ _ _ _ from X3.to bW)
        replace X4 := (show Blk2 w3 _ _ _ _ from X4.to bW)
        replace X5 := (show Blk1 w3 _ _ _ from X5.to bW)
        replace X6 := (show Blk1 w3 _ _ _ from X6.to bW)
        have hbws3 := below_put2 (show Below w.heap.size w w3 from bW) (g := w.heap.size + 1 + 1) (by show w.heap.size ≤ w.heap.size + 1 + 1; omega) (.bool (bz (dq x y))) (.slice A3 n3 c3)
        replace h := h.put2 X3 (.bool (bz (dq x y))) (.slice A3 n3 c3)
        replace h' := h'.put2 X3 (.bool (bz (dq x y))) (.slice A3 n3 c3)
        replace h1 := h1.put2 X3 (.bool (bz (dq x y))) (.slice A3 n3 c3)
        replace h1' := h1'.put2 X3 (.bool (bz (dq x y))) (.slice A3 n3 c3)
        replace h3 := h3.put2 X3 (.bool (bz (dq x y))) (.slice A3 n3 c3)
        replace X1 := X1.off2 (g := w.heap.size + 1 + 1) (by show w.heap.size ≠ w.heap.size + 1 + 1; omega) (.bool (bz (dq x y))) (.slice A3 n3 c3)
        replace X2 := X2.off2 (g := w.heap.size + 1 + 1) (by show w.heap.size + 1 ≠ w.heap.size + 1 + 1; omega) (.bool (bz (dq x y))) (.slice A3 n3 c3)
        replace X4 := X4.off2 (g := w.heap.size + 1 + 1) (by show w.heap.size + 1 + 1 + 1 ≠ w.heap.size + 1 + 1; omega) (.bool (bz (dq x y))) (.slice A3 n3 c3)
        replace X5 := X5.off2 (g := w.heap.size + 1 + 1) (by show w1.heap.size ≠ w.heap.size + 1 + 1; omega) (.bool (bz (dq x y))) (.slice A3 n3 c3)
        replace X6 := X6.off2 (g := w.heap.size + 1 + 1) (by show w1.heap.size + 1 ≠ w.heap.size + 1 + 1; omega) (.bool (bz (dq x y))) (.slice A3 n3 c3)
        replace X3 := X3.put2 (.bool (bz (dq x y))) (.slice A3 n3 c3)
        rw [show (w3.setCell ⟨w.heap.size + 1 + 1, 0, none⟩ (.bool (bz (dq x y)))).setCell ⟨w.heap.size + 1 + 1, 1, none⟩ (.slice A3 n3 c3) = put2 w3 (w.heap.size + 1 + 1) (.bool (bz (dq x y))) (.slice A3 n3 c3) from rfl]
        generalize put2 w3 (w.heap.size + 1 + 1) (.bool (bz (dq x y))) (.slice A3 n3 c3) = ws3 at h h' h1 h1' h3 X1 X2 X4 X5 X6 X3 hbws3 ⊢
        replace h := (show NatAt ws3 _ _ _ _ from h.to bW)
        replace h' := (show NatAt ws3 _ _ _ _ from h'.to bW)
        replace h1 := (show NatAt ws3 _ _ _ _ from h1.to bW)
        replace h1' := (show NatAt ws3 _ _ _ _ from h1'.to bW)
        replace h3 := (show NatAt ws3 _ _ _ _ from h3.to bW)
        replace X1 := (show Blk2 ws3 _ _ _ _ from X1.to bW)
        replace X2 := (show Blk2 ws3 _ _ _ _ from X2.to bW)
        replace X3 := (show Blk2 ws3 _ _ _ _ from X3.to bW)
        replace X4 := (show Blk2 ws3 _ _ _ _ from X4.to bW)
        replace X5 := (show Blk1 ws3 _ _ _ from X5.to bW)
        replace X6 := (show Blk1 ws3 _ _ _ from X6.to bW)
        have hbws4 := below_put2 (show Below w.heap.size w ws3 from bW) (g := w.heap.size + 1 + 1 + 1) (by show w.heap.size ≤ w.heap.size + 1 + 1 + 1; omega) (.bool false) (.slice none 0 0)
        replace h := h.put2 X4 (.bool false) (.slice none 0 0)
        replace h' := h'.put2 X4 (.bool false) (.slice none 0 0)
        replace h1 := h1.put2 X4 (.bool false) (.slice none 0 0)
        replace h1' := h1'.put2 X4 (.bool false) (.slice none 0 0)
        replace h3 := h3.put2 X4 (.bool false) (.slice none 0 0)
        replace X1 := X1.off2 (g := w.heap.size + 1 + 1 + 1) (by show w.heap.size ≠ w.heap.size + 1 + 1 + 1; omega) (.bool false) (.slice none 0 0)
        replace X2 := X2.off2 (g := w.heap.size + 1 + 1 + 1) (by show w.heap.size + 1 ≠ w.heap.size + 1 + 1 + 1; omega) (.bool false) (.slice none 0 0)
        replace X3 := X3.off2 (g := w.heap.size + 1 + 1 + 1) (by show w.heap.size + 1 + 1 ≠ w.heap.size + 1 + 1 + 1; omega) (.bool false) (.slice none 0 0)
        replace X5 := X5.off2 (g := w.heap.size + 1 + 1 + 1) (by show w1.heap.size ≠ w.heap.size + 1 + 1 + 1; omega) (.bool false) (.slice none 0 0)
        replace X6 := X6.off2 (g := w.heap.size + 1 + 1 + 1) (by show w1.heap.size + 1 ≠ w.heap.size + 1 + 1 + 1; omega) (.bool false) (.slice none 0 0)
        replace X4 := X4.put2 (.bool false) (.slice none 0 0)
        rw [show (ws3.setCell ⟨w.heap.size + 1 + 1 + 1, 0, none⟩ (.bool false)).setCell ⟨w.heap.size + 1 + 1 + 1, 1, none⟩ (.slice none 0 0) = put2 ws3 (w.heap.size + 1 + 1 + 1) (.bool false) (.slice none 0 0) from rfl]
        generalize put2 ws3 (w.heap.size + 1 + 1 + 1) (.bool false) (.slice none 0 0) = ws4 at h h' h1 h1' h3 X1 X2 X3 X5 X6 X4 hbws4 ⊢
        have erX3 := (show Blk2 ws4 _ _ _ _ from X3.to bW).cell
        have erX3' := (show Blk2 ws4 _ _ _ _ from X3.to bW).cell1
        have erX4 := (show Blk2 ws4 _ _ _ _ from X4.to bW).cell
        have erX4' := (show Blk2 ws4 _ _ _ _ from X4.to bW).cell1
        exact bodyPost_ret (v := .tuple #[.agg #[.bool (bz (dq x y)), .slice A3 n3 c3], .agg #[.bool false, .slice none 0 0], .bool true]) (by simp [results, Try.results14, go_sem, erX3, erX3', erX4, erX4']) rfl ⟨_, _, _, _, _, _, rfl, (show NatAt ws4 _ _ _ _ from (h3.to bW)), (show NatAt ws4 _ _ _ _ from (nat_nil ws4)), (show Below w.heap.size w ws4 from bW)⟩
      · have HE := Lib.hid (dq_odd (by rw [hx, hy]; decide) hr)
        rw [hy] at HE
        have HR := Lib.hid hr
        have HM := Lib.hid (show x.natAbs % y.natAbs ≤ y.natAbs from Nat.le_of_lt (Nat.mod_lt _ hp))
        have HP := Lib.hid hp
        clear hx hy hr hp
        go_enter Try.func14, Try.ntmps14
        go_wp2_with fail
        have X1 := Blk2.newAt w (w.heap.size) 29 (.bool false) (.slice A n c) (by first | rfl | simp)
        have X2 := Blk2.newAt (w.alloc (.cells #[.bool false, .slice A n c] 29)) (w.heap.size + 1) 29 (.bool true) (.slice A' n' c') (by first | rfl | simp)
        have X3 := Blk2.newAt ((w.alloc (.cells #[.bool false, .slice A n c] 29)).alloc (.cells #[.bool true, .slice A' n' c'] 29)) (w.heap.size + 1 + 1) 29 (.bool false) (.slice none 0 0) (by first | rfl | simp)
        have X4 := Blk2.newAt (((w.alloc (.cells #[.bool false, .slice A n c] 29)).alloc (.cells #[.bool true, .slice A' n' c'] 29)).alloc (.cells #[.bool false, .slice none 0 0] 29)) (w.heap.size + 1 + 1 + 1) 29 (.bool false) (.slice none 0 0) (by first | rfl | simp)
        replace X1 := (show Blk2 ((((w.alloc (.cells #[.bool false, .slice A n c] 29)).alloc (.cells #[.bool true, .slice A' n' c'] 29)).alloc (.cells #[.bool false, .slice none 0 0] 29)).alloc (.cells #[.bool false, .slice none 0 0] 29)) _ _ _ _ from X1.to bW)
        replace X2 := (show Blk2 ((((w.alloc (.cells #[.bool false, .slice A n c] 29)).alloc (.cells #[.bool true, .slice A' n' c'] 29)).alloc (.cells #[.bool false, .slice none 0 0] 29)).alloc (.cells #[.bool false, .slice none 0 0] 29)) _ _ _ _ from X2.to bW)
        replace X3 := (show Blk2 ((((w.alloc (.cells #[.bool false, .slice A n c] 29)).alloc (.cells #[.bool true, .slice A' n' c'] 29)).alloc (.cells #[.bool false, .slice none 0 0] 29)).alloc (.cells #[.bool false, .slice none 0 0] 29)) _ _ _ _ from X3.to bW)
        have hbwe1 : Below w.heap.size w ((((w.alloc (.cells #[.bool false, .slice A n c] 29)).alloc (.cells #[.bool true, .slice A' n' c'] 29)).alloc (.cells #[.bool false, .slice none 0 0] 29)).alloc (.cells #[.bool false, .slice none 0 0] 29)) := bW
        generalize ((((w.alloc (.cells #[.bool false, .slice A n c] 29)).alloc (.cells #[.bool true, .slice A' n' c'] 29)).alloc (.cells #[.bool false, .slice none 0 0] 29)).alloc (.cells #[.bool false, .slice none 0 0] 29)) = we1 at X1 X2 X3 X4 hbwe1  ⊢
        refine (quot_DivMod _ _ _ _ _ _ _ _ _ (h.to bW) (h'.to bW) (by omega) HP.out).mono ?_
        rintro e w1 ⟨A1, n1, c1, A1', n1', c1', rfl, h1, h1', hb1⟩
        have q1 := h1.le_of _ (Nat.lt_of_le_of_lt (Nat.div_le_self _ _) h.lt)
        have q1' := h1'.le_of _ (Nat.lt_of_le_of_lt (Nat.mod_le _ _) h.lt)
        have d1 := (show Blk2 ((w1.alloc (.cells #[.slice A1 n1 c1] 27)).alloc (.cells #[.slice A1' n1' c1'] 27)) _ _ _ _ from X1.to bW).cell
        have d1' := (show Blk2 ((w1.alloc (.cells #[.slice A1 n1 c1] 27)).alloc (.cells #[.slice A1' n1' c1'] 27)) _ _ _ _ from X1.to bW).cell1
        have d2 := (show Blk2 ((w1.alloc (.cells #[.slice A1 n1 c1] 27)).alloc (.cells #[.slice A1' n1' c1'] 27)) _ _ _ _ from X2.to bW).cell
        have d2' := (show Blk2 ((w1.alloc (.cells #[.slice A1 n1 c1] 27)).alloc (.cells #[.slice A1' n1' c1'] 27)) _ _ _ _ from X2.to bW).cell1
        go_wp2_with fail
        clear d1 d1' d2 d2'
        have ltX1_w1 : w.heap.size < w1.heap.size := (show Blk2 w1 _ _ _ _ from X1.to bW).lt
        have ltX2_w1 : w.heap.size + 1 < w1.heap.size := (show Blk2 w1 _ _ _ _ from X2.to bW).lt
        have ltX3_w1 : w.heap.size + 1 + 1 < w1.heap.size := (show Blk2 w1 _ _ _ _ from X3.to bW).lt
        have ltX4_w1 : w.heap.size + 1 + 1 + 1 < w1.heap.size := (show Blk2 w1 _ _ _ _ from X4.to bW).lt
        have X5 := Blk1.newAt w1 (w1.heap.size) 27 (.slice A1 n1 c1) (by first | rfl | simp)
        have X6 := Blk1.newAt (w1.alloc (.cells #[.slice A1 n1 c1] 27)) (w1.heap.size + 1) 27 (.slice A1' n1' c1') (by first | rfl | simp)
        replace X5 := (show Blk1 ((w1.alloc (.cells #[.slice A1 n1 c1] 27)).alloc (.cells #[.slice A1' n1' c1'] 27)) _ _ _ from X5.to bW)
        have hbwe2 : Below w1.heap.size w1 ((w1.alloc (.cells #[.slice A1 n1 c1] 27)).alloc (.cells #[.slice A1' n1' c1'] 27)) := bW
        generalize ((w1.alloc (.cells #[.slice A1 n1 c1] 27)).alloc (.cells #[.slice A1' n1' c1'] 27)) = we2 at X5 X6 hbwe2  ⊢
        refine (nat_Zero _ _ _ _ _ (h1'.to bW)).mono ?_
        rw [decide_eq_false HR.out]
        rintro e w2 ⟨rfl, hb2⟩
        have d3 := (show Blk2 w2 _ _ _ _ from X2.to bW).cell
        have d3' := (show Blk2 w2 _ _ _ _ from X2.to bW).cell1
        have d4 := (show Blk1 w2 _ _ _ from X6.to bW).cell
        go_wp2_with fail
        clear d3 d3' d4
        refine (nat_Sub _ _ _ _ _ _ _ _ _ (h'.to bW) (h1'.to bW) (by omega)).mono ?_
        rw [decide_eq_true HM.out]
        rintro e w3 ⟨A3, n3, c3, rfl, h3, hb3⟩
        have q3 := h3.le_of _ (Nat.lt_of_le_of_lt (Nat.sub_le y.natAbs (x.natAbs % y.natAbs)) h'.lt)
        go_wp2_with fail
        have ltX1_w3 : w.heap.size < w3.heap.size := (show Blk2 w3 _ _ _ _ from X1.to bW).lt
        have ltX2_w3 : w.heap.size + 1 < w3.heap.size := (show Blk2 w3 _ _ _ _ from X2.to bW).lt
        have ltX3_w3 : w.heap.size + 1 + 1 < w3.heap.size := (show Blk2 w3 _ _ _ _ from X3.to bW).lt
        have ltX4_w3 : w.heap.size + 1 + 1 + 1 < w3.heap.size := (show Blk2 w3 _ _ _ _ from X4.to bW).lt
        have ltX5_w3 : w1.heap.size < w3.heap.size := (show Blk1 w3 _ _ _ from X5.to bW).lt
        have ltX6_w3 : w1.heap.size + 1 < w3.heap.size := (show Blk1 w3 _ _ _ from X6.to bW).lt
        have X7 := Blk1.newAt w3 (w3.heap.size) 27 (.slice A3 n3 c3) (by first | rfl | simp)
        have hbwe3 : Below w3.heap.size w3 (w3.alloc (.cells #[.slice A3 n3 c3] 27)) := bW
        generalize (w3.alloc (.cells #[.slice A3 n3 c3] 27)) = we3 at X7 hbwe3  ⊢
        have CX5 := (show Blk1 we3 _ _ _ from X5.to bW).cell
        have CX2 := (show Blk2 we3 _ _ _ _ from X2.to bW).cell
        have CX2' := (show Blk2 we3 _ _ _ _ from X2.to bW).cell1
        have CX7 := (show Blk1 we3 _ _ _ from X7.to bW).cell
        have KP1 : ∀ w', Below we3.heap.size we3 w' → w'.cell? ⟨w1.heap.size, 0, none⟩ = some (.slice A1 n1 c1) ∧ w'.cell? ⟨w.heap.size + 1, 0, none⟩ = some (.bool true) ∧ w'.cell? ⟨w.heap.size + 1, 1, none⟩ = some (.slice A' n' c') ∧ w'.cell? ⟨w3.heap.size, 0, none⟩ = some (.slice A3 n3 c3) ∧ True := fun w' hw' => ⟨cellB hw' CX5, cellB hw' CX2, cellB hw' CX2', cellB hw' CX7, trivial⟩
        refine wp_regionT (S := fun w' => w'.cell? ⟨w1.heap.size, 0, none⟩ = some (.slice A1 n1 c1) ∧ w'.cell? ⟨w.heap.size + 1, 0, none⟩ = some (.bool true) ∧ w'.cell? ⟨w.heap.size + 1, 1, none⟩ = some (.slice A' n' c') ∧ w'.cell? ⟨w3.heap.size, 0, none⟩ = some (.slice A3 n3 c3) ∧ True) [] kR (by first | exact ⟨CSX5_1, CSX2_1, CSX2'_1, CSX7_1, trivial⟩ | exact ⟨CSX5_2, CSX2_2, CSX2'_2, CSX7_2, trivial⟩ | exact KP1 _ bW) (fun hHeld => ?_)
        have hbd1 : Below we3.heap.size we3 we3.drew := nxw (Below.refl _ _)
        generalize we3.drew = wd1 at hHeld hbd1 ⊢
        refine anyT_take (i := 0) (v := ?_) gO kR kR kR kR (by exact fun _ _ _ h => h) (Or.inl ⟨by rfl, ?_⟩) (by assumption) ?_
        rotate_left
        · intro w hSw; (try dsimp only at hSw); go_simp; try with_reducible rfl
        try simp only [Act.put, sX, sY, sZ]
        refine anyT_take (i := 5) (v := ?_) gO kR kR kR kR (by exact fun _ _ _ h => h) (Or.inl ⟨by rfl, ?_⟩) (by assumption) ?_
        rotate_left
        · intro w hSw; (try dsimp only at hSw); go_simp; try with_reducible rfl
        try simp only [Act.put, sX, sY, sZ]
        refine anyT_take (i := 6) (v := ?_) gO kR kR kR kR (by exact fun _ _ _ h => h) (Or.inl ⟨by rfl, ?_⟩) (by assumption) ?_
        rotate_left
        · intro w hSw; (try dsimp only at hSw); go_simp; try with_reducible rfl
        try simp only [Act.put, sX, sY, sZ]
        refine anyT_take (i := 7) (v := ?_) gO kR kR kR kR (by exact fun _ _ _ h => h) (Or.inl ⟨by rfl, ?_⟩) (by assumption) ?_
        rotate_left
        · intro w hSw; (try dsimp only at hSw); go_simp; try with_reducible rfl
        try simp only [Act.put, sX, sY, sZ]
        refine anyT_ready (rs := [1]) kR (by simp) (ReadyT.cons gO (fun K hK => ?_) ReadyT.nil)
        go_simp
        have Z4 : Dig .u64 W (wd1.alloc (.cells #[.int .u64 1] 74)) (some ⟨wd1.heap.size, 0, none⟩) 1 1 1 := dig_oneAt wd1 _ _ 1 rfl (by decide)
        have hbz4 := nxa (Below.refl wd1.heap.size wd1) (.cells #[.int .u64 1] 74)
        generalize wd1.alloc (.cells #[.int .u64 1] 74) = wz4 at Z4 hbz4 ⊢
        refine hK.out _ _ (by first | exact ⟨CSX5_1, CSX2_1, CSX2'_1, CSX7_1, trivial⟩ | exact ⟨CSX5_2, CSX2_2, CSX2'_2, CSX7_2, trivial⟩ | exact KP1 _ bW) (fun hHeld => ?_)
        clear hK K
        try simp only [Act.put, sX, sY, sZ]
        refine anyT_ready (rs := [2]) kR (by simp) (ReadyT.cons gO (fun K hK => ?_) ReadyT.nil)
        go_simp
        go_at_call 38
        (with_reducible refine (nat_Of _ _ _ _ _ (Z4.to bW) (by omega)).mono ?_)
        rintro e w4 ⟨A4, n4, c4, rfl, h4, hb4, m4⟩
        obtain rfl : n4 = 1 := h4.len_is 0 (by decide) (by decide)
        go_simp
        refine hK.out _ _ (by first | exact ⟨CSX5_1, CSX2_1, CSX2'_1, CSX7_1, trivial⟩ | exact ⟨CSX5_2, CSX2_2, CSX2'_2, CSX7_2, trivial⟩ | exact KP1 _ bW) (fun hHeld => ?_)
        clear hK K
        try simp only [Act.put, sX, sY, sZ]
        refine anyT_ready (rs := [3]) kR (by simp) (ReadyT.cons gO (fun K hK => ?_) ReadyT.nil)
        go_simp
        go_at_call 43
        (with_reducible refine (nat_Add _ _ _ _ _ _ _ _ _ (h1.to bW) (h4.to bW) (by omega) (by omega)).mono ?_)
        rintro e w5 ⟨A5, n5, c5, rfl, h5, hb5⟩
        have q5 := h5.le_of _ (add_lt h1.lt h4.lt)
        go_simp
        refine hK.out _ _ (by first | exact ⟨CSX5_1, CSX2_1, CSX2'_1, CSX7_1, trivial⟩ | exact ⟨CSX5_2, CSX2_2, CSX2'_2, CSX7_2, trivial⟩ | exact KP1 _ bW) (fun hHeld => ?_)
        clear hK K
        try simp only [Act.put, sX, sY, sZ]
        refine anyT_ready (rs := [4]) kR (by simp) (ReadyT.cons gO (fun K hK => ?_) ReadyT.nil)
        go_simp
        go_at_call 37
        refine (integer_New true _ _ _ ((x.natAbs / y.natAbs) + 1) _ (h5.to bW)).mono ?_
        rw [← HE.out.1]
        rintro e w6 ⟨A6, n6, c6, rfl, h6, hb6⟩
        go_simp
        refine hK.out _ _ (by first | exact ⟨CSX5_1, CSX2_1, CSX2'_1, CSX7_1, trivial⟩ | exact ⟨CSX5_2, CSX2_2, CSX2'_2, CSX7_2, trivial⟩ | exact KP1 _ bW) (fun hHeld => ?_)
        clear hK K
        try simp only [Act.put, sX, sY, sZ]
        refine anyT_ready (rs := [8]) kR (by simp) (ReadyT.cons gO (fun K hK => ?_) ReadyT.nil)
        go_simp
        go_at_call 37
        refine (integer_New true _ _ _ (y.natAbs - (x.natAbs % y.natAbs)) _ (h3.to bW)).mono ?_
        rw [← HE.out.2]
        rintro e w7 ⟨A7, n7, c7, rfl, h7, hb7⟩
        go_simp
        refine hK.out _ _ (by first | exact ⟨CSX5_1, CSX2_1, CSX2'_1, CSX7_1, trivial⟩ | exact ⟨CSX5_2, CSX2_2, CSX2'_2, CSX7_2, trivial⟩ | exact KP1 _ bW) (fun hHeld => ?_)
        clear hK K
        try simp only [Act.put, sX, sY, sZ]
        refine anyT_ready (rs := [9]) kR (by simp) (ReadyT.cons gO (fun K hK => ?_) ReadyT.nil)
        have cqX3 := (show Blk2 w7 _ _ _ _ from X3.to bW).cell
        have cqX3' := (show Blk2 w7 _ _ _ _ from X3.to bW).cell1
        have fqX3 := (show Blk2 w7 _ _ _ _ from X3.to bW).free 0
        have fqX3' := (show Blk2 w7 _ _ _ _ from X3.to bW).free 1
        have CSX5_1 := (((show Blk1 w7 _ _ _ from X5.to bW).far (p := ⟨w.heap.size + 1 + 1, 0, none⟩) (by show w1.heap.size ≠ w.heap.size + 1 + 1; omega) (.bool (bz (dq x y)))).far (p := ⟨w.heap.size + 1 + 1, 1, none⟩) (by show w1.heap.size ≠ w.heap.size + 1 + 1; omega) (.slice A6 n6 c6)).cell
        have CSX2_1 := (((show Blk2 w7 _ _ _ _ from X2.to bW).far (p := ⟨w.heap.size + 1 + 1, 0, none⟩) (by show w.heap.size + 1 ≠ w.heap.size + 1 + 1; omega) (.bool (bz (dq x y)))).far (p := ⟨w.heap.size + 1 + 1, 1, none⟩) (by show w.heap.size + 1 ≠ w.heap.size + 1 + 1; omega) (.slice A6 n6 c6)).cell
        have CSX2'_1 := (((show Blk2 w7 _ _ _ _ from X2.to bW).far (p := ⟨w.heap.size + 1 + 1, 0, none⟩) (by show w.heap.size + 1 ≠ w.heap.size + 1 + 1; omega) (.bool (bz (dq x y)))).far (p := ⟨w.heap.size + 1 + 1, 1, none⟩) (by show w.heap.size + 1 ≠ w.heap.size + 1 + 1; omega) (.slice A6 n6 c6)).cell1
        have CSX7_1 := (((show Blk1 w7 _ _ _ from X7.to bW).far (p := ⟨w.heap.size + 1 + 1, 0, none⟩) (by show w3.heap.size ≠ w.heap.size + 1 + 1; omega) (.bool (bz (dq x y)))).far (p := ⟨w.heap.size + 1 + 1, 1, none⟩) (by show w3.heap.size ≠ w.heap.size + 1 + 1; omega) (.slice A6 n6 c6)).cell
        go_simp
        refine hK.out _ _ (by first | exact ⟨CSX5_1, CSX2_1, CSX2'_1, CSX7_1, trivial⟩ | exact ⟨CSX5_2, CSX2_2, CSX2'_2, CSX7_2, trivial⟩ | exact KP1 _ bW) (fun hHeld => ?_)
        clear hK K
        try simp only [Act.put, sX, sY, sZ]
        refine anyT_ready (rs := [10]) kR (by simp) (ReadyT.cons gO (fun K hK => ?_) ReadyT.nil)
        have cqX4 := (((show Blk2 w7 _ _ _ _ from X4.to bW).far (p := ⟨w.heap.size + 1 + 1, 0, none⟩) (by show w.heap.size + 1 + 1 + 1 ≠ w.heap.size + 1 + 1; omega) (.bool (bz (dq x y)))).far (p := ⟨w.heap.size + 1 + 1, 1, none⟩) (by show w.heap.size + 1 + 1 + 1 ≠ w.heap.size + 1 + 1; omega) (.slice A6 n6 c6)).cell
        have cqX4' := (((show Blk2 w7 _ _ _ _ from X4.to bW).far (p := ⟨w.heap.size + 1 + 1, 0, none⟩) (by show w.heap.size + 1 + 1 + 1 ≠ w.heap.size + 1 + 1; omega) (.bool (bz (dq x y)))).far (p := ⟨w.heap.size + 1 + 1, 1, none⟩) (by show w.heap.size + 1 + 1 + 1 ≠ w.heap.size + 1 + 1; omega) (.slice A6 n6 c6)).cell1
        have fqX4 := (((show Blk2 w7 _ _ _ _ from X4.to bW).far (p := ⟨w.heap.size + 1 + 1, 0, none⟩) (by show w.heap.size + 1 + 1 + 1 ≠ w.heap.size + 1 + 1; omega) (.bool (bz (dq x y)))).far (p := ⟨w.heap.size + 1 + 1, 1, none⟩) (by show w.heap.size + 1 + 1 + 1 ≠ w.heap.size + 1 + 1; omega) (.slice A6 n6 c6)).free 0
        have fqX4' := (((show Blk2 w7 _ _ _ _ from X4.to bW).far (p := ⟨w.heap.size + 1 + 1, 0, none⟩) (by show w.heap.size + 1 + 1 + 1 ≠ w.heap.size + 1 + 1; omega) (.bool (bz (dq x y)))).far (p := ⟨w.heap.size + 1 + 1, 1, none⟩) (by show w.heap.size + 1 + 1 + 1 ≠ w.heap.size + 1 + 1; omega) (.slice A6 n6 c6)).free 1
        have CSX5_2 := (((((show Blk1 w7 _ _ _ from X5.to bW).far (p := ⟨w.heap.size + 1 + 1, 0, none⟩) (by show w1.heap.size ≠ w.heap.size + 1 + 1; omega) (.bool (bz (dq x y)))).far (p := ⟨w.heap.size + 1 + 1, 1, none⟩) (by show w1.heap.size ≠ w.heap.size + 1 + 1; omega) (.slice A6 n6 c6)).far (p := ⟨w.heap.size + 1 + 1 + 1, 0, none⟩) (by show w1.heap.size ≠ w.heap.size + 1 + 1 + 1; omega) (.bool (bz (dr x y)))).far (p := ⟨w.heap.size + 1 + 1 + 1, 1, none⟩) (by show w1.heap.size ≠ w.heap.size + 1 + 1 + 1; omega) (.slice A7 n7 c7)).cell
        have CSX2_2 := (((((show Blk2 w7 _ _ _ _ from X2.to bW).far (p := ⟨w.heap.size + 1 + 1, 0, none⟩) (by show w.heap.size + 1 ≠ w.heap.size + 1 + 1; omega) (.bool (bz (dq x y)))).far (p := ⟨w.heap.size + 1 + 1, 1, none⟩) (by show w.heap.size + 1 ≠ w.heap.size + 1 + 1; omega) (.slice A6 n6 c6)).far (p := ⟨w.heap.size + 1 + 1 + 1, 0, none⟩) (by show w.heap.size + 1 ≠ w.heap.size + 1 + 1 + 1; omega) (.bool (bz (dr x y)))).far (p := ⟨w.heap.size + 1 + 1 + 1, 1, none⟩) (by show w.heap.size + 1 ≠ w.heap.size + 1 + 1 + 1; omega) (.slice A7 n7 c7)).cell
        have CSX2'_2 := (((((show Blk2 w7 _ _ _ _ from X2.to bW).far (p := ⟨w.heap.size + 1 + 1, 0, none⟩) (by show w.heap.size + 1 ≠ w.heap.size + 1 + 1; omega) (.bool (bz (dq x y)))).far (p := ⟨w.heap.size + 1 + 1, 1, none⟩) (by show w.heap.size + 1 ≠ w.heap.size + 1 + 1; omega) (.slice A6 n6 c6)).far (p := ⟨w.heap.size + 1 + 1 + 1, 0, none⟩) (by show w.heap.size + 1 ≠ w.heap.size + 1 + 1 + 1; omega) (.bool (bz (dr x y)))).far (p := ⟨w.heap.size + 1 + 1 + 1, 1, none⟩) (by show w.heap.size + 1 ≠ w.heap.size + 1 + 1 + 1; omega) (.slice A7 n7 c7)).cell1
        have CSX7_2 := (((((show Blk1 w7 _ _ _ from X7.to bW).far (p := ⟨w.heap.size + 1 + 1, 0, none⟩) (by show w3.heap.size ≠ w.heap.size + 1 + 1; omega) (.bool (bz (dq x y)))).far (p := ⟨w.heap.size + 1 + 1, 1, none⟩) (by show w3.heap.size ≠ w.heap.size + 1 + 1; omega) (.slice A6 n6 c6)).far (p := ⟨w.heap.size + 1 + 1 + 1, 0, none⟩) (by show w3.heap.size ≠ w.heap.size + 1 + 1 + 1; omega) (.bool (bz (dr x y)))).far (p := ⟨w.heap.size + 1 + 1 + 1, 1, none⟩) (by show w3.heap.size ≠ w.heap.size + 1 + 1 + 1; omega) (.slice A7 n7 c7)).cell
        go_simp
        refine hK.out _ _ (by first | exact ⟨CSX5_1, CSX2_1, CSX2'_1, CSX7_1, trivial⟩ | exact ⟨CSX5_2, CSX2_2, CSX2'_2, CSX7_2, trivial⟩ | exact KP1 _ bW) (fun hHeld => ?_)
        clear hK K
        try simp only [Act.put, sX, sY, sZ]
        refine anyT_take (i := 11) (v := ?_) gO kR kR kR kR (by exact fun _ _ _ h => h) (Or.inl ⟨by rfl, ?_⟩) (by assumption) ?_
        rotate_left
        · intro w hSw; (try dsimp only at hSw); go_simp; try with_reducible rfl
        try simp only [Act.put, sX, sY, sZ]
        refine anyT_done kR ?_ _
        clear CSX5_1 CSX2_1 CSX2'_1 CSX7_1 CSX5_2 CSX2_2 CSX2'_2 CSX7_2
        clear hHeld cqX3 cqX3' fqX3' fqX3 cqX4 cqX4' fqX4' fqX4 CX5 CX2 CX2' CX7 KP1
        replace h := (show NatAt w7 _ _ _ _ from h.to bW)
        replace h' := (show NatAt w7 _ _ _ _ from h'.to bW)
        replace h1 := (show NatAt w7 _ _ _ _ from h1.to bW)
        replace h1' := (show NatAt w7 _ _ _ _ from h1'.to bW)
        replace h3 := (show NatAt w7 _ _ _ _ from h3.to bW)
        replace Z4 := (show Dig _ _ w7 _ _ _ _ from Z4.to bW)
        replace h4 := (show NatAt w7 _ _ _ _ from h4.to bW)
        replace h5 := (show NatAt w7 _ _ _ _ from h5.to bW)
        replace h6 := (show NatAt w7 _ _ _ _ from h6.to bW)
        replace h7 := (show NatAt w7 _ _ _ _ from h7.to bW)
        replace X1 := (show Blk2 w7 _ _ _ _ from X1.to bW)
        replace X2 := (show Blk2 w7 _ _ _ _ from X2.to bW)
        replace X3 := (show Blk2 w7 _ _ _ _ from X3.to bW)
        replace X4 := (show Blk2 w7 _ _ _ _ from X4.to bW)
        replace X5 := (show Blk1 w7 _ _ _ from X5.to bW)
        replace X6 := (show Blk1 w7 _ _ _ from X6.to bW)
        replace X7 := (show Blk1 w7 _ _ _ from X7.to bW)
        have hbws5 := below_put2 (show Below w.heap.size w w7 from bW) (g := w.heap.size + 1 + 1) (by show w.heap.size ≤ w.heap.size + 1 + 1; omega) (.bool (bz (dq x y))) (.slice A6 n6 c6)
        replace h := h.put2 X3 (.bool (bz (dq x y))) (.slice A6 n6 c6)
        replace h' := h'.put2 X3 (.bool (bz (dq x y))) (.slice A6 n6 c6)
        replace h1 := h1.put2 X3 (.bool (bz (dq x y))) (.slice A6 n6 c6)
        replace h1' := h1'.put2 X3 (.bool (bz (dq x y))) (.slice A6 n6 c6)
        replace h3 := h3.put2 X3 (.bool (bz (dq x y))) (.slice A6 n6 c6)
        replace Z4 := Z4.put2 X3 (bool_no _) (slice_no _ _ _) (.bool (bz (dq x y))) (.slice A6 n6 c6)
        replace h4 := h4.put2 X3 (.bool (bz (dq x y))) (.slice A6 n6 c6)
        replace h5 := h5.put2 X3 (.bool (bz (dq x y))) (.slice A6 n6 c6)
        replace h6 := h6.put2 X3 (.bool (bz (dq x y))) (.slice A6 n6 c6)
        replace h7 := h7.put2 X3 (.bool (bz (dq x y))) (.slice A6 n6 c6)
        replace X1 := X1.off2 (g := w.heap.size + 1 + 1) (by show w.heap.size ≠ w.heap.size + 1 + 1; omega) (.bool (bz (dq x y))) (.slice A6 n6 c6)
        replace X2 := X2.off2 (g := w.heap.size + 1 + 1) (by show w.heap.size + 1 ≠ w.heap.size + 1 + 1; omega) (.bool (bz (dq x y))) (.slice A6 n6 c6)
        replace X4 := X4.off2 (g := w.heap.size + 1 + 1) (by show w.heap.size + 1 + 1 + 1 ≠ w.heap.size + 1 + 1; omega) (.bool (bz (dq x y))) (.slice A6 n6 c6)
        replace X5 := X5.off2 (g := w.heap.size + 1 + 1) (by show w1.heap.size ≠ w.heap.size + 1 + 1; omega) (.bool (bz (dq x y))) (.slice A6 n6 c6)
        replace X6 := X6.off2 (g := w.heap.size + 1 + 1) (by show w1.heap.size + 1 ≠ w.heap.size + 1 + 1; omega) (.bool (bz (dq x y))) (.slice A6 n6 c6)
        replace X7 := X7.off2 (g := w.heap.size + 1 + 1) (by show w3.heap.size ≠ w.heap.size + 1 + 1; omega) (.bool (bz (dq x y))) (.slice A6 n6 c6)
        replace X3 := X3.put2 (.bool (bz (dq x y))) (.slice A6 n6 c6)
        rw [show (w7.setCell ⟨w.heap.size + 1 + 1, 0, none⟩ (.bool (bz (dq x y)))).setCell ⟨w.heap.size + 1 + 1, 1, none⟩ (.slice A6 n6 c6) = put2 w7 (w.heap.size + 1 + 1) (.bool (bz (dq x y))) (.slice A6 n6 c6) from rfl]
        generalize put2 w7 (w.heap.size + 1 + 1) (.bool (bz (dq x y))) (.slice A6 n6 c6) = ws5 at h h' h1 h1' h3 Z4 h4 h5 h6 h7 X1 X2 X4 X5 X6 X7 X3 hbws5 ⊢
        replace h := (show NatAt ws5 _ _ _ _ from h.to bW)
        replace h' := (show NatAt ws5 _ _ _ _ from h'.to bW)
        replace h1 := (show NatAt ws5 _ _ _ _ from h1.to bW)
        replace h1' := (show NatAt ws5 _ _ _ _ from h1'.to bW)
        replace h3 := (show NatAt ws5 _ _ _ _ from h3.to bW)
        replace Z4 := (show Dig _ _ ws5 _ _ _ _ from Z4.to bW)
        replace h4 := (show NatAt ws5 _ _ _ _ from h4.to bW)
        replace h5 := (show NatAt ws5 _ _ _ _ from h5.to bW)
        replace h6 := (show NatAt ws5 _ _ _ _ from h6.to bW)
        replace h7 := (show NatAt ws5 _ _ _ _ from h7.to bW)
        replace X1 := (show Blk2 ws5 _ _ _ _ from X1.to bW)
        replace X2 := (show Blk2 ws5 _ _ _ _ from X2.to bW)
        replace X3 := (show Blk2 ws5 _ _ _ _ from X3.to bW)
        replace X4 := (show Blk2 ws5 _ _ _ _ from X4.to bW)
        replace X5 := (show Blk1 ws5 _ _ _ from X5.to bW)
        replace X6 := (show Blk1 ws5 _ _ _ from X6.to bW)
        replace X7 := (show Blk1 ws5 _ _ _ from X7.to bW)
        have hbws6 := below_put2 (show Below w.heap.size w ws5 from bW) (g := w.heap.size + 1 + 1 + 1) (by show w.heap.size ≤ w.heap.size + 1 + 1 + 1; omega) (.bool (bz (dr x y))) (.slice A7 n7 c7)
        replace h := h.put2 X4 (.bool (bz (dr x y))) (.slice A7 n7 c7)
        replace h' := h'.put2 X4 (.bool (bz (dr x y))) (.slice A7 n7 c7)
        replace h1 := h1.put2 X4 (.bool (bz (dr x y))) (.slice A7 n7 c7)
        replace h1' := h1'.put2 X4 (.bool (bz (dr x y))) (.slice A7 n7 c7)
        replace h3 := h3.put2 X4 (.bool (bz (dr x y))) (.slice A7 n7 c7)
        replace Z4 := Z4.put2 X4 (bool_no _) (slice_no _ _ _) (.bool (bz (dr x y))) (.slice A7 n7 c7)
        replace h4 := h4.put2 X4 (.bool (bz (dr x y))) (.slice A7 n7 c7)
        replace h5 := h5.put2 X4 (.bool (bz (dr x y))) (.slice A7 n7 c7)
        replace h6 := h6.put2 X4 (.bool (bz (dr x y))) (.slice A7 n7 c7)
        replace h7 := h7.put2 X4 (.bool (bz (dr x y))) (.slice A7 n7 c7)
        replace X1 := X1.off2 (g := w.heap.size + 1 + 1 + 1) (by show w.heap.size ≠ w.heap.size + 1 + 1 + 1; omega) (.bool (bz (dr x y))) (.slice A7 n7 c7)
        replace X2 := X2.off2 (g := w.heap.size + 1 + 1 + 1) (by show w.heap.size + 1 ≠ w.heap.size + 1 + 1 + 1; omega) (.bool (bz (dr x y))) (.slice A7 n7 c7)
        replace X3 := X3.off2 (g := w.heap.size + 1 + 1 + 1) (by show w.heap.size + 1 + 1 ≠ w.heap.size + 1 + 1 + 1; omega) (.bool (bz (dr x y))) (.slice A7 n7 c7)
        replace X5 := X5.off2 (g := w.heap.size + 1 + 1 + 1) (by show w1.heap.size ≠ w.heap.size + 1 + 1 + 1; omega) (.bool (bz (dr x y))) (.slice A7 n7 c7)
        replace X6 := X6.off2 (g := w.heap.size + 1 + 1 + 1) (by show w1.heap.size + 1 ≠ w.heap.size + 1 + 1 + 1; omega) (.bool (bz (dr x y))) (.slice A7 n7 c7)
        replace X7 := X7.off2 (g := w.heap.size + 1 + 1 + 1) (by show w3.heap.size ≠ w.heap.size + 1 + 1 + 1; omega) (.bool (bz (dr x y))) (.slice A7 n7 c7)
        replace X4 := X4.put2 (.bool (bz (dr x y))) (.slice A7 n7 c7)
        rw [show (ws5.setCell ⟨w.heap.size + 1 + 1 + 1, 0, none⟩ (.bool (bz (dr x y)))).setCell ⟨w.heap.size + 1 + 1 + 1, 1, none⟩ (.slice A7 n7 c7) = put2 ws5 (w.heap.size + 1 + 1 + 1) (.bool (bz (dr x y))) (.slice A7 n7 c7) from rfl]
        generalize put2 ws5 (w.heap.size + 1 + 1 + 1) (.bool (bz (dr x y))) (.slice A7 n7 c7) = ws6 at h h' h1 h1' h3 Z4 h4 h5 h6 h7 X1 X2 X3 X5 X6 X7 X4 hbws6 ⊢
        go_wp2_with fail
        have erX3 := (show Blk2 ws6 _ _ _ _ from X3.to bW).cell
        have erX3' := (show Blk2 ws6 _ _ _ _ from X3.to bW).cell1
        have erX4 := (show Blk2 ws6 _ _ _ _ from X4.to bW).cell
        have erX4' := (show Blk2 ws6 _ _ _ _ from X4.to bW).cell1
        exact bodyPost_ret (v := .tuple #[.agg #[.bool (bz (dq x y)), .slice A6 n6 c6], .agg #[.bool (bz (dr x y)), .slice A7 n7 c7], .bool true]) (by simp [results, Try.results14, go_sem, erX3, erX3', erX4, erX4']) rfl ⟨_, _, _, _, _, _, rfl, (show NatAt ws6 _ _ _ _ from (h6.to bW)), (show NatAt ws6 _ _ _ _ from (h7.to bW)), (show Below w.heap.size w ws6 from bW)⟩
  case true =>
    cases hy : bz y
    case false =>
      by_cases hr : x.natAbs % y.natAbs = 0
      · have HE := Lib.hid (dq_even (by rw [hx, hy]; decide) hr)
        have HR := Lib.hid hr
        have HP := Lib.hid hp
        rw [HE.out.2]
        clear hx hy hr hp
        go_enter Try.func14, Try.ntmps14
        go_wp2_with fail
        have X1 := Blk2.newAt w (w.heap.size) 29 (.bool true) (.slice A n c) (by first | rfl | simp)
        have X2 := Blk2.newAt (w.alloc (.cells #[.bool true, .slice A n c] 29)) (w.heap.size + 1) 29 (.bool false) (.slice A' n' c') (by first | rfl | simp)
        have X3 := Blk2.newAt ((w.alloc (.cells #[.bool true, .slice A n c] 29)).alloc (.cells #[.bool false, .slice A' n' c'] 29)) (w.heap.size + 1 + 1) 29 (.bool false) (.slice none 0 0) (by first | rfl | simp)
        have X4 := Blk2.newAt (((w.alloc (.cells #[.bool true, .slice A n c] 29)).alloc (.cells #[.bool false, .slice A' n' c'] 29)).alloc (.cells #[.bool false, .slice none 0 0] 29)) (w.heap.size + 1 + 1 + 1) 29 (.bool false) (.slice none 0 0) (by first | rfl | simp)
        replace X1 := (show Blk2 ((((w.alloc (.cells #[.bool true, .slice A n c] 29)).alloc (.cells #[.bool false, .slice A' n' c'] 29)).alloc (.cells #[.bool false, .slice none 0 0] 29)).alloc (.cells #[.bool false, .slice none 0 0] 29)) _ _ _ _ from X1.to bW)
        replace X2 := (show Blk2 ((((w.alloc (.cells #[.bool true, .slice A n c] 29)).alloc (.cells #[.bool false, .slice A' n' c'] 29)).alloc (.cells #[.bool false, .slice none 0 0] 29)).alloc (.cells #[.bool false, .slice none 0 0] 29)) _ _ _ _ from X2.to bW)
        replace X3 := (show Blk2 ((((w.alloc (.cells #[.bool true, .slice A n c] 29)).alloc (.cells #[.bool false, .slice A' n' c'] 29)).alloc (.cells #[.bool false, .slice none 0 0] 29)).alloc (.cells #[.bool false, .slice none 0 0] 29)) _ _ _ _ from X3.to bW)
        have hbwe1 : Below w.heap.size w ((((w.alloc (.cells #[.bool true, .slice A n c] 29)).alloc (.cells #[.bool false, .slice A' n' c'] 29)).alloc (.cells #[.bool false, .slice none 0 0] 29)).alloc (.cells #[.bool false, .slice none 0 0] 29)) := bW
        generalize ((((w.alloc (.cells #[.bool true, .slice A n c] 29)).alloc (.cells #[.bool false, .slice A' n' c'] 29)).alloc (.cells #[.bool false, .slice none 0 0] 29)).alloc (.cells #[.bool false, .slice none 0 0] 29)) = we1 at X1 X2 X3 X4 hbwe1  ⊢
        refine (quot_DivMod _ _ _ _ _ _ _ _ _ (h.to bW) (h'.to bW) (by omega) HP.out).mono ?_
        rintro e w1 ⟨A1, n1, c1, A1', n1', c1', rfl, h1, h1', hb1⟩
        have q1 := h1.le_of _ (Nat.lt_of_le_of_lt (Nat.div_le_self _ _) h.lt)
        have q1' := h1'.le_of _ (Nat.lt_of_le_of_lt (Nat.mod_le _ _) h.lt)
        have d1 := (show Blk2 ((w1.alloc (.cells #[.slice A1 n1 c1] 27)).alloc (.cells #[.slice A1' n1' c1'] 27)) _ _ _ _ from X1.to bW).cell
        have d1' := (show Blk2 ((w1.alloc (.cells #[.slice A1 n1 c1] 27)).alloc (.cells #[.slice A1' n1' c1'] 27)) _ _ _ _ from X1.to bW).cell1
        have d2 := (show Blk2 ((w1.alloc (.cells #[.slice A1 n1 c1] 27)).alloc (.cells #[.slice A1' n1' c1'] 27)) _ _ _ _ from X2.to bW).cell
        have d2' := (show Blk2 ((w1.alloc (.cells #[.slice A1 n1 c1] 27)).alloc (.cells #[.slice A1' n1' c1'] 27)) _ _ _ _ from X2.to bW).cell1
        go_wp2_with fail
        clear d1 d1' d2 d2'
        have ltX1_w1 : w.heap.size < w1.heap.size := (show Blk2 w1 _ _ _ _ from X1.to bW).lt
        have ltX2_w1 : w.heap.size + 1 < w1.heap.size := (show Blk2 w1 _ _ _ _ from X2.to bW).lt
        have ltX3_w1 : w.heap.size + 1 + 1 < w1.heap.size := (show Blk2 w1 _ _ _ _ from X3.to bW).lt
        have ltX4_w1 : w.heap.size + 1 + 1 + 1 < w1.heap.size := (show Blk2 w1 _ _ _ _ from X4.to bW).lt
        have X5 := Blk1.newAt w1 (w1.heap.size) 27 (.slice A1 n1 c1) (by first | rfl | simp)
        have X6 := Blk1.newAt (w1.alloc (.cells #[.slice A1 n1 c1] 27)) (w1.heap.size + 1) 27 (.slice A1' n1' c1') (by first | rfl | simp)
        replace X5 := (show Blk1 ((w1.alloc (.cells #[.slice A1 n1 c1] 27)).alloc (.cells #[.slice A1' n1' c1'] 27)) _ _ _ from X5.to bW)
        have hbwe2 : Below w1.heap.size w1 ((w1.alloc (.cells #[.slice A1 n1 c1] 27)).alloc (.cells #[.slice A1' n1' c1'] 27)) := bW
        generalize ((w1.alloc (.cells #[.slice A1 n1 c1] 27)).alloc (.cells #[.slice A1' n1' c1'] 27)) = we2 at X5 X6 hbwe2  ⊢
        refine (nat_Zero _ _ _ _ _ (h1'.to bW)).mono ?_
        rw [decide_eq_true HR.out]
        rintro e w2 ⟨rfl, hb2⟩
        have d3 := (show Blk1 w2 _ _ _ from X5.to bW).cell
        go_wp2_with fail
        clear d3
        refine (integer_New true _ _ _ (x.natAbs / y.natAbs) _ (h1.to bW)).mono ?_
        rw [← HE.out.1]
        rintro e w3 ⟨A3, n3, c3, rfl, h3, hb3⟩
        have d4 := (show Blk2 w3 _ _ _ _ from X3.to bW).cell
        have d4' := (show Blk2 w3 _ _ _ _ from X3.to bW).cell1
        have f0d4 := (show Blk2 w3 _ _ _ _ from X3.to bW).free 0
        have f1d4 := (show Blk2 w3 _ _ _ _ from X3.to bW).free 1
        have d5 := (show Blk2 w3 _ _ _ _ from X4.to bW).cell
        have d5' := (show Blk2 w3 _ _ _ _ from X4.to bW).cell1
        have f0d5 := (show Blk2 w3 _ _ _ _ from X4.to bW).free 0
        have f1d5 := (show Blk2 w3 _ _ _ _ from X4.to bW).free 1
        go_wp2_with fail
        clear d4 d4' f0d4 f1d4 d5 d5' f0d5 f1d5
        replace h := (show NatAt w3 _ _ _ _ from h.to bW)
        replace h' := (show NatAt w3 _ _ _ _ from h'.to bW)
        replace h1 := (show NatAt w3 _ _ _ _ from h1.to bW)
        replace h1' := (show NatAt w3 _ _ _ _ from h1'.to bW)
        replace h3 := (show NatAt w3 _ _ _ _ from h3.to bW)
        replace X1 := (show Blk2 w3 _ _ _ _ from X1.to bW)
        replace X2 := (show Blk2 w3 _ _ _ _ from X2.to bW)
        replace X3 := (show Blk2 w3 _ _ _ _ from X3.to bW)
        replace X4 := (show Blk2 w3 _ _ _ _ from X4.to bW)
        replace X5 := (show Blk1 w3 _ _ _ from X5.to bW)
        replace X6 := (show Blk1 w3 _ _ _ from X6.to bW)
        have hbws3 := below_put2 (show Below w.heap.size w w3 from bW) (g := w.heap.size + 1 + 1) (by show w.heap.size ≤ w.heap.size + 1 + 1; omega) (.bool (bz (dq x y))) (.slice A3 n3 c3)
        replace h := h.put2 X3 (.bool (bz (dq x y))) (.slice A3 n3 c3)
        replace h' := h'.put2 X3 (.bool (bz (dq x y))) (.slice A3 n3 c3)
        replace h1 := h1.put2 X3 (.bool (bz (dq x y))) (.slice A3 n3 c3)
        replace h1' := h1'.put2 X3 (.bool (bz (dq x y))) (.slice A3 n3 c3)
        replace h3 := h3.put2 X3 (.bool (bz (dq x y))) (.slice A3 n3 c3)
        replace X1 := X1.off2 (g := w.heap.size + 1 + 1) (by show w.heap.size ≠ w.heap.size + 1 + 1; omega) (.bool (bz (dq x y))) (.slice A3 n3 c3)
        replace X2 := X2.off2 (g := w.heap.size + 1 + 1) (by show w.heap.size + 1 ≠ w.heap.size + 1 + 1; omega) (.bool (bz (dq x y))) (.slice A3 n3 c3)
        replace X4 := X4.off2 (g := w.heap.size + 1 + 1) (by show w.heap.size + 1 + 1 + 1 ≠ w.heap.size + 1 + 1; omega) (.bool (bz (dq x y))) (.slice A3 n3 c3)
        replace X5 := X5.off2 (g := w.heap.size + 1 + 1) (by show w1.heap.size ≠ w.heap.size + 1 + 1; omega) (.bool (bz (dq x y))) (.slice A3 n3 c3)
        replace X6 := X6.off2 (g := w.heap.size + 1 + 1) (by show w1.heap.size + 1 ≠ w.heap.size + 1 + 1; omega) (.bool (bz (dq x y))) (.slice A3 n3 c3)
        replace X3 := X3.put2 (.bool (bz (dq x y))) (.slice A3 n3 c3)
        rw [show (w3.setCell ⟨w.heap.size + 1 + 1, 0, none⟩ (.bool (bz (dq x y)))).setCell ⟨w.heap.size + 1 + 1, 1, none⟩ (.slice A3 n3 c3) = put2 w3 (w.heap.size + 1 + 1) (.bool (bz (dq x y))) (.slice A3 n3 c3) from rfl]
        generalize put2 w3 (w.heap.size + 1 + 1) (.bool (bz (dq x y))) (.slice A3 n3 c3) = ws3 at h h' h1 h1' h3 X1 X2 X4 X5 X6 X3 hbws3 ⊢
        replace h := (show NatAt ws3 _ _ _ _ from h.to bW)
        replace h' := (show NatAt ws3 _ _ _ _ from h'.to bW)
        replace h1 := (show NatAt ws3 _ _ _ _ from h1.to bW)
        replace h1' := (show NatAt ws3 _ _ _ _ from h1'.to bW)
        replace h3 := (show NatAt ws3 _ _ _ _ from h3.to bW)
        replace X1 := (show Blk2 ws3 _ _ _ _ from X1.to bW)
        replace X2 := (show Blk2 ws3 _ _ _ _ from X2.to bW)
        replace X3 := (show Blk2 ws3 _ _ _ _ from X3.to bW)
        replace X4 := (show Blk2 ws3 _ _ _ _ from X4.to bW)
        replace X5 := (show Blk1 ws3 _ _ _ from X5.to bW)
        replace X6 := (show Blk1 ws3 _ _ _ from X6.to bW)
        have hbws4 := below_put2 (show Below w.heap.size w ws3 from bW) (g := w.heap.size + 1 + 1 + 1) (by show w.heap.size ≤ w.heap.size + 1 + 1 + 1; omega) (.bool false) (.slice none 0 0)
        replace h := h.put2 X4 (.bool false) (.slice none 0 0)
        replace h' := h'.put2 X4 (.bool false) (.slice none 0 0)
        replace h1 := h1.put2 X4 (.bool false) (.slice none 0 0)
        replace h1' := h1'.put2 X4 (.bool false) (.slice none 0 0)
        replace h3 := h3.put2 X4 (.bool false) (.slice none 0 0)
        replace X1 := X1.off2 (g := w.heap.size + 1 + 1 + 1) (by show w.heap.size ≠ w.heap.size + 1 + 1 + 1; omega) (.bool false) (.slice none 0 0)
        replace X2 := X2.off2 (g := w.heap.size + 1 + 1 + 1) (by show w.heap.size + 1 ≠ w.heap.size + 1 + 1 + 1; omega) (.bool false) (.slice none 0 0)
        replace X3 := X3.off2 (g := w.heap.size + 1 + 1 + 1) (by show w.heap.size + 1 + 1 ≠ w.heap.size + 1 + 1 + 1; omega) (.bool false) (.slice none 0 0)
        replace X5 := X5.off2 (g := w.heap.size + 1 + 1 + 1) (by show w1.heap.size ≠ w.heap.size + 1 + 1 + 1; omega) (.bool false) (.slice none 0 0)
        replace X6 := X6.off2 (g := w.heap.size + 1 + 1 + 1) (by show w1.heap.size + 1 ≠ w.heap.size + 1 + 1 + 1; omega) (.bool false) (.slice none 0 0)
        replace X4 := X4.put2 (.bool false) (.slice none 0 0)
        rw [show (ws3.setCell ⟨w.heap.size + 1 + 1 + 1, 0, none⟩ (.bool false)).setCell ⟨w.heap.size + 1 + 1 + 1, 1, none⟩ (.slice none 0 0) = put2 ws3 (w.heap.size + 1 + 1 + 1) (.bool false) (.slice none 0 0) from rfl]
        generalize put2 ws3 (w.heap.size + 1 + 1 + 1) (.bool false) (.slice none 0 0) = ws4 at h h' h1 h1' h3 X1 X2 X3 X5 X6 X4 hbws4 ⊢
        have erX3 := (show Blk2 ws4 _ _ _ _ from X3.to bW).cell
        have erX3' := (show Blk2 ws4 _ _ _ _ from X3.to bW).cell1
        have erX4 := (show Blk2 ws4 _ _ _ _ from X4.to bW).cell
        have erX4' := (show Blk2 ws4 _ _ _ _ from X4.to bW).cell1
        exact bodyPost_ret (v := .tuple #[.agg #[.bool (bz (dq x y)), .slice A3 n3 c3], .agg #[.bool false, .slice none 0 0], .bool true]) (by simp [results, Try.results14, go_sem, erX3, erX3', erX4, erX4']) rfl ⟨_, _, _, _, _, _, rfl, (show NatAt ws4 _ _ _ _ from (h3.to bW)), (show NatAt ws4 _ _ _ _ from (nat_nil ws4)), (show Below w.heap.size w ws4 from bW)⟩
      · have HE := Lib.hid (dq_odd (by rw [hx, hy]; decide) hr)
        rw [hy] at HE
        have HR := Lib.hid hr
        have HM := Lib.hid (show x.natAbs % y.natAbs ≤ y.natAbs from Nat.le_of_lt (Nat.mod_lt _ hp))
        have HP := Lib.hid hp
        clear hx hy hr hp
        go_enter Try.func14, Try.ntmps14
        go_wp2_with fail
        have X1 := Blk2.newAt w (w.heap.size) 29 (.bool true) (.slice A n c) (by first | rfl | simp)
        have X2 := Blk2.newAt (w.alloc (.cells #[.bool true, .slice A n c] 29)) (w.heap.size + 1) 29 (.bool false) (.slice A' n' c') (by first | rfl | simp)
        have X3 := Blk2.newAt ((w.alloc (.cells #[.bool true, .slice A n c] 29)).alloc (.cells #[.bool false, .slice A' n' c'] 29)) (w.heap.size + 1 + 1) 29 (.bool false) (.slice none 0 0) (by first | rfl | simp)
        have X4 := Blk2.newAt (((w.alloc (.cells #[.bool true, .slice A n c] 29)).alloc (.cells #[.bool false, .slice A' n' c'] 29)).alloc (.cells #[.bool false, .slice none 0 0] 29)) (w.heap.size + 1 + 1 + 1) 29 (.bool false) (.slice none 0 0) (by first | rfl | simp)
        replace X1 := (show Blk2 ((((w.alloc (.cells #[.bool true, .slice A n c] 29)).alloc (.cells #[.bool false, .slice A' n' c'] 29)).alloc (.cells #[.bool false, .slice none 0 0] 29)).alloc (.cells #[.bool false, .slice none 0 0] 29)) _ _ _ _ from X1.to bW)
        replace X2 := (show Blk2 ((((w.alloc (.cells #[.bool true, .slice A n c] 29)).alloc (.cells #[.bool false, .slice A' n' c'] 29)).alloc (.cells #[.bool false, .slice none 0 0] 29)).alloc (.cells #[.bool false, .slice none 0 0] 29)) _ _ _ _ from X2.to bW)
        replace X3 := (show Blk2 ((((w.alloc (.cells #[.bool true, .slice A n c] 29)).alloc (.cells #[.bool false, .slice A' n' c'] 29)).alloc (.cells #[.bool false, .slice none 0 0] 29)).alloc (.cells #[.bool false, .slice none 0 0] 29)) _ _ _ _ from X3.to bW)
        have hbwe1 : Below w.heap.size w ((((w.alloc (.cells #[.bool true, .slice A n c] 29)).alloc (.cells #[.bool false, .slice A' n' c'] 29)).alloc (.cells #[.bool false, .slice none 0 0] 29)).alloc (.cells #[.bool false, .slice none 0 0] 29)) := bW
        generalize ((((w.alloc (.cells #[.bool true, .slice A n c] 29)).alloc (.cells #[.bool false, .slice A' n' c'] 29)).alloc (.cells #[.bool false, .slice none 0 0] 29)).alloc (.cells #[.bool false, .slice none 0 0] 29)) = we1 at X1 X2 X3 X4 hbwe1  ⊢
        refine (quot_DivMod _ _ _ _ _ _ _ _ _ (h.to bW) (h'.to bW) (by omega) HP.out).mono ?_
        rintro e w1 ⟨A1, n1, c1, A1', n1', c1', rfl, h1, h1', hb1⟩
        have q1 := h1.le_of _ (Nat.lt_of_le_of_lt (Nat.div_le_self _ _) h.lt)
        have q1' := h1'.le_of _ (Nat.lt_of_le_of_lt (Nat.mod_le _ _) h.lt)
        have d1 := (show Blk2 ((w1.alloc (.cells #[.slice A1 n1 c1] 27)).alloc (.cells #[.slice A1' n1' c1'] 27)) _ _ _ _ from X1.to bW).cell
        have d1' := (show Blk2 ((w1.alloc (.cells #[.slice A1 n1 c1] 27)).alloc (.cells #[.slice A1' n1' c1'] 27)) _ _ _ _ from X1.to bW).cell1
        have d2 := (show Blk2 ((w1.alloc (.cells #[.slice A1 n1 c1] 27)).alloc (.cells #[.slice A1' n1' c1'] 27)) _ _ _ _ from X2.to bW).cell
        have d2' := (show Blk2 ((w1.alloc (.cells #[.slice A1 n1 c1] 27)).alloc (.cells #[.slice A1' n1' c1'] 27)) _ _ _ _ from X2.to bW).cell1
        go_wp2_with fail
        clear d1 d1' d2 d2'
        have ltX1_w1 : w.heap.size < w1.heap.size := (show Blk2 w1 _ _ _ _ from X1.to bW).lt
        have ltX2_w1 : w.heap.size + 1 < w1.heap.size := (show Blk2 w1 _ _ _ _ from X2.to bW).lt
        have ltX3_w1 : w.heap.size + 1 + 1 < w1.heap.size := (show Blk2 w1 _ _ _ _ from X3.to bW).lt
        have ltX4_w1 : w.heap.size + 1 + 1 + 1 < w1.heap.size := (show Blk2 w1 _ _ _ _ from X4.to bW).lt
        have X5 := Blk1.newAt w1 (w1.heap.size) 27 (.slice A1 n1 c1) (by first | rfl | simp)
        have X6 := Blk1.newAt (w1.alloc (.cells #[.slice A1 n1 c1] 27)) (w1.heap.size + 1) 27 (.slice A1' n1' c1') (by first | rfl | simp)
        replace X5 := (show Blk1 ((w1.alloc (.cells #[.slice A1 n1 c1] 27)).alloc (.cells #[.slice A1' n1' c1'] 27)) _ _ _ from X5.to bW)
        have hbwe2 : Below w1.heap.size w1 ((w1.alloc (.cells #[.slice A1 n1 c1] 27)).alloc (.cells #[.slice A1' n1' c1'] 27)) := bW
        generalize ((w1.alloc (.cells #[.slice A1 n1 c1] 27)).alloc (.cells #[.slice A1' n1' c1'] 27)) = we2 at X5 X6 hbwe2  ⊢
        refine (nat_Zero _ _ _ _ _ (h1'.to bW)).mono ?_
        rw [decide_eq_false HR.out]
        rintro e w2 ⟨rfl, hb2⟩
        have d3 := (show Blk2 w2 _ _ _ _ from X2.to bW).cell
        have d3' := (show Blk2 w2 _ _ _ _ from X2.to bW).cell1
        have d4 := (show Blk1 w2 _ _ _ from X6.to bW).cell
        go_wp2_with fail
        clear d3 d3' d4
        refine (nat_Sub _ _ _ _ _ _ _ _ _ (h'.to bW) (h1'.to bW) (by omega)).mono ?_
        rw [decide_eq_true HM.out]
        rintro e w3 ⟨A3, n3, c3, rfl, h3, hb3⟩
        have q3 := h3.le_of _ (Nat.lt_of_le_of_lt (Nat.sub_le y.natAbs (x.natAbs % y.natAbs)) h'.lt)
        go_wp2_with fail
        have ltX1_w3 : w.heap.size < w3.heap.size := (show Blk2 w3 _ _ _ _ from X1.to bW).lt
        have ltX2_w3 : w.heap.size + 1 < w3.heap.size := (show Blk2 w3 _ _ _ _ from X2.to bW).lt
        have ltX3_w3 : w.heap.size + 1 + 1 < w3.heap.size := (show Blk2 w3 _ _ _ _ from X3.to bW).lt
        have ltX4_w3 : w.heap.size + 1 + 1 + 1 < w3.heap.size := (show Blk2 w3 _ _ _ _ from X4.to bW).lt
        have ltX5_w3 : w1.heap.size < w3.heap.size := (show Blk1 w3 _ _ _ from X5.to bW).lt
        have ltX6_w3 : w1.heap.size + 1 < w3.heap.size := (show Blk1 w3 _ _ _ from X6.to bW).lt
        have X7 := Blk1.newAt w3 (w3.heap.size) 27 (.slice A3 n3 c3) (by first | rfl | simp)
        have hbwe3 : Below w3.heap.size w3 (w3.alloc (.cells #[.slice A3 n3 c3] 27)) := bW
        generalize (w3.alloc (.cells #[.slice A3 n3 c3] 27)) = we3 at X7 hbwe3  ⊢
        have CX5 := (show Blk1 we3 _ _ _ from X5.to bW).cell
        have CX2 := (show Blk2 we3 _ _ _ _ from X2.to bW).cell
        have CX2' := (show Blk2 we3 _ _ _ _ from X2.to bW).cell1
        have CX7 := (show Blk1 we3 _ _ _ from X7.to bW).cell
        have KP1 : ∀ w', Below we3.heap.size we3 w' → w'.cell? ⟨w1.heap.size, 0, none⟩ = some (.slice A1 n1 c1) ∧ w'.cell? ⟨w.heap.size + 1, 0, none⟩ = some (.bool false) ∧ w'.cell? ⟨w.heap.size + 1, 1, none⟩ = some (.slice A' n' c') ∧ w'.cell? ⟨w3.heap.size, 0, none⟩ = some (.slice A3 n3 c3) ∧ True := fun w' hw' => ⟨cellB hw' CX5, cellB hw' CX2, cellB hw' CX2', cellB hw' CX7, trivial⟩
        refine wp_regionT (S := fun w' => w'.cell? ⟨w1.heap.size, 0, none⟩ = some (.slice A1 n1 c1) ∧ w'.cell? ⟨w.heap.size + 1, 0, none⟩ = some (.bool false) ∧ w'.cell? ⟨w.heap.size + 1, 1, none⟩ = some (.slice A' n' c') ∧ w'.cell? ⟨w3.heap.size, 0, none⟩ = some (.slice A3 n3 c3) ∧ True) [] kR (by first | exact ⟨CSX5_1, CSX2_1, CSX2'_1, CSX7_1, trivial⟩ | exact ⟨CSX5_2, CSX2_2, CSX2'_2, CSX7_2, trivial⟩ | exact KP1 _ bW) (fun hHeld => ?_)
        have hbd1 : Below we3.heap.size we3 we3.drew := nxw (Below.refl _ _)
        generalize we3.drew = wd1 at hHeld hbd1 ⊢
        refine anyT_take (i := 0) (v := ?_) gO kR kR kR kR (by exact fun _ _ _ h => h) (Or.inl ⟨by rfl, ?_⟩) (by assumption) ?_
        rotate_left
        · intro w hSw; (try dsimp only at hSw); go_simp; try with_reducible rfl
        try simp only [Act.put, sX, sY, sZ]
        refine anyT_take (i := 5) (v := ?_) gO kR kR kR kR (by exact fun _ _ _ h => h) (Or.inl ⟨by rfl, ?_⟩) (by assumption) ?_
        rotate_left
        · intro w hSw; (try dsimp only at hSw); go_simp; try with_reducible rfl
        try simp only [Act.put, sX, sY, sZ]
        refine anyT_take (i := 6) (v := ?_) gO kR kR kR kR (by exact fun _ _ _ h => h) (Or.inl ⟨by rfl, ?_⟩) (by assumption) ?_
        rotate_left
        · intro w hSw; (try dsimp only at hSw); go_simp; try with_reducible rfl
        try simp only [Act.put, sX, sY, sZ]
        refine anyT_take (i := 7) (v := ?_) gO kR kR kR kR (by exact fun _ _ _ h => h) (Or.inl ⟨by rfl, ?_⟩) (by assumption) ?_
        rotate_left
        · intro w hSw; (try dsimp only at hSw); go_simp; try with_reducible rfl
        try simp only [Act.put, sX, sY, sZ]
        refine anyT_ready (rs := [1]) kR (by simp) (ReadyT.cons gO (fun K hK => ?_) ReadyT.nil)
        go_simp
        have Z4 : Dig .u64 W (wd1.alloc (.cells #[.int .u64 1] 74)) (some ⟨wd1.heap.size, 0, none⟩) 1 1 1 := dig_oneAt wd1 _ _ 1 rfl (by decide)
        have hbz4 := nxa (Below.refl wd1.heap.size wd1) (.cells #[.int .u64 1] 74)
        generalize wd1.alloc (.cells #[.int .u64 1] 74) = wz4 at Z4 hbz4 ⊢
        refine hK.out _ _ (by first | exact ⟨CSX5_1, CSX2_1, CSX2'_1, CSX7_1, trivial⟩ | exact ⟨CSX5_2, CSX2_2, CSX2'_2, CSX7_2, trivial⟩ | exact KP1 _ bW) (fun hHeld => ?_)
        clear hK K
        try simp only [Act.put, sX, sY, sZ]
        refine anyT_ready (rs := [2]) kR (by simp) (ReadyT.cons gO (fun K hK => ?_) ReadyT.nil)
        go_simp
        go_at_call 38
        (with_reducible refine (nat_Of _ _ _ _ _ (Z4.to bW) (by omega)).mono ?_)
        rintro e w4 ⟨A4, n4, c4, rfl, h4, hb4, m4⟩
        obtain rfl : n4 = 1 := h4.len_is 0 (by decide) (by decide)
        go_simp
        refine hK.out _ _ (by first | exact ⟨CSX5_1, CSX2_1, CSX2'_1, CSX7_1, trivial⟩ | exact ⟨CSX5_2, CSX2_2, CSX2'_2, CSX7_2, trivial⟩ | exact KP1 _ bW) (fun hHeld => ?_)
        clear hK K
        try simp only [Act.put, sX, sY, sZ]
        refine anyT_ready (rs := [3]) kR (by simp) (ReadyT.cons gO (fun K hK => ?_) ReadyT.nil)
        go_simp
        go_at_call 43
        (with_reducible refine (nat_Add _ _ _ _ _ _ _ _ _ (h1.to bW) (h4.to bW) (by omega) (by omega)).mono ?_)
        rintro e w5 ⟨A5, n5, c5, rfl, h5, hb5⟩
        have q5 := h5.le_of _ (add_lt h1.lt h4.lt)
        go_simp
        refine hK.out _ _ (by first | exact ⟨CSX5_1, CSX2_1, CSX2'_1, CSX7_1, trivial⟩ | exact ⟨CSX5_2, CSX2_2, CSX2'_2, CSX7_2, trivial⟩ | exact KP1 _ bW) (fun hHeld => ?_)
        clear hK K
        try simp only [Act.put, sX, sY, sZ]
        refine anyT_ready (rs := [4]) kR (by simp) (ReadyT.cons gO (fun K hK => ?_) ReadyT.nil)
        go_simp
        go_at_call 37
        refine (integer_New true _ _ _ ((x.natAbs / y.natAbs) + 1) _ (h5.to bW)).mono ?_
        rw [← HE.out.1]
        rintro e w6 ⟨A6, n6, c6, rfl, h6, hb6⟩
        go_simp
        refine hK.out _ _ (by first | exact ⟨CSX5_1, CSX2_1, CSX2'_1, CSX7_1, trivial⟩ | exact ⟨CSX5_2, CSX2_2, CSX2'_2, CSX7_2, trivial⟩ | exact KP1 _ bW) (fun hHeld => ?_)
        clear hK K
        try simp only [Act.put, sX, sY, sZ]
        refine anyT_ready (rs := [8]) kR (by simp) (ReadyT.cons gO (fun K hK => ?_) ReadyT.nil)
        go_simp
        go_at_call 37
        refine (integer_New false _ _ _ (y.natAbs - (x.natAbs % y.natAbs)) _ (h3.to bW)).mono ?_
        rw [← HE.out.2]
        rintro e w7 ⟨A7, n7, c7, rfl, h7, hb7⟩
        go_simp
        refine hK.out _ _ (by first | exact ⟨CSX5_1, CSX2_1, CSX2'_1, CSX7_1, trivial⟩ | exact ⟨CSX5_2, CSX2_2, CSX2'_2, CSX7_2, trivial⟩ | exact KP1 _ bW) (fun hHeld => ?_)
        clear hK K
        try simp only [Act.put, sX, sY, sZ]
        refine anyT_ready (rs := [9]) kR (by simp) (ReadyT.cons gO (fun K hK => ?_) ReadyT.nil)
        have cqX3 := (show Blk2 w7 _ _ _ _ from X3.to bW).cell
        have cqX3' := (show Blk2 w7 _ _ _ _ from X3.to bW).cell1
        have fqX3 := (show Blk2 w7 _ _ _ _ from X3.to bW).free 0
        have fqX3' := (show Blk2 w7 _ _ _ _ from X3.to bW).free 1
        have CSX5_1 := (((show Blk1 w7 _ _ _ from X5.to bW).far (p := ⟨w.heap.size + 1 + 1, 0, none⟩) (by show w1.heap.size ≠ w.heap.size + 1 + 1; omega) (.bool (bz (dq x y)))).far (p := ⟨w.heap.size + 1 + 1, 1, none⟩) (by show w1.heap.size ≠ w.heap.size + 1 + 1; omega) (.slice A6 n6 c6)).cell
        have CSX2_1 := (((show Blk2 w7 _ _ _ _ from X2.to bW).far (p := ⟨w.heap.size + 1 + 1, 0, none⟩) (by show w.heap.size + 1 ≠ w.heap.size + 1 + 1; omega) (.bool (bz (dq x y)))).far (p := ⟨w.heap.size + 1 + 1, 1, none⟩) (by show w.heap.size + 1 ≠ w.heap.size + 1 + 1; omega) (.slice A6 n6 c6)).cell
        have CSX2'_1 := (((show Blk2 w7 _ _ _ _ from X2.to bW).far (p := ⟨w.heap.size + 1 + 1, 0, none⟩) (by show w.heap.size + 1 ≠ w.heap.size + 1 + 1; omega) (.bool (bz (dq x y)))).far (p := ⟨w.heap.size + 1 + 1, 1, none⟩) (by show w.heap.size + 1 ≠ w.heap.size + 1 + 1; omega) (.slice A6 n6 c6)).cell1
        have CSX7_1 := (((show Blk1 w7 _ _ _ from X7.to bW).far (p := ⟨w.heap.size + 1 + 1, 0, none⟩) (by show w3.heap.size ≠ w.heap.size + 1 + 1; omega) (.bool (bz (dq x y)))).far (p := ⟨w.heap.size + 1 + 1, 1, none⟩) (by show w3.heap.size ≠ w.heap.size + 1 + 1; omega) (.slice A6 n6 c6)).cell
        go_simp
        refine hK.out _ _ (by first | exact ⟨CSX5_1, CSX2_1, CSX2'_1, CSX7_1, trivial⟩ | exact ⟨CSX5_2, CSX2_2, CSX2'_2, CSX7_2, trivial⟩ | exact KP1 _ bW) (fun hHeld => ?_)
        clear hK K
        try simp only [Act.put, sX, sY, sZ]
        refine anyT_ready (rs := [10]) kR (by simp) (ReadyT.cons gO (fun K hK => ?_) ReadyT.nil)
        have cqX4 := (((show Blk2 w7 _ _ _ _ from X4.to bW).far (p := ⟨w.heap.size + 1 + 1, 0, none⟩) (by show w.heap.size + 1 + 1 + 1 ≠ w.heap.size + 1 + 1; omega) (.bool (bz (dq x y)))).far (p := ⟨w.heap.size + 1 + 1, 1, none⟩) (by show w.heap.size + 1 + 1 + 1 ≠ w.heap.size + 1 + 1; omega) (.slice A6 n6 c6)).cell
        have cqX4' := (((show Blk2 w7 _ _ _ _ from X4.to bW).far (p := ⟨w.heap.size + 1 + 1, 0, none⟩) (by show w.heap.size + 1 + 1 + 1 ≠ w.heap.size + 1 + 1; omega) (.bool (bz (dq x y)))).far (p := ⟨w.heap.size + 1 + 1, 1, none⟩) (by show w.heap.size + 1 + 1 + 1 ≠ w.heap.size + 1 + 1; omega) (.slice A6 n6 c6)).cell1
        have fqX4 := (((show Blk2 w7 _ _ _ _ from X4.to bW).far (p := ⟨w.heap.size + 1 + 1, 0, none⟩) (by show w.heap.size + 1 + 1 + 1 ≠ w.heap.size + 1 + 1; omega) (.bool (bz (dq x y)))).far (p := ⟨w.heap.size + 1 + 1, 1, none⟩) (by show w.heap.size + 1 + 1 + 1 ≠ w.heap.size + 1 + 1; omega) (.slice A6 n6 c6)).free 0
        have fqX4' := (((show Blk2 w7 _ _ _ _ from X4.to bW).far (p := ⟨w.heap.size + 1 + 1, 0, none⟩) (by show w.heap.size + 1 + 1 + 1 ≠ w.heap.size + 1 + 1; omega) (.bool (bz (dq x y)))).far (p := ⟨w.heap.size + 1 + 1, 1, none⟩) (by show w.heap.size + 1 + 1 + 1 ≠ w.heap.size + 1 + 1; omega) (.slice A6 n6 c6)).free 1
        have CSX5_2 := (((((show Blk1 w7 _ _ _ from X5.to bW).far (p := ⟨w.heap.size + 1 + 1, 0, none⟩) (by show w1.heap.size ≠ w.heap.size + 1 + 1; omega) (.bool (bz (dq x y)))).far (p := ⟨w.heap.size + 1 + 1, 1, none⟩) (by show w1.heap.size ≠ w.heap.size + 1 + 1; omega) (.slice A6 n6 c6)).far (p := ⟨w.heap.size + 1 + 1 + 1, 0, none⟩) (by show w1.heap.size ≠ w.heap.size + 1 + 1 + 1; omega) (.bool (bz (dr x y)))).far (p := ⟨w.heap.size + 1 + 1 + 1, 1, none⟩) (by show w1.heap.size ≠ w.heap.size + 1 + 1 + 1; omega) (.slice A7 n7 c7)).cell
        have CSX2_2 := (((((show Blk2 w7 _ _ _ _ from X2.to bW).far (p := ⟨w.heap.size + 1 + 1, 0, none⟩) (by show w.heap.size + 1 ≠ w.heap.size + 1 + 1; omega) (.bool (bz (dq x y)))).far (p := ⟨w.heap.size + 1 + 1, 1, none⟩) (by show w.heap.size + 1 ≠ w.heap.size + 1 + 1; omega) (.slice A6 n6 c6)).far (p := ⟨w.heap.size + 1 + 1 + 1, 0, none⟩) (by show w.heap.size + 1 ≠ w.heap.size + 1 + 1 + 1; omega) (.bool (bz (dr x y)))).far (p := ⟨w.heap.size + 1 + 1 + 1, 1, none⟩) (by show w.heap.size + 1 ≠ w.heap.size + 1 + 1 + 1; omega) (.slice A7 n7 c7)).cell
        have CSX2'_2 := (((((show Blk2 w7 _ _ _ _ from X2.to bW).far (p := ⟨w.heap.size + 1 + 1, 0, none⟩) (by show w.heap.size + 1 ≠ w.heap.size + 1 + 1; omega) (.bool (bz (dq x y)))).far (p := ⟨w.heap.size + 1 + 1, 1, none⟩) (by show w.heap.size + 1 ≠ w.heap.size + 1 + 1; omega) (.slice A6 n6 c6)).far (p := ⟨w.heap.size + 1 + 1 + 1, 0, none⟩) (by show w.heap.size + 1 ≠ w.heap.size + 1 + 1 + 1; omega) (.bool (bz (dr x y)))).far (p := ⟨w.heap.size + 1 + 1 + 1, 1, none⟩) (by show w.heap.size + 1 ≠ w.heap.size + 1 + 1 + 1; omega) (.slice A7 n7 c7)).cell1
        have CSX7_2 := (((((show Blk1 w7 _ _ _ from X7.to bW).far (p := ⟨w.heap.size + 1 + 1, 0, none⟩) (by show w3.heap.size ≠ w.heap.size + 1 + 1; omega) (.bool (bz (dq x y)))).far (p := ⟨w.heap.size + 1 + 1, 1, none⟩) (by show w3.heap.size ≠ w.heap.size + 1 + 1; omega) (.slice A6 n6 c6)).far (p := ⟨w.heap.size + 1 + 1 + 1, 0, none⟩) (by show w3.heap.size ≠ w.heap.size + 1 + 1 + 1; omega) (.bool (bz (dr x y)))).far (p := ⟨w.heap.size + 1 + 1 + 1, 1, none⟩) (by show w3.heap.size ≠ w.heap.size + 1 + 1 + 1; omega) (.slice A7 n7 c7)).cell
        go_simp
        refine hK.out _ _ (by first | exact ⟨CSX5_1, CSX2_1, CSX2'_1, CSX7_1, trivial⟩ | exact ⟨CSX5_2, CSX2_2, CSX2'_2, CSX7_2, trivial⟩ | exact KP1 _ bW) (fun hHeld => ?_)
        clear hK K
        try simp only [Act.put, sX, sY, sZ]
        refine anyT_take (i := 11) (v := ?_) gO kR kR kR kR (by exact fun _ _ _ h => h) (Or.inl ⟨by rfl, ?_⟩) (by assumption) ?_
        rotate_left
        · intro w hSw; (try dsimp only at hSw); go_simp; try with_reducible rfl
        try simp only [Act.put, sX, sY, sZ]
        refine anyT_done kR ?_ _
        clear CSX5_1 CSX2_1 CSX2'_1 CSX7_1 CSX5_2 CSX2_2 CSX2'_2 CSX7_2
        clear hHeld cqX3 cqX3' fqX3' fqX3 cqX4 cqX4' fqX4' fqX4 CX5 CX2 CX2' CX7 KP1
        replace h := (show NatAt w7 _ _ _ _ from h.to bW)
        replace h' := (show NatAt w7 _ _ _ _ from h'.to bW)
        replace h1 := (show NatAt w7 _ _ _ _ from h1.to bW)
        replace h1' := (show NatAt w7 _ _ _ _ from h1'.to bW)
        replace h3 := (show NatAt w7 _ _ _ _ from h3.to bW)
        replace Z4 := (show Dig _ _ w7 _ _ _ _ from Z4.to bW)
        replace h4 := (show NatAt w7 _ _ _ _ from h4.to bW)
        replace h5 := (show NatAt w7 _ _ _ _ from h5.to bW)
        replace h6 := (show NatAt w7 _ _ _ _ from h6.to bW)
        replace h7 := (show NatAt w7 _ _ _ _ from h7.to bW)
        replace X1 := (show Blk2 w7 _ _ _ _ from X1.to bW)
        replace X2 := (show Blk2 w7 _ _ _ _ from X2.to bW)
        replace X3 := (show Blk2 w7 _ _ _ _ from X3.to bW)
        replace X4 := (show Blk2 w7 _ _ _ _ from X4.to bW)
        replace X5 := (show Blk1 w7 _ _ _ from X5.to bW)
        replace X6 := (show Blk1 w7 _ _ _ from X6.to bW)
        replace X7 := (show Blk1 w7 _ _ _ from X7.to bW)
        have hbws5 := below_put2 (show Below w.heap.size w w7 from bW) (g := w.heap.size + 1 + 1) (by show w.heap.size ≤ w.heap.size + 1 + 1; omega) (.bool (bz (dq x y))) (.slice A6 n6 c6)
        replace h := h.put2 X3 (.bool (bz (dq x y))) (.slice A6 n6 c6)
        replace h' := h'.put2 X3 (.bool (bz (dq x y))) (.slice A6 n6 c6)
        replace h1 := h1.put2 X3 (.bool (bz (dq x y))) (.slice A6 n6 c6)
        replace h1' := h1'.put2 X3 (.bool (bz (dq x y))) (.slice A6 n6 c6)
        replace h3 := h3.put2 X3 (.bool (bz (dq x y))) (.slice A6 n6 c6)
        replace Z4 := Z4.put2 X3 (bool_no _) (slice_no _ _ _) (.bool (bz (dq x y))) (.slice A6 n6 c6)
        replace h4 := h4.put2 X3 (.bool (bz (dq x y))) (.slice A6 n6 c6)
        replace h5 := h5.put2 X3 (.bool (bz (dq x y))) (.slice A6 n6 c6)
        replace h6 := h6.put2 X3 (.bool (bz (dq x y))) (.slice A6 n6 c6)
        replace h7 := h7.put2 X3 (.bool (bz (dq x y))) (.slice A6 n6 c6)
        replace X1 := X1.off2 (g := w.heap.size + 1 + 1) (by show w.heap.size ≠ w.heap.size + 1 + 1; omega) (.bool (bz (dq x y))) (.slice A6 n6 c6)
        replace X2 := X2.off2 (g := w.heap.size + 1 + 1) (by show w.heap.size + 1 ≠ w.heap.size + 1 + 1; omega) (.bool (bz (dq x y))) (.slice A6 n6 c6)
        replace X4 := X4.off2 (g := w.heap.size + 1 + 1) (by show w.heap.size + 1 + 1 + 1 ≠ w.heap.size + 1 + 1; omega) (.bool (bz (dq x y))) (.slice A6 n6 c6)
        replace X5 := X5.off2 (g := w.heap.size + 1 + 1) (by show w1.heap.size ≠ w.heap.size + 1 + 1; omega) (.bool (bz (dq x y))) (.slice A6 n6 c6)
        replace X6 := X6.off2 (g := w.heap.size + 1 + 1) (by show w1.heap.size + 1 ≠ w.heap.size + 1 + 1; omega) (.bool (bz (dq x y))) (.slice A6 n6 c6)
        replace X7 := X7.off2 (g := w.heap.size + 1 + 1) (by show w3.heap.size ≠ w.heap.size + 1 + 1; omega) (.bool (bz (dq x y))) (.slice A6 n6 c6)
        replace X3 := X3.put2 (.bool (bz (dq x y))) (.slice A6 n6 c6)
        rw [show (w7.setCell ⟨w.heap.size + 1 + 1, 0, none⟩ (.bool (bz (dq x y)))).setCell ⟨w.heap.size + 1 + 1, 1, none⟩ (.slice A6 n6 c6) = put2 w7 (w.heap.size + 1 + 1) (.bool (bz (dq x y))) (.slice A6 n6 c6) from rfl]
        generalize put2 w7 (w.heap.size + 1 + 1) (.bool (bz (dq x y))) (.slice A6 n6 c6) = ws5 at h h' h1 h1' h3 Z4 h4 h5 h6 h7 X1 X2 X4 X5 X6 X7 X3 hbws5 ⊢
        replace h := (show NatAt ws5 _ _ _ _ from h.to bW)
        replace h' := (show NatAt ws5 _ _ _ _ from h'.to bW)
        replace h1 := (show NatAt ws5 _ _ _ _ from h1.to bW)
        replace h1' := (show NatAt ws5 _ _ _ _ from h1'.to bW)
        replace h3 := (show NatAt ws5 _ _ _ _ from h3.to bW)
        replace Z4 := (show Dig _ _ ws5 _ _ _ _ from Z4.to bW)
        replace h4 := (show NatAt ws5 _ _ _ _ from h4.to bW)
        replace h5 := (show NatAt ws5 _ _ _ _ from h5.to bW)
        replace h6 := (show NatAt ws5 _ _ _ _ from h6.to bW)
        replace h7 := (show NatAt ws5 _ _ _ _ from h7.to bW)
        replace X1 := (show Blk2 ws5 _ _ _ _ from X1.to bW)
        replace X2 := (show Blk2 ws5 _ _ _ _ from X2.to bW)
        replace X3 := (show Blk2 ws5 _ _ _ _ from X3.to bW)
        replace X4 := (show Blk2 ws5 _ _ _ _ from X4.to bW)
        replace X5 := (show Blk1 ws5 _ _ _ from X5.to bW)
        replace X6 := (show Blk1 ws5 _ _ _ from X6.to bW)
        replace X7 := (show Blk1 ws5 _ _ _ from X7.to bW)
        have hbws6 := below_put2 (show Below w.heap.size w ws5 from bW) (g := w.heap.size + 1 + 1 + 1) (by show w.heap.size ≤ w.heap.size + 1 + 1 + 1; omega) (.bool (bz (dr x y))) (.slice A7 n7 c7)
        replace h := h.put2 X4 (.bool (bz (dr x y))) (.slice A7 n7 c7)
        replace h' := h'.put2 X4 (.bool (bz (dr x y))) (.slice A7 n7 c7)
        replace h1 := h1.put2 X4 (.bool (bz (dr x y))) (.slice A7 n7 c7)
        replace h1' := h1'.put2 X4 (.bool (bz (dr x y))) (.slice A7 n7 c7)
        replace h3 := h3.put2 X4 (.bool (bz (dr x y))) (.slice A7 n7 c7)
        replace Z4 := Z4.put2 X4 (bool_no _) (slice_no _ _ _) (.bool (bz (dr x y))) (.slice A7 n7 c7)
        replace h4 := h4.put2 X4 (.bool (bz (dr x y))) (.slice A7 n7 c7)
        replace h5 := h5.put2 X4 (.bool (bz (dr x y))) (.slice A7 n7 c7)
        replace h6 := h6.put2 X4 (.bool (bz (dr x y))) (.slice A7 n7 c7)
        replace h7 := h7.put2 X4 (.bool (bz (dr x y))) (.slice A7 n7 c7)
        replace X1 := X1.off2 (g := w.heap.size + 1 + 1 + 1) (by show w.heap.size ≠ w.heap.size + 1 + 1 + 1; omega) (.bool (bz (dr x y))) (.slice A7 n7 c7)
        replace X2 := X2.off2 (g := w.heap.size + 1 + 1 + 1) (by show w.heap.size + 1 ≠ w.heap.size + 1 + 1 + 1; omega) (.bool (bz (dr x y))) (.slice A7 n7 c7)
        replace X3 := X3.off2 (g := w.heap.size + 1 + 1 + 1) (by show w.heap.size + 1 + 1 ≠ w.heap.size + 1 + 1 + 1; omega) (.bool (bz (dr x y))) (.slice A7 n7 c7)
        replace X5 := X5.off2 (g := w.heap.size + 1 + 1 + 1) (by show w1.heap.size ≠ w.heap.size + 1 + 1 + 1; omega) (.bool (bz (dr x y))) (.slice A7 n7 c7)
        replace X6 := X6.off2 (g := w.heap.size + 1 + 1 + 1) (by show w1.heap.size + 1 ≠ w.heap.size + 1 + 1 + 1; omega) (.bool (bz (dr x y))) (.slice A7 n7 c7)
        replace X7 := X7.off2 (g := w.heap.size + 1 + 1 + 1) (by show w3.heap.size ≠ w.heap.size + 1 + 1 + 1; omega) (.bool (bz (dr x y))) (.slice A7 n7 c7)
        replace X4 := X4.put2 (.bool (bz (dr x y))) (.slice A7 n7 c7)
        rw [show (ws5.setCell ⟨w.heap.size + 1 + 1 + 1, 0, none⟩ (.bool (bz (dr x y)))).setCell ⟨w.heap.size + 1 + 1 + 1, 1, none⟩ (.slice A7 n7 c7) = put2 ws5 (w.heap.size + 1 + 1 + 1) (.bool (bz (dr x y))) (.slice A7 n7 c7) from rfl]
        generalize put2 ws5 (w.heap.size + 1 + 1 + 1) (.bool (bz (dr x y))) (.slice A7 n7 c7) = ws6 at h h' h1 h1' h3 Z4 h4 h5 h6 h7 X1 X2 X3 X5 X6 X7 X4 hbws6 ⊢
        go_wp2_with fail
        have erX3 := (show Blk2 ws6 _ _ _ _ from X3.to bW).cell
        have erX3' := (show Blk2 ws6 _ _ _ _ from X3.to bW).cell1
        have erX4 := (show Blk2 ws6 _ _ _ _ from X4.to bW).cell
        have erX4' := (show Blk2 ws6 _ _ _ _ from X4.to bW).cell1
        exact bodyPost_ret (v := .tuple #[.agg #[.bool (bz (dq x y)), .slice A6 n6 c6], .agg #[.bool (bz (dr x y)), .slice A7 n7 c7], .bool true]) (by simp [results, Try.results14, go_sem, erX3, erX3', erX4, erX4']) rfl ⟨_, _, _, _, _, _, rfl, (show NatAt ws6 _ _ _ _ from (h6.to bW)), (show NatAt ws6 _ _ _ _ from (h7.to bW)), (show Below w.heap.size w ws6 from bW)⟩
    case true =>
      have HE := Lib.hid (dq_same (hx.trans hy.symm))
      rw [hy] at HE
      have HP := Lib.hid hp
      clear hx hy hp
      go_enter Try.func14, Try.ntmps14
      go_wp2_with fail
      have X1 := Blk2.newAt w (w.heap.size) 29 (.bool true) (.slice A n c) (by first | rfl | simp)
      have X2 := Blk2.newAt (w.alloc (.cells #[.bool true, .slice A n c] 29)) (w.heap.size + 1) 29 (.bool true) (.slice A' n' c') (by first | rfl | simp)
      have X3 := Blk2.newAt ((w.alloc (.cells #[.bool true, .slice A n c] 29)).alloc (.cells #[.bool true, .slice A' n' c'] 29)) (w.heap.size + 1 + 1) 29 (.bool false) (.slice none 0 0) (by first | rfl | simp)
      have X4 := Blk2.newAt (((w.alloc (.cells #[.bool true, .slice A n c] 29)).alloc (.cells #[.bool true, .slice A' n' c'] 29)).alloc (.cells #[.bool false, .slice none 0 0] 29)) (w.heap.size + 1 + 1 + 1) 29 (.bool false) (.slice none 0 0) (by first | rfl | simp)
      replace X1 := (show Blk2 ((((w.alloc (.cells #[.bool true, .slice A n c] 29)).alloc (.cells #[.bool true, .slice A' n' c'] 29)).alloc (.cells #[.bool false, .slice none 0 0] 29)).alloc (.cells #[.bool false, .slice none 0 0] 29)) _ _ _ _ from X1.to bW)
      replace X2 := (show Blk2 ((((w.alloc (.cells #[.bool true, .slice A n c] 29)).alloc (.cells #[.bool true, .slice A' n' c'] 29)).alloc (.cells #[.bool false, .slice none 0 0] 29)).alloc (.cells #[.bool false, .slice none 0 0] 29)) _ _ _ _ from X2.to bW)
      replace X3 := (show Blk2 ((((w.alloc (.cells #[.bool true, .slice A n c] 29)).alloc (.cells #[.bool true, .slice A' n' c'] 29)).alloc (.cells #[.bool false, .slice none 0 0] 29)).alloc (.cells #[.bool false, .slice none 0 0] 29)) _ _ _ _ from X3.to bW)
      have hbwe1 : Below w.heap.size w ((((w.alloc (.cells #[.bool true, .slice A n c] 29)).alloc (.cells #[.bool true, .slice A' n' c'] 29)).alloc (.cells #[.bool false, .slice none 0 0] 29)).alloc (.cells #[.bool false, .slice none 0 0] 29)) := bW
      generalize ((((w.alloc (.cells #[.bool true, .slice A n c] 29)).alloc (.cells #[.bool true, .slice A' n' c'] 29)).alloc (.cells #[.bool false, .slice none 0 0] 29)).alloc (.cells #[.bool false, .slice none 0 0] 29)) = we1 at X1 X2 X3 X4 hbwe1  ⊢
      refine (quot_DivMod _ _ _ _ _ _ _ _ _ (h.to bW) (h'.to bW) (by omega) HP.out).mono ?_
      rintro e w1 ⟨A1, n1, c1, A1', n1', c1', rfl, h1, h1', hb1⟩
      have q1 := h1.le_of _ (Nat.lt_of_le_of_lt (Nat.div_le_self _ _) h.lt)
      have q1' := h1'.le_of _ (Nat.lt_of_le_of_lt (Nat.mod_le _ _) h.lt)
      have d1 := (show Blk2 ((w1.alloc (.cells #[.slice A1 n1 c1] 27)).alloc (.cells #[.slice A1' n1' c1'] 27)) _ _ _ _ from X1.to bW).cell
      have d1' := (show Blk2 ((w1.alloc (.cells #[.slice A1 n1 c1] 27)).alloc (.cells #[.slice A1' n1' c1'] 27)) _ _ _ _ from X1.to bW).cell1
      have d2 := (show Blk2 ((w1.alloc (.cells #[.slice A1 n1 c1] 27)).alloc (.cells #[.slice A1' n1' c1'] 27)) _ _ _ _ from X2.to bW).cell
      have d2' := (show Blk2 ((w1.alloc (.cells #[.slice A1 n1 c1] 27)).alloc (.cells #[.slice A1' n1' c1'] 27)) _ _ _ _ from X2.to bW).cell1
      go_wp2_with fail
      clear d1 d1' d2 d2'
      have ltX1_w1 : w.heap.size < w1.heap.size := (show Blk2 w1 _ _ _ _ from X1.to bW).lt
      have ltX2_w1 : w.heap.size + 1 < w1.heap.size := (show Blk2 w1 _ _ _ _ from X2.to bW).lt
      have ltX3_w1 : w.heap.size + 1 + 1 < w1.heap.size := (show Blk2 w1 _ _ _ _ from X3.to bW).lt
      have ltX4_w1 : w.heap.size + 1 + 1 + 1 < w1.heap.size := (show Blk2 w1 _ _ _ _ from X4.to bW).lt
      have X5 := Blk1.newAt w1 (w1.heap.size) 27 (.slice A1 n1 c1) (by first | rfl | simp)
      have X6 := Blk1.newAt (w1.alloc (.cells #[.slice A1 n1 c1] 27)) (w1.heap.size + 1) 27 (.slice A1' n1' c1') (by first | rfl | simp)
      replace X5 := (show Blk1 ((w1.alloc (.cells #[.slice A1 n1 c1] 27)).alloc (.cells #[.slice A1' n1' c1'] 27)) _ _ _ from X5.to bW)
      have hbwe2 : Below w1.heap.size w1 ((w1.alloc (.cells #[.slice A1 n1 c1] 27)).alloc (.cells #[.slice A1' n1' c1'] 27)) := bW
      generalize ((w1.alloc (.cells #[.slice A1 n1 c1] 27)).alloc (.cells #[.slice A1' n1' c1'] 27)) = we2 at X5 X6 hbwe2  ⊢
      have CX5 := (show Blk1 we2 _ _ _ from X5.to bW).cell
      have CX2 := (show Blk2 we2 _ _ _ _ from X2.to bW).cell
      have CX2' := (show Blk2 we2 _ _ _ _ from X2.to bW).cell1
      have CX6 := (show Blk1 we2 _ _ _ from X6.to bW).cell
      have KP1 : ∀ w', Below we2.heap.size we2 w' → w'.cell? ⟨w1.heap.size, 0, none⟩ = some (.slice A1 n1 c1) ∧ w'.cell? ⟨w.heap.size + 1, 0, none⟩ = some (.bool true) ∧ w'.cell? ⟨w.heap.size + 1, 1, none⟩ = some (.slice A' n' c') ∧ w'.cell? ⟨w1.heap.size + 1, 0, none⟩ = some (.slice A1' n1' c1') ∧ True := fun w' hw' => ⟨cellB hw' CX5, cellB hw' CX2, cellB hw' CX2', cellB hw' CX6, trivial⟩
      refine wp_regionT (S := fun w' => w'.cell? ⟨w1.heap.size, 0, none⟩ = some (.slice A1 n1 c1) ∧ w'.cell? ⟨w.heap.size + 1, 0, none⟩ = some (.bool true) ∧ w'.cell? ⟨w.heap.size + 1, 1, none⟩ = some (.slice A' n' c') ∧ w'.cell? ⟨w1.heap.size + 1, 0, none⟩ = some (.slice A1' n1' c1') ∧ True) [] kR (by first | exact ⟨CSX5_1, CSX2_1, CSX2'_1, CSX6_1, trivial⟩ | exact ⟨CSX5_2, CSX2_2, CSX2'_2, CSX6_2, trivial⟩ | exact KP1 _ bW) (fun hHeld => ?_)
      have hbd1 : Below we2.heap.size we2 we2.drew := nxw (Below.refl _ _)
      generalize we2.drew = wd1 at hHeld hbd1 ⊢
      refine anyT_take (i := 0) (v := ?_) gO kR kR kR kR (by exact fun _ _ _ h => h) (Or.inl ⟨by rfl, ?_⟩) (by assumption) ?_
      rotate_left
      · intro w hSw; (try dsimp only at hSw); go_simp; try with_reducible rfl
      try simp only [Act.put, sX, sY, sZ]
      refine anyT_take (i := 2) (v := ?_) gO kR kR kR kR (by exact fun _ _ _ h => h) (Or.inl ⟨by rfl, ?_⟩) (by assumption) ?_
      rotate_left
      · intro w hSw; (try dsimp only at hSw); go_simp; try with_reducible rfl
      try simp only [Act.put, sX, sY, sZ]
      refine anyT_take (i := 3) (v := ?_) gO kR kR kR kR (by exact fun _ _ _ h => h) (Or.inl ⟨by rfl, ?_⟩) (by assumption) ?_
      rotate_left
      · intro w hSw; (try dsimp only at hSw); go_simp; try with_reducible rfl
      try simp only [Act.put, sX, sY, sZ]
      refine anyT_take (i := 4) (v := ?_) gO kR kR kR kR (by exact fun _ _ _ h => h) (Or.inl ⟨by rfl, ?_⟩) (by assumption) ?_
      rotate_left
      · intro w hSw; (try dsimp only at hSw); go_simp; try with_reducible rfl
      try simp only [Act.put, sX, sY, sZ]
      refine anyT_ready (rs := [1]) kR (by simp) (ReadyT.cons gO (fun K hK => ?_) ReadyT.nil)
      go_simp
      go_at_call 37
      refine (integer_New false _ _ _ (x.natAbs / y.natAbs) _ (h1.to bW)).mono ?_
      rw [← HE.out.1]
      rintro e w2 ⟨A2, n2, c2, rfl, h2, hb2⟩
      go_simp
      refine hK.out _ _ (by first | exact ⟨CSX5_1, CSX2_1, CSX2'_1, CSX6_1, trivial⟩ | exact ⟨CSX5_2, CSX2_2, CSX2'_2, CSX6_2, trivial⟩ | exact KP1 _ bW) (fun hHeld => ?_)
      clear hK K
      try simp only [Act.put, sX, sY, sZ]
      refine anyT_ready (rs := [5]) kR (by simp) (ReadyT.cons gO (fun K hK => ?_) ReadyT.nil)
      go_simp
      go_at_call 37
      refine (integer_New true _ _ _ (x.natAbs % y.natAbs) _ (h1'.to bW)).mono ?_
      rw [← HE.out.2]
      rintro e w3 ⟨A3, n3, c3, rfl, h3, hb3⟩
      go_simp
      refine hK.out _ _ (by first | exact ⟨CSX5_1, CSX2_1, CSX2'_1, CSX6_1, trivial⟩ | exact ⟨CSX5_2, CSX2_2, CSX2'_2, CSX6_2, trivial⟩ | exact KP1 _ bW) (fun hHeld => ?_)
      clear hK K
      try simp only [Act.put, sX, sY, sZ]
      refine anyT_ready (rs := [6]) kR (by simp) (ReadyT.cons gO (fun K hK => ?_) ReadyT.nil)
      have cqX3 := (show Blk2 w3 _ _ _ _ from X3.to bW).cell
      have cqX3' := (show Blk2 w3 _ _ _ _ from X3.to bW).cell1
      have fqX3 := (show Blk2 w3 _ _ _ _ from X3.to bW).free 0
      have fqX3' := (show Blk2 w3 _ _ _ _ from X3.to bW).free 1
      have CSX5_1 := (((show Blk1 w3 _ _ _ from X5.to bW).far (p := ⟨w.heap.size + 1 + 1, 0, none⟩) (by show w1.heap.size ≠ w.heap.size + 1 + 1; omega) (.bool (bz (dq x y)))).far (p := ⟨w.heap.size + 1 + 1, 1, none⟩) (by show w1.heap.size ≠ w.heap.size + 1 + 1; omega) (.slice A2 n2 c2)).cell
      have CSX2_1 := (((show Blk2 w3 _ _ _ _ from X2.to bW).far (p := ⟨w.heap.size + 1 + 1, 0, none⟩) (by show w.heap.size + 1 ≠ w.heap.size + 1 + 1; omega) (.bool (bz (dq x y)))).far (p := ⟨w.heap.size + 1 + 1, 1, none⟩) (by show w.heap.size + 1 ≠ w.heap.size + 1 + 1; omega) (.slice A2 n2 c2)).cell
      have CSX2'_1 := (((show Blk2 w3 _ _ _ _ from X2.to bW).far (p := ⟨w.heap.size + 1 + 1, 0, none⟩) (by show w.heap.size + 1 ≠ w.heap.size + 1 + 1; omega) (.bool (bz (dq x y)))).far (p := ⟨w.heap.size + 1 + 1, 1, none⟩) (by show w.heap.size + 1 ≠ w.heap.size + 1 + 1; omega) (.slice A2 n2 c2)).cell1
      have CSX6_1 := (((show Blk1 w3 _ _ _ from X6.to bW).far (p := ⟨w.heap.size + 1 + 1, 0, none⟩) (by show w1.heap.size + 1 ≠ w.heap.size + 1 + 1; omega) (.bool (bz (dq x y)))).far (p := ⟨w.heap.size + 1 + 1, 1, none⟩) (by show w1.heap.size + 1 ≠ w.heap.size + 1 + 1; omega) (.slice A2 n2 c2)).cell
      go_simp
      refine hK.out _ _ (by first | exact ⟨CSX5_1, CSX2_1, CSX2'_1, CSX6_1, trivial⟩ | exact ⟨CSX5_2, CSX2_2, CSX2'_2, CSX6_2, trivial⟩ | exact KP1 _ bW) (fun hHeld => ?_)
      clear hK K
      try simp only [Act.put, sX, sY, sZ]
      refine anyT_ready (rs := [7]) kR (by simp) (ReadyT.cons gO (fun K hK => ?_) ReadyT.nil)
      have cqX4 := (((show Blk2 w3 _ _ _ _ from X4.to bW).far (p := ⟨w.heap.size + 1 + 1, 0, none⟩) (by show w.heap.size + 1 + 1 + 1 ≠ w.heap.size + 1 + 1; omega) (.bool (bz (dq x y)))).far (p := ⟨w.heap.size + 1 + 1, 1, none⟩) (by show w.heap.size + 1 + 1 + 1 ≠ w.heap.size + 1 + 1; omega) (.slice A2 n2 c2)).cell
      have cqX4' := (((show Blk2 w3 _ _ _ _ from X4.to bW).far (p := ⟨w.heap.size + 1 + 1, 0, none⟩) (by show w.heap.size + 1 + 1 + 1 ≠ w.heap.size + 1 + 1; omega) (.bool (bz (dq x y)))).far (p := ⟨w.heap.size + 1 + 1, 1, none⟩) (by show w.heap.size + 1 + 1 + 1 ≠ w.heap.size + 1 + 1; omega) (.slice A2 n2 c2)).cell1
      have fqX4 := (((show Blk2 w3 _ _ _ _ from X4.to bW).far (p := ⟨w.heap.size + 1 + 1, 0, none⟩) (by show w.heap.size + 1 + 1 + 1 ≠ w.heap.size + 1 + 1; omega) (.bool (bz (dq x y)))).far (p := ⟨w.heap.size + 1 + 1, 1, none⟩) (by show w.heap.size + 1 + 1 + 1 ≠ w.heap.size + 1 + 1; omega) (.slice A2 n2 c2)).free 0
      have fqX4' := (((show Blk2 w3 _ _ _ _ from X4.to bW).far (p := ⟨w.heap.size + 1 + 1, 0, none⟩) (by show w.heap.size + 1 + 1 + 1 ≠ w.heap.size + 1 + 1; omega) (.bool (bz (dq x y)))).far (p := ⟨w.heap.size + 1 + 1, 1, none⟩) (by show w.heap.size + 1 + 1 + 1 ≠ w.heap.size + 1 + 1; omega) (.slice A2 n2 c2)).free 1
      have CSX5_2 := (((((show Blk1 w3 _ _ _ from X5.to bW).far (p := ⟨w.heap.size + 1 + 1, 0, none⟩) (by show w1.heap.size ≠ w.heap.size + 1 + 1; omega) (.bool (bz (dq x y)))).far (p := ⟨w.heap.size + 1 + 1, 1, none⟩) (by show w1.heap.size ≠ w.heap.size + 1 + 1; omega) (.slice A2 n2 c2)).far (p := ⟨w.heap.size + 1 + 1 + 1, 0, none⟩) (by show w1.heap.size ≠ w.heap.size + 1 + 1 + 1; omega) (.bool (bz (dr x y)))).far (p := ⟨w.heap.size + 1 + 1 + 1, 1, none⟩) (by show w1.heap.size ≠ w.heap.size + 1 + 1 + 1; omega) (.slice A3 n3 c3)).cell
      have CSX2_2 := (((((show Blk2 w3 _ _ _ _ from X2.to bW).far (p := ⟨w.heap.size + 1 + 1, 0, none⟩) (by show w.heap.size + 1 ≠ w.heap.size + 1 + 1; omega) (.bool (bz (dq x y)))).far (p := ⟨w.heap.size + 1 + 1, 1, none⟩) (by show w.heap.size + 1 ≠ w.heap.size + 1 + 1; omega) (.slice A2 n2 c2)).far (p := ⟨w.heap.size + 1 + 1 + 1, 0, none⟩) (by show w.heap.size + 1 ≠ w.heap.size + 1 + 1 + 1; omega) (.bool (bz (dr x y)))).far (p := ⟨w.heap.size + 1 + 1 + 1, 1, none⟩) (by show w.heap.size + 1 ≠ w.heap.size + 1 + 1 + 1; omega) (.slice A3 n3 c3)).cell
      have CSX2'_2 := (((((show Blk2 w3 _ _ _ _ from X2.to bW).far (p := ⟨w.heap.size + 1 + 1, 0, none⟩) (by show w.heap.size + 1 ≠ w.heap.size + 1 + 1; omega) (.bool (bz (dq x y)))).far (p := ⟨w.heap.size + 1 + 1, 1, none⟩) (by show w.heap.size + 1 ≠ w.heap.size + 1 + 1; omega) (.slice A2 n2 c2)).far (p := ⟨w.heap.size + 1 + 1 + 1, 0, none⟩) (by show w.heap.size + 1 ≠ w.heap.size + 1 + 1 + 1; omega) (.bool (bz (dr x y)))).far (p := ⟨w.heap.size + 1 + 1 + 1, 1, none⟩) (by show w.heap.size + 1 ≠ w.heap.size + 1 + 1 + 1; omega) (.slice A3 n3 c3)).cell1
      have CSX6_2 := (((((show Blk1 w3 _ _ _ from X6.to bW).far (p := ⟨w.heap.size + 1 + 1, 0, none⟩) (by show w1.heap.size + 1 ≠ w.heap.size + 1 + 1; omega) (.bool (bz (dq x y)))).far (p := ⟨w.heap.size + 1 + 1, 1, none⟩) (by show w1.heap.size + 1 ≠ w.heap.size + 1 + 1; omega) (.slice A2 n2 c2)).far (p := ⟨w.heap.size + 1 + 1 + 1, 0, none⟩) (by show w1.heap.size + 1 ≠ w.heap.size + 1 + 1 + 1; omega) (.bool (bz (dr x y)))).far (p := ⟨w.heap.size + 1 + 1 + 1, 1, none⟩) (by show w1.heap.size + 1 ≠ w.heap.size + 1 + 1 + 1; omega) (.slice A3 n3 c3)).cell
      go_simp
      refine hK.out _ _ (by first | exact ⟨CSX5_1, CSX2_1, CSX2'_1, CSX6_1, trivial⟩ | exact ⟨CSX5_2, CSX2_2, CSX2'_2, CSX6_2, trivial⟩ | exact KP1 _ bW) (fun hHeld => ?_)
      clear hK K
      try simp only [Act.put, sX, sY, sZ]
      refine anyT_take (i := 8) (v := ?_) gO kR kR kR kR (by exact fun _ _ _ h => h) (Or.inl ⟨by rfl, ?_⟩) (by assumption) ?_
      rotate_left
      · intro w hSw; (try dsimp only at hSw); go_simp; try with_reducible rfl
      try simp only [Act.put, sX, sY, sZ]
      refine anyT_done kR ?_ _
      clear CSX5_1 CSX2_1 CSX2'_1 CSX6_1 CSX5_2 CSX2_2 CSX2'_2 CSX6_2
      clear hHeld cqX3 cqX3' fqX3' fqX3 cqX4 cqX4' fqX4' fqX4 CX5 CX2 CX2' CX6 KP1
      replace h := (show NatAt w3 _ _ _ _ from h.to bW)
      replace h' := (show NatAt w3 _ _ _ _ from h'.to bW)
      replace h1 := (show NatAt w3 _ _ _ _ from h1.to bW)
      replace h1' := (show NatAt w3 _ _ _ _ from h1'.to bW)
      replace h2 := (show NatAt w3 _ _ _ _ from h2.to bW)
      replace h3 := (show NatAt w3 _ _ _ _ from h3.to bW)
      replace X1 := (show Blk2 w3 _ _ _ _ from X1.to bW)
      replace X2 := (show Blk2 w3 _ _ _ _ from X2.to bW)
      replace X3 := (show Blk2 w3 _ _ _ _ from X3.to bW)
      replace X4 := (show Blk2 w3 _ _ _ _ from X4.to bW)
      replace X5 := (show Blk1 w3 _ _ _ from X5.to bW)
      replace X6 := (show Blk1 w3 _ _ _ from X6.to bW)
      have hbws3 := below_put2 (show Below w.heap.size w w3 from bW) (g := w.heap.size + 1 + 1) (by show w.heap.size ≤ w.heap.size + 1 + 1; omega) (.bool (bz (dq x y))) (.slice A2 n2 c2)
      replace h := h.put2 X3 (.bool (bz (dq x y))) (.slice A2 n2 c2)
      replace h' := h'.put2 X3 (.bool (bz (dq x y))) (.slice A2 n2 c2)
      replace h1 := h1.put2 X3 (.bool (bz (dq x y))) (.slice A2 n2 c2)
      replace h1' := h1'.put2 X3 (.bool (bz (dq x y))) (.slice A2 n2 c2)
      replace h2 := h2.put2 X3 (.bool (bz (dq x y))) (.slice A2 n2 c2)
      replace h3 := h3.put2 X3 (.bool (bz (dq x y))) (.slice A2 n2 c2)
      replace X1 := X1.off2 (g := w.heap.size + 1 + 1) (by show w.heap.size ≠ w.heap.size + 1 + 1; omega) (.bool (bz (dq x y))) (.slice A2 n2 c2)
      replace X2 := X2.off2 (g := w.heap.size + 1 + 1) (by show w.heap.size + 1 ≠ w.heap.size + 1 + 1; omega) (.bool (bz (dq x y))) (.slice A2 n2 c2)
      replace X4 := X4.off2 (g := w.heap.size + 1 + 1) (by show w.heap.size + 1 + 1 + 1 ≠ w.heap.size + 1 + 1; omega) (.bool (bz (dq x y))) (.slice A2 n2 c2)
      replace X5 := X5.off2 (g := w.heap.size + 1 + 1) (by show w1.heap.size ≠ w.heap.size + 1 + 1; omega) (.bool (bz (dq x y))) (.slice A2 n2 c2)
      replace X6 := X6.off2 (g := w.heap.size + 1 + 1) (by show w1.heap.size + 1 ≠ w.heap.size + 1 + 1; omega) (.bool (bz (dq x y))) (.slice A2 n2 c2)
      replace X3 := X3.put2 (.bool (bz (dq x y))) (.slice A2 n2 c2)
      rw [show (w3.setCell ⟨w.heap.size + 1 + 1, 0, none⟩ (.bool (bz (dq x y)))).setCell ⟨w.heap.size + 1 + 1, 1, none⟩ (.slice A2 n2 c2) = put2 w3 (w.heap.size + 1 + 1) (.bool (bz (dq x y))) (.slice A2 n2 c2) from rfl]
      generalize put2 w3 (w.heap.size + 1 + 1) (.bool (bz (dq x y))) (.slice A2 n2 c2) = ws3 at h h' h1 h1' h2 h3 X1 X2 X4 X5 X6 X3 hbws3 ⊢
      replace h := (show NatAt ws3 _ _ _ _ from h.to bW)
      replace h' := (show NatAt ws3 _ _ _ _ from h'.to bW)
      replace h1 := (show NatAt ws3 _ _ _ _ from h1.to bW)
      replace h1' := (show NatAt ws3 _ _ _ _ from h1'.to bW)
      replace h2 := (show NatAt ws3 _ _ _ _ from h2.to bW)
      replace h3 := (show NatAt ws3 _ _ _ _ from h3.to bW)
      replace X1 := (show Blk2 ws3 _ _ _ _ from X1.to bW)
      replace X2 := (show Blk2 ws3 _ _ _ _ from X2.to bW)
      replace X3 := (show Blk2 ws3 _ _ _ _ from X3.to bW)
      replace X4 := (show Blk2 ws3 _ _ _ _ from X4.to bW)
      replace X5 := (show Blk1 ws3 _ _ _ from X5.to bW)
      replace X6 := (show Blk1 ws3 _ _ _ from X6.to bW)
      have hbws4 := below_put2 (show Below w.heap.size w ws3 from bW) (g := w.heap.size + 1 + 1 + 1) (by show w.heap.size ≤ w.heap.size + 1 + 1 + 1; omega) (.bool (bz (dr x y))) (.slice A3 n3 c3)
      replace h := h.put2 X4 (.bool (bz (dr x y))) (.slice A3 n3 c3)
      replace h' := h'.put2 X4 (.bool (bz (dr x y))) (.slice A3 n3 c3)
      replace h1 := h1.put2 X4 (.bool (bz (dr x y))) (.slice A3 n3 c3)
      replace h1' := h1'.put2 X4 (.bool (bz (dr x y))) (.slice A3 n3 c3)
      replace h2 := h2.put2 X4 (.bool (bz (dr x y))) (.slice A3 n3 c3)
      replace h3 := h3.put2 X4 (.bool (bz (dr x y))) (.slice A3 n3 c3)
      replace X1 := X1.off2 (g := w.heap.size + 1 + 1 + 1) (by show w.heap.size ≠ w.heap.size + 1 + 1 + 1; omega) (.bool (bz (dr x y))) (.slice A3 n3 c3)
      replace X2 := X2.off2 (g := w.heap.size + 1 + 1 + 1) (by show w.heap.size + 1 ≠ w.heap.size + 1 + 1 + 1; omega) (.bool (bz (dr x y))) (.slice A3 n3 c3)
      replace X3 := X3.off2 (g := w.heap.size + 1 + 1 + 1) (by show w.heap.size + 1 + 1 ≠ w.heap.size + 1 + 1 + 1; omega) (.bool (bz (dr x y))) (.slice A3 n3 c3)
      replace X5 := X5.off2 (g := w.heap.size + 1 + 1 + 1) (by show w1.heap.size ≠ w.heap.size + 1 + 1 + 1; omega) (.bool (bz (dr x y))) (.slice A3 n3 c3)
      replace X6 := X6.off2 (g := w.heap.size + 1 + 1 + 1) (by show w1.heap.size + 1 ≠ w.heap.size + 1 + 1 + 1; omega) (.bool (bz (dr x y))) (.slice A3 n3 c3)
      replace X4 := X4.put2 (.bool (bz (dr x y))) (.slice A3 n3 c3)
      rw [show (ws3.setCell ⟨w.heap.size + 1 + 1 + 1, 0, none⟩ (.bool (bz (dr x y)))).setCell ⟨w.heap.size + 1 + 1 + 1, 1, none⟩ (.slice A3 n3 c3) = put2 ws3 (w.heap.size + 1 + 1 + 1) (.bool (bz (dr x y))) (.slice A3 n3 c3) from rfl]
      generalize put2 ws3 (w.heap.size + 1 + 1 + 1) (.bool (bz (dr x y))) (.slice A3 n3 c3) = ws4 at h h' h1 h1' h2 h3 X1 X2 X3 X5 X6 X4 hbws4 ⊢
      go_wp2_with fail
      have erX3 := (show Blk2 ws4 _ _ _ _ from X3.to bW).cell
      have erX3' := (show Blk2 ws4 _ _ _ _ from X3.to bW).cell1
      have erX4 := (show Blk2 ws4 _ _ _ _ from X4.to bW).cell
      have erX4' := (show Blk2 ws4 _ _ _ _ from X4.to bW).cell1
      exact bodyPost_ret (v := .tuple #[.agg #[.bool (bz (dq x y)), .slice A2 n2 c2], .agg #[.bool (bz (dr x y)), .slice A3 n3 c3], .bool true]) (by simp [results, Try.results14, go_sem, erX3, erX3', erX4, erX4']) rfl ⟨_, _, _, _, _, _, rfl, (show NatAt ws4 _ _ _ _ from (h2.to bW)), (show NatAt ws4 _ _ _ _ from (h3.to bW)), (show Below w.heap.size w ws4 from bW)⟩
end Go.Proofs.Ytihbpkljjmpkjaa
