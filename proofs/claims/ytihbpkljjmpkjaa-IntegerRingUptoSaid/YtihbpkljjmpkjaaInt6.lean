/- The walks of package integer, fifth part: Read. -/
import Derived.Test.YtihbpkljjmpkjaaInt5
set_option linter.unusedVariables false
set_option linter.unusedSimpArgs false
namespace Go.Proofs.Ytihbpkljjmpkjaa
open Go.RowKit
set_option maxRecDepth 100000
/-- does a text begin with a sign? -/
def nb (s : ByteArray) : Bool := decide (0 < s.size ∧ sd s 0 = 45)
def body (s : ByteArray) : ByteArray := if nb s then s.extract 1 s.size else s
/-- a text that is a whole number's -/
def okz (s : ByteArray) : Prop := okd (body s) ∧ ¬ (nb s = true ∧ rdv (body s) = 0)
instance (s : ByteArray) : Decidable (okz s) := by unfold okz; infer_instance
def zv (s : ByteArray) : Int := if okz s then sg (nb s) (rdv (body s)) else 0
def RetIntS (w : World) (z : Int) (b : Bool) (e : Ending) (w' : World) : Prop := ∃ A n c, e = .returned (.tuple #[.agg #[.bool (bz z), .slice A n c], .bool b]) ∧ NatAt w' A n c z.natAbs ∧ Below w.heap.size w w'
theorem body_size (s : ByteArray) : (body s).size ≤ s.size := by
  unfold body
  split
  · simp [ByteArray.size_extract]
  · exact Nat.le_refl _
set_option maxHeartbeats 4000000 in
theorem integer_Read (s : ByteArray) (w : World) (hs : s.size ≤ 140737488355328) :
    Calls Try.prog 20 #[.string s] w (RetIntS w (zv s) (decide (okz s))) := by
  rcases Nat.eq_zero_or_pos s.size with hz | hz
  · have HN := Lib.hid (show nb s = false from decide_eq_false (fun h => by omega))
    have HB := Lib.hid (show body s = s by unfold body; rw [HN.out]; rfl)
    have e1 := toList_empty hz
    clear hz
    by_cases ho : okd (body s)
    rotate_left
    · have HO := Lib.hid ho
      rw [HB.out] at HO
      have HK := Lib.hid (show ¬ okz s from fun h => ho h.1)
      rw [show zv s = 0 from if_neg HK.out, decide_eq_false HK.out]
      clear ho
      go_enter Try.func20, Try.ntmps20
      go_wp2_with fail
      have X1 := Blk2.newAt w (w.heap.size) 29 (.bool false) (.slice none 0 0) (by first | rfl | simp)
      have hbwe1 : Below w.heap.size w (w.alloc (.cells #[.bool false, .slice none 0 0] 29)) := bW
      generalize (w.alloc (.cells #[.bool false, .slice none 0 0] 29)) = we1 at X1 hbwe1  ⊢
      refine (digits_Read s _ (by have := body_size s; rw [HB.out] at this; omega)).mono ?_
      rw [decide_eq_false HO.out]
      rintro e w1 ⟨A1, n1, c1, rfl, h1, hb1⟩
      have q1 := h1.le_of _ (rdv_words s)
      have d1 := (show Blk2 (w1.alloc (.cells #[.slice A1 n1 c1] 27)) _ _ _ _ from X1.to bW).cell
      have d1' := (show Blk2 (w1.alloc (.cells #[.slice A1 n1 c1] 27)) _ _ _ _ from X1.to bW).cell1
      have f0d1 := (show Blk2 (w1.alloc (.cells #[.slice A1 n1 c1] 27)) _ _ _ _ from X1.to bW).free 0
      have f1d1 := (show Blk2 (w1.alloc (.cells #[.slice A1 n1 c1] 27)) _ _ _ _ from X1.to bW).free 1
      go_wp2_with fail
      clear d1 d1' f0d1 f1d1
      have ltX1_w1 : w.heap.size < w1.heap.size := (show Blk2 w1 _ _ _ _ from X1.to bW).lt
      have X2 := Blk1.newAt w1 (w1.heap.size) 27 (.slice A1 n1 c1) (by first | rfl | simp)
      have hbwe2 : Below w1.heap.size w1 (w1.alloc (.cells #[.slice A1 n1 c1] 27)) := bW
      generalize (w1.alloc (.cells #[.slice A1 n1 c1] 27)) = we2 at X2 hbwe2  ⊢
      replace h1 := (show NatAt we2 _ _ _ _ from h1.to bW)
      replace X1 := (show Blk2 we2 _ _ _ _ from X1.to bW)
      replace X2 := (show Blk1 we2 _ _ _ from X2.to bW)
      have hbws3 := below_put2 (show Below w.heap.size w we2 from bW) (g := w.heap.size) (by show w.heap.size ≤ w.heap.size; omega) (.bool false) (.slice none 0 0)
      replace h1 := h1.put2 X1 (.bool false) (.slice none 0 0)
      replace X2 := X2.off2 (g := w.heap.size) (by show w1.heap.size ≠ w.heap.size; omega) (.bool false) (.slice none 0 0)
      replace X1 := X1.put2 (.bool false) (.slice none 0 0)
      rw [show (we2.setCell ⟨w.heap.size, 0, none⟩ (.bool false)).setCell ⟨w.heap.size, 1, none⟩ (.slice none 0 0) = put2 we2 (w.heap.size) (.bool false) (.slice none 0 0) from rfl]
      generalize put2 we2 (w.heap.size) (.bool false) (.slice none 0 0) = ws3 at h1 X2 X1 hbws3 ⊢
      have erX1 := (show Blk2 ws3 _ _ _ _ from X1.to bW).cell
      have erX1' := (show Blk2 ws3 _ _ _ _ from X1.to bW).cell1
      exact bodyPost_ret (v := .tuple #[.agg #[.bool false, .slice none 0 0], .bool false]) (by simp [results, Try.results20, go_sem, erX1, erX1']) rfl ⟨_, _, _, rfl, (show NatAt ws3 _ _ _ _ from (nat_nil ws3)), (show Below w.heap.size w ws3 from bW)⟩
    · have HO := Lib.hid ho
      rw [HB.out] at HO
      have HK := Lib.hid (show okz s from ⟨ho, fun h => by have := HN.out; rw [h.1] at this; cases this⟩)
      have HV := Lib.hid (show zv s = sg false (rdv s) by unfold zv; rw [if_pos HK.out, HN.out, HB.out])
      rw [decide_eq_true HK.out]
      clear ho
      go_enter Try.func20, Try.ntmps20
      go_wp2_with fail
      have X1 := Blk2.newAt w (w.heap.size) 29 (.bool false) (.slice none 0 0) (by first | rfl | simp)
      have hbwe1 : Below w.heap.size w (w.alloc (.cells #[.bool false, .slice none 0 0] 29)) := bW
      generalize (w.alloc (.cells #[.bool false, .slice none 0 0] 29)) = we1 at X1 hbwe1  ⊢
      refine (digits_Read s _ (by have := body_size s; rw [HB.out] at this; omega)).mono ?_
      rw [decide_eq_true HO.out]
      rintro e w1 ⟨A1, n1, c1, rfl, h1, hb1⟩
      have q1 := h1.le_of _ (rdv_words s)
      go_wp2_with fail
      have ltX1_w1 : w.heap.size < w1.heap.size := (show Blk2 w1 _ _ _ _ from X1.to bW).lt
      have X2 := Blk1.newAt w1 (w1.heap.size) 27 (.slice A1 n1 c1) (by first | rfl | simp)
      have hbwe2 : Below w1.heap.size w1 (w1.alloc (.cells #[.slice A1 n1 c1] 27)) := bW
      generalize (w1.alloc (.cells #[.slice A1 n1 c1] 27)) = we2 at X2 hbwe2  ⊢
      refine (integer_New false _ _ _ (rdv s) _ (h1.to bW)).mono ?_
      rw [← HV.out]
      rintro e w2 ⟨A2, n2, c2, rfl, h2, hb2⟩
      have d1 := (show Blk2 w2 _ _ _ _ from X1.to bW).cell
      have d1' := (show Blk2 w2 _ _ _ _ from X1.to bW).cell1
      have f0d1 := (show Blk2 w2 _ _ _ _ from X1.to bW).free 0
      have f1d1 := (show Blk2 w2 _ _ _ _ from X1.to bW).free 1
      go_wp2_with fail
      clear d1 d1' f0d1 f1d1
      replace h1 := (show NatAt w2 _ _ _ _ from h1.to bW)
      replace h2 := (show NatAt w2 _ _ _ _ from h2.to bW)
      replace X1 := (show Blk2 w2 _ _ _ _ from X1.to bW)
      replace X2 := (show Blk1 w2 _ _ _ from X2.to bW)
      have hbws3 := below_put2 (show Below w.heap.size w w2 from bW) (g := w.heap.size) (by show w.heap.size ≤ w.heap.size; omega) (.bool (bz (zv s))) (.slice A2 n2 c2)
      replace h1 := h1.put2 X1 (.bool (bz (zv s))) (.slice A2 n2 c2)
      replace h2 := h2.put2 X1 (.bool (bz (zv s))) (.slice A2 n2 c2)
      replace X2 := X2.off2 (g := w.heap.size) (by show w1.heap.size ≠ w.heap.size; omega) (.bool (bz (zv s))) (.slice A2 n2 c2)
      replace X1 := X1.put2 (.bool (bz (zv s))) (.slice A2 n2 c2)
      rw [show (w2.setCell ⟨w.heap.size, 0, none⟩ (.bool (bz (zv s)))).setCell ⟨w.heap.size, 1, none⟩ (.slice A2 n2 c2) = put2 w2 (w.heap.size) (.bool (bz (zv s))) (.slice A2 n2 c2) from rfl]
      generalize put2 w2 (w.heap.size) (.bool (bz (zv s))) (.slice A2 n2 c2) = ws3 at h1 h2 X2 X1 hbws3 ⊢
      have erX1 := (show Blk2 ws3 _ _ _ _ from X1.to bW).cell
      have erX1' := (show Blk2 ws3 _ _ _ _ from X1.to bW).cell1
      exact bodyPost_ret (v := .tuple #[.agg #[.bool (bz (zv s)), .slice A2 n2 c2], .bool true]) (by simp [results, Try.results20, go_sem, erX1, erX1']) rfl ⟨_, _, _, rfl, (show NatAt ws3 _ _ _ _ from (h2.to bW)), (show Below w.heap.size w ws3 from bW)⟩
  · have e1 := toList_some hz
    have e2 := isEmpty_some hz
    have SG := sd_get s
    have hz9 : 1 ≤ s.size := hz
    by_cases h45 : sd s 0 = 45
    rotate_left
    · have z1 : (((sd s 0 : Nat) : Int) == 45) = false := by simp; omega
      have HN := Lib.hid (show nb s = false from decide_eq_false (fun h => h45 h.2))
      have HB := Lib.hid (show body s = s by unfold body; rw [HN.out]; rfl)
      clear h45
      by_cases ho : okd (body s)
      rotate_left
      · have HO := Lib.hid ho
        rw [HB.out] at HO
        have HK := Lib.hid (show ¬ okz s from fun h => ho h.1)
        rw [show zv s = 0 from if_neg HK.out, decide_eq_false HK.out]
        clear ho
        go_enter Try.func20, Try.ntmps20
        go_wp2_with fail
        have X1 := Blk2.newAt w (w.heap.size) 29 (.bool false) (.slice none 0 0) (by first | rfl | simp)
        have hbwe1 : Below w.heap.size w (w.alloc (.cells #[.bool false, .slice none 0 0] 29)) := bW
        generalize (w.alloc (.cells #[.bool false, .slice none 0 0] 29)) = we1 at X1 hbwe1  ⊢
        refine (digits_Read s _ (by have := body_size s; rw [HB.out] at this; omega)).mono ?_
        rw [decide_eq_false HO.out]
        rintro e w1 ⟨A1, n1, c1, rfl, h1, hb1⟩
        have q1 := h1.le_of _ (rdv_words s)
        have d1 := (show Blk2 (w1.alloc (.cells #[.slice A1 n1 c1] 27)) _ _ _ _ from X1.to bW).cell
        have d1' := (show Blk2 (w1.alloc (.cells #[.slice A1 n1 c1] 27)) _ _ _ _ from X1.to bW).cell1
        have f0d1 := (show Blk2 (w1.alloc (.cells #[.slice A1 n1 c1] 27)) _ _ _ _ from X1.to bW).free 0
        have f1d1 := (show Blk2 (w1.alloc (.cells #[.slice A1 n1 c1] 27)) _ _ _ _ from X1.to bW).free 1
        go_wp2_with fail
        clear d1 d1' f0d1 f1d1
        have ltX1_w1 : w.heap.size < w1.heap.size := (show Blk2 w1 _ _ _ _ from X1.to bW).lt
        have X2 := Blk1.newAt w1 (w1.heap.size) 27 (.slice A1 n1 c1) (by first | rfl | simp)
        have hbwe2 : Below w1.heap.size w1 (w1.alloc (.cells #[.slice A1 n1 c1] 27)) := bW
        generalize (w1.alloc (.cells #[.slice A1 n1 c1] 27)) = we2 at X2 hbwe2  ⊢
        replace h1 := (show NatAt we2 _ _ _ _ from h1.to bW)
        replace X1 := (show Blk2 we2 _ _ _ _ from X1.to bW)
        replace X2 := (show Blk1 we2 _ _ _ from X2.to bW)
        have hbws3 := below_put2 (show Below w.heap.size w we2 from bW) (g := w.heap.size) (by show w.heap.size ≤ w.heap.size; omega) (.bool false) (.slice none 0 0)
        replace h1 := h1.put2 X1 (.bool false) (.slice none 0 0)
        replace X2 := X2.off2 (g := w.heap.size) (by show w1.heap.size ≠ w.heap.size; omega) (.bool false) (.slice none 0 0)
        replace X1 := X1.put2 (.bool false) (.slice none 0 0)
        rw [show (we2.setCell ⟨w.heap.size, 0, none⟩ (.bool false)).setCell ⟨w.heap.size, 1, none⟩ (.slice none 0 0) = put2 we2 (w.heap.size) (.bool false) (.slice none 0 0) from rfl]
        generalize put2 we2 (w.heap.size) (.bool false) (.slice none 0 0) = ws3 at h1 X2 X1 hbws3 ⊢
        have erX1 := (show Blk2 ws3 _ _ _ _ from X1.to bW).cell
        have erX1' := (show Blk2 ws3 _ _ _ _ from X1.to bW).cell1
        exact bodyPost_ret (v := .tuple #[.agg #[.bool false, .slice none 0 0], .bool false]) (by simp [results, Try.results20, go_sem, erX1, erX1']) rfl ⟨_, _, _, rfl, (show NatAt ws3 _ _ _ _ from (nat_nil ws3)), (show Below w.heap.size w ws3 from bW)⟩
      · have HO := Lib.hid ho
        rw [HB.out] at HO
        have HK := Lib.hid (show okz s from ⟨ho, fun h => by have := HN.out; rw [h.1] at this; cases this⟩)
        have HV := Lib.hid (show zv s = sg false (rdv s) by unfold zv; rw [if_pos HK.out, HN.out, HB.out])
        rw [decide_eq_true HK.out]
        clear ho
        go_enter Try.func20, Try.ntmps20
        go_wp2_with fail
        have X1 := Blk2.newAt w (w.heap.size) 29 (.bool false) (.slice none 0 0) (by first | rfl | simp)
        have hbwe1 : Below w.heap.size w (w.alloc (.cells #[.bool false, .slice none 0 0] 29)) := bW
        generalize (w.alloc (.cells #[.bool false, .slice none 0 0] 29)) = we1 at X1 hbwe1  ⊢
        refine (digits_Read s _ (by have := body_size s; rw [HB.out] at this; omega)).mono ?_
        rw [decide_eq_true HO.out]
        rintro e w1 ⟨A1, n1, c1, rfl, h1, hb1⟩
        have q1 := h1.le_of _ (rdv_words s)
        go_wp2_with fail
        have ltX1_w1 : w.heap.size < w1.heap.size := (show Blk2 w1 _ _ _ _ from X1.to bW).lt
        have X2 := Blk1.newAt w1 (w1.heap.size) 27 (.slice A1 n1 c1) (by first | rfl | simp)
        have hbwe2 : Below w1.heap.size w1 (w1.alloc (.cells #[.slice A1 n1 c1] 27)) := bW
        generalize (w1.alloc (.cells #[.slice A1 n1 c1] 27)) = we2 at X2 hbwe2  ⊢
        refine (integer_New false _ _ _ (rdv s) _ (h1.to bW)).mono ?_
        rw [← HV.out]
        rintro e w2 ⟨A2, n2, c2, rfl, h2, hb2⟩
        have d1 := (show Blk2 w2 _ _ _ _ from X1.to bW).cell
        have d1' := (show Blk2 w2 _ _ _ _ from X1.to bW).cell1
        have f0d1 := (show Blk2 w2 _ _ _ _ from X1.to bW).free 0
        have f1d1 := (show Blk2 w2 _ _ _ _ from X1.to bW).free 1
        go_wp2_with fail
        clear d1 d1' f0d1 f1d1
        replace h1 := (show NatAt w2 _ _ _ _ from h1.to bW)
        replace h2 := (show NatAt w2 _ _ _ _ from h2.to bW)
        replace X1 := (show Blk2 w2 _ _ _ _ from X1.to bW)
        replace X2 := (show Blk1 w2 _ _ _ from X2.to bW)
        have hbws3 := below_put2 (show Below w.heap.size w w2 from bW) (g := w.heap.size) (by show w.heap.size ≤ w.heap.size; omega) (.bool (bz (zv s))) (.slice A2 n2 c2)
        replace h1 := h1.put2 X1 (.bool (bz (zv s))) (.slice A2 n2 c2)
        replace h2 := h2.put2 X1 (.bool (bz (zv s))) (.slice A2 n2 c2)
        replace X2 := X2.off2 (g := w.heap.size) (by show w1.heap.size ≠ w.heap.size; omega) (.bool (bz (zv s))) (.slice A2 n2 c2)
        replace X1 := X1.put2 (.bool (bz (zv s))) (.slice A2 n2 c2)
        rw [show (w2.setCell ⟨w.heap.size, 0, none⟩ (.bool (bz (zv s)))).setCell ⟨w.heap.size, 1, none⟩ (.slice A2 n2 c2) = put2 w2 (w.heap.size) (.bool (bz (zv s))) (.slice A2 n2 c2) from rfl]
        generalize put2 w2 (w.heap.size) (.bool (bz (zv s))) (.slice A2 n2 c2) = ws3 at h1 h2 X2 X1 hbws3 ⊢
        have erX1 := (show Blk2 ws3 _ _ _ _ from X1.to bW).cell
        have erX1' := (show Blk2 ws3 _ _ _ _ from X1.to bW).cell1
        exact bodyPost_ret (v := .tuple #[.agg #[.bool (bz (zv s)), .slice A2 n2 c2], .bool true]) (by simp [results, Try.results20, go_sem, erX1, erX1']) rfl ⟨_, _, _, rfl, (show NatAt ws3 _ _ _ _ from (h2.to bW)), (show Below w.heap.size w ws3 from bW)⟩
    · have z1 : (((sd s 0 : Nat) : Int) == 45) = true := by simp; omega
      have HN := Lib.hid (show nb s = true from decide_eq_true ⟨hz, h45⟩)
      have HB := Lib.hid (show body s = s.extract 1 s.size by unfold body; rw [HN.out]; rfl)
      clear h45
      by_cases ho : okd (body s)
      rotate_left
      · have HO := Lib.hid ho
        rw [HB.out] at HO
        have HK := Lib.hid (show ¬ okz s from fun h => ho h.1)
        rw [show zv s = 0 from if_neg HK.out, decide_eq_false HK.out]
        clear ho
        go_enter Try.func20, Try.ntmps20
        go_wp2_with fail
        have X1 := Blk2.newAt w (w.heap.size) 29 (.bool false) (.slice none 0 0) (by first | rfl | simp)
        have hbwe1 : Below w.heap.size w (w.alloc (.cells #[.bool false, .slice none 0 0] 29)) := bW
        generalize (w.alloc (.cells #[.bool false, .slice none 0 0] 29)) = we1 at X1 hbwe1  ⊢
        refine (digits_Read (s.extract 1 s.size) _ (by have := body_size s; rw [HB.out] at this; omega)).mono ?_
        rw [decide_eq_false HO.out]
        rintro e w1 ⟨A1, n1, c1, rfl, h1, hb1⟩
        have q1 := h1.le_of _ (rdv_words (s.extract 1 s.size))
        have d1 := (show Blk2 (w1.alloc (.cells #[.slice A1 n1 c1] 27)) _ _ _ _ from X1.to bW).cell
        have d1' := (show Blk2 (w1.alloc (.cells #[.slice A1 n1 c1] 27)) _ _ _ _ from X1.to bW).cell1
        have f0d1 := (show Blk2 (w1.alloc (.cells #[.slice A1 n1 c1] 27)) _ _ _ _ from X1.to bW).free 0
        have f1d1 := (show Blk2 (w1.alloc (.cells #[.slice A1 n1 c1] 27)) _ _ _ _ from X1.to bW).free 1
        go_wp2_with fail
        clear d1 d1' f0d1 f1d1
        have ltX1_w1 : w.heap.size < w1.heap.size := (show Blk2 w1 _ _ _ _ from X1.to bW).lt
        have X2 := Blk1.newAt w1 (w1.heap.size) 27 (.slice A1 n1 c1) (by first | rfl | simp)
        have hbwe2 : Below w1.heap.size w1 (w1.alloc (.cells #[.slice A1 n1 c1] 27)) := bW
        generalize (w1.alloc (.cells #[.slice A1 n1 c1] 27)) = we2 at X2 hbwe2  ⊢
        replace h1 := (show NatAt we2 _ _ _ _ from h1.to bW)
        replace X1 := (show Blk2 we2 _ _ _ _ from X1.to bW)
        replace X2 := (show Blk1 we2 _ _ _ from X2.to bW)
        have hbws3 := below_put2 (show Below w.heap.size w we2 from bW) (g := w.heap.size) (by show w.heap.size ≤ w.heap.size; omega) (.bool false) (.slice none 0 0)
        replace h1 := h1.put2 X1 (.bool false) (.slice none 0 0)
        replace X2 := X2.off2 (g := w.heap.size) (by show w1.heap.size ≠ w.heap.size; omega) (.bool false) (.slice none 0 0)
        replace X1 := X1.put2 (.bool false) (.slice none 0 0)
        rw [show (we2.setCell ⟨w.heap.size, 0, none⟩ (.bool false)).setCell ⟨w.heap.size, 1, none⟩ (.slice none 0 0) = put2 we2 (w.heap.size) (.bool false) (.slice none 0 0) from rfl]
        generalize put2 we2 (w.heap.size) (.bool false) (.slice none 0 0) = ws3 at h1 X2 X1 hbws3 ⊢
        have erX1 := (show Blk2 ws3 _ _ _ _ from X1.to bW).cell
        have erX1' := (show Blk2 ws3 _ _ _ _ from X1.to bW).cell1
        exact bodyPost_ret (v := .tuple #[.agg #[.bool false, .slice none 0 0], .bool false]) (by simp [results, Try.results20, go_sem, erX1, erX1']) rfl ⟨_, _, _, rfl, (show NatAt ws3 _ _ _ _ from (nat_nil ws3)), (show Below w.heap.size w ws3 from bW)⟩
      · have HO := Lib.hid ho
        rw [HB.out] at HO
        by_cases h0 : rdv (body s) = 0
        · have H0 := Lib.hid h0
          rw [HB.out] at H0
          have HK := Lib.hid (show ¬ okz s from fun h => h.2 ⟨HN.out, h0⟩)
          rw [show zv s = 0 from if_neg HK.out, decide_eq_false HK.out]
          clear ho h0
          go_enter Try.func20, Try.ntmps20
          go_wp2_with fail
          have X1 := Blk2.newAt w (w.heap.size) 29 (.bool false) (.slice none 0 0) (by first | rfl | simp)
          have hbwe1 : Below w.heap.size w (w.alloc (.cells #[.bool false, .slice none 0 0] 29)) := bW
          generalize (w.alloc (.cells #[.bool false, .slice none 0 0] 29)) = we1 at X1 hbwe1  ⊢
          refine (digits_Read (s.extract 1 s.size) _ (by have := body_size s; rw [HB.out] at this; omega)).mono ?_
          rw [decide_eq_true HO.out]
          rintro e w1 ⟨A1, n1, c1, rfl, h1, hb1⟩
          have q1 := h1.le_of _ (rdv_words (s.extract 1 s.size))
          go_wp2_with fail
          have ltX1_w1 : w.heap.size < w1.heap.size := (show Blk2 w1 _ _ _ _ from X1.to bW).lt
          have X2 := Blk1.newAt w1 (w1.heap.size) 27 (.slice A1 n1 c1) (by first | rfl | simp)
          have hbwe2 : Below w1.heap.size w1 (w1.alloc (.cells #[.slice A1 n1 c1] 27)) := bW
          generalize (w1.alloc (.cells #[.slice A1 n1 c1] 27)) = we2 at X2 hbwe2  ⊢
          refine (nat_Zero _ _ _ _ _ (h1.to bW)).mono ?_
          rw [decide_eq_true H0.out]
          rintro e w2 ⟨rfl, hb2⟩
          have d1 := (show Blk2 w2 _ _ _ _ from X1.to bW).cell
          have d1' := (show Blk2 w2 _ _ _ _ from X1.to bW).cell1
          have f0d1 := (show Blk2 w2 _ _ _ _ from X1.to bW).free 0
          have f1d1 := (show Blk2 w2 _ _ _ _ from X1.to bW).free 1
          go_wp2_with fail
          clear d1 d1' f0d1 f1d1
          replace h1 := (show NatAt w2 _ _ _ _ from h1.to bW)
          replace X1 := (show Blk2 w2 _ _ _ _ from X1.to bW)
          replace X2 := (show Blk1 w2 _ _ _ from X2.to bW)
          have hbws3 := below_put2 (show Below w.heap.size w w2 from bW) (g := w.heap.size) (by show w.heap.size ≤ w.heap.size; omega) (.bool false) (.slice none 0 0)
          replace h1 := h1.put2 X1 (.bool false) (.slice none 0 0)
          replace X2 := X2.off2 (g := w.heap.size) (by show w1.heap.size ≠ w.heap.size; omega) (.bool false) (.slice none 0 0)
          replace X1 := X1.put2 (.bool false) (.slice none 0 0)
          rw [show (w2.setCell ⟨w.heap.size, 0, none⟩ (.bool false)).setCell ⟨w.heap.size, 1, none⟩ (.slice none 0 0) = put2 w2 (w.heap.size) (.bool false) (.slice none 0 0) from rfl]
          generalize put2 w2 (w.heap.size) (.bool false) (.slice none 0 0) = ws3 at h1 X2 X1 hbws3 ⊢
          have erX1 := (show Blk2 ws3 _ _ _ _ from X1.to bW).cell
          have erX1' := (show Blk2 ws3 _ _ _ _ from X1.to bW).cell1
          exact bodyPost_ret (v := .tuple #[.agg #[.bool false, .slice none 0 0], .bool false]) (by simp [results, Try.results20, go_sem, erX1, erX1']) rfl ⟨_, _, _, rfl, (show NatAt ws3 _ _ _ _ from (nat_nil ws3)), (show Below w.heap.size w ws3 from bW)⟩
        · have H0 := Lib.hid h0
          rw [HB.out] at H0
          have HK := Lib.hid (show okz s from ⟨ho, fun h => h0 h.2⟩)
          have HV := Lib.hid (show zv s = sg true (rdv (s.extract 1 s.size)) by unfold zv; rw [if_pos HK.out, HN.out, HB.out])
          rw [decide_eq_true HK.out]
          clear ho h0
          go_enter Try.func20, Try.ntmps20
          go_wp2_with fail
          have X1 := Blk2.newAt w (w.heap.size) 29 (.bool false) (.slice none 0 0) (by first | rfl | simp)
          have hbwe1 : Below w.heap.size w (w.alloc (.cells #[.bool false, .slice none 0 0] 29)) := bW
          generalize (w.alloc (.cells #[.bool false, .slice none 0 0] 29)) = we1 at X1 hbwe1  ⊢
          refine (digits_Read (s.extract 1 s.size) _ (by have := body_size s; rw [HB.out] at this; omega)).mono ?_
          rw [decide_eq_true HO.out]
          rintro e w1 ⟨A1, n1, c1, rfl, h1, hb1⟩
          have q1 := h1.le_of _ (rdv_words (s.extract 1 s.size))
          go_wp2_with fail
          have ltX1_w1 : w.heap.size < w1.heap.size := (show Blk2 w1 _ _ _ _ from X1.to bW).lt
          have X2 := Blk1.newAt w1 (w1.heap.size) 27 (.slice A1 n1 c1) (by first | rfl | simp)
          have hbwe2 : Below w1.heap.size w1 (w1.alloc (.cells #[.slice A1 n1 c1] 27)) := bW
          generalize (w1.alloc (.cells #[.slice A1 n1 c1] 27)) = we2 at X2 hbwe2  ⊢
          refine (nat_Zero _ _ _ _ _ (h1.to bW)).mono ?_
          rw [decide_eq_false H0.out]
          rintro e w2 ⟨rfl, hb2⟩
          have d1 := (show Blk1 w2 _ _ _ from X2.to bW).cell
          go_wp2_with fail
          clear d1
          refine (integer_New true _ _ _ (rdv (s.extract 1 s.size)) _ (h1.to bW)).mono ?_
          rw [← HV.out]
          rintro e w3 ⟨A3, n3, c3, rfl, h3, hb3⟩
          have d2 := (show Blk2 w3 _ _ _ _ from X1.to bW).cell
          have d2' := (show Blk2 w3 _ _ _ _ from X1.to bW).cell1
          have f0d2 := (show Blk2 w3 _ _ _ _ from X1.to bW).free 0
          have f1d2 := (show Blk2 w3 _ _ _ _ from X1.to bW).free 1
          go_wp2_with fail
          clear d2 d2' f0d2 f1d2
          replace h1 := (show NatAt w3 _ _ _ _ from h1.to bW)
          replace h3 := (show NatAt w3 _ _ _ _ from h3.to bW)
          replace X1 := (show Blk2 w3 _ _ _ _ from X1.to bW)
          replace X2 := (show Blk1 w3 _ _ _ from X2.to bW)
          have hbws3 := below_put2 (show Below w.heap.size w w3 from bW) (g := w.heap.size) (by show w.heap.size ≤ w.heap.size; omega) (.bool (bz (zv s))) (.slice A3 n3 c3)
          replace h1 := h1.put2 X1 (.bool (bz (zv s))) (.slice A3 n3 c3)
          replace h3 := h3.put2 X1 (.bool (bz (zv s))) (.slice A3 n3 c3)
          replace X2 := X2.off2 (g := w.heap.size) (by show w1.heap.size ≠ w.heap.size; omega) (.bool (bz (zv s))) (.slice A3 n3 c3)
          replace X1 := X1.put2 (.bool (bz (zv s))) (.slice A3 n3 c3)
          rw [show (w3.setCell ⟨w.heap.size, 0, none⟩ (.bool (bz (zv s)))).setCell ⟨w.heap.size, 1, none⟩ (.slice A3 n3 c3) = put2 w3 (w.heap.size) (.bool (bz (zv s))) (.slice A3 n3 c3) from rfl]
          generalize put2 w3 (w.heap.size) (.bool (bz (zv s))) (.slice A3 n3 c3) = ws3 at h1 h3 X2 X1 hbws3 ⊢
          have erX1 := (show Blk2 ws3 _ _ _ _ from X1.to bW).cell
          have erX1' := (show Blk2 ws3 _ _ _ _ from X1.to bW).cell1
          exact bodyPost_ret (v := .tuple #[.agg #[.bool (bz (zv s)), .slice A3 n3 c3], .bool true]) (by simp [results, Try.results20, go_sem, erX1, erX1']) rfl ⟨_, _, _, rfl, (show NatAt ws3 _ _ _ _ from (h3.to bW)), (show Below w.heap.size w ws3 from bW)⟩
end Go.Proofs.Ytihbpkljjmpkjaa
