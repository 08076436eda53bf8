/- The walks of package integer, fourth part: Text, Read, Int. -/
import Derived.Test.YtihbpkljjmpkjaaInt4
import Derived.Test.YtihbpkljjmpkjaaDig5
set_option linter.unusedVariables false
set_option linter.unusedSimpArgs false
namespace Go.Proofs.Ytihbpkljjmpkjaa
open Go.RowKit
set_option maxRecDepth 100000
/-- a whole number's text -/
def ztx (z : Int) : List UInt8 := if bz z then 45 :: tx z.natAbs else tx z.natAbs
theorem ztx_neg {z : Int} (h : bz z = true) : ztx z = 45 :: tx z.natAbs := if_pos h
theorem ztx_pos {z : Int} (h : bz z = false) : ztx z = tx z.natAbs := by unfold ztx; rw [if_neg (by rw [h]; decide)]
set_option maxHeartbeats 4000000 in
theorem integer_Text (A : Option Addr) (n c : Nat) (z : Int) (w : World) (h : NatAt w A n c z.natAbs) (hn : n ≤ 1099511627776) :
    Calls Try.prog 21 #[.agg #[.bool (bz z), .slice A n c]] w (RetStr w (ztx z)) := by
  cases hb : bz z
  case true =>
    rw [ztx_neg hb]
    clear hb
    have hts := tw_fit h.lt
    have htl : 1 + (tx z.natAbs).length ≤ 9223372036854775807 := by rw [str_size] at hts; omega
    have HCC := Lib.hid (show (⟨#[45]⟩ ++ ⟨(tx z.natAbs).toArray⟩ : ByteArray) = ⟨(45 :: tx z.natAbs).toArray⟩ by have := ByteArray.mk_append_mk [45] (tx z.natAbs); exact this)
    clear hts
    go_enter Try.func21, Try.ntmps21
    go_wp2_with fail
    have X1 := Blk2.newAt w (w.heap.size) 29 (.bool true) (.slice A n c) (by first | rfl | simp)
    have hbwe1 : Below w.heap.size w (w.alloc (.cells #[.bool true, .slice A n c] 29)) := bW
    generalize (w.alloc (.cells #[.bool true, .slice A n c] 29)) = we1 at X1 hbwe1  ⊢
    refine (digits_Text_any _ _ _ _ _ (h.to bW) (by omega)).mono ?_
    rintro e w1 ⟨rfl, hb1⟩
    go_wp2_with fail
    go_ret
    exact ⟨by rw [HCC.out]; rfl, bW⟩
  case false =>
    rw [ztx_pos hb]
    clear hb
    go_enter Try.func21, Try.ntmps21
    go_wp2_with fail
    have X1 := Blk2.newAt w (w.heap.size) 29 (.bool false) (.slice A n c) (by first | rfl | simp)
    have hbwe1 : Below w.heap.size w (w.alloc (.cells #[.bool false, .slice A n c] 29)) := bW
    generalize (w.alloc (.cells #[.bool false, .slice A n c] 29)) = we1 at X1 hbwe1  ⊢
    refine (digits_Text_any _ _ _ _ _ (h.to bW) (by omega)).mono ?_
    rintro e w1 ⟨rfl, hb1⟩
    go_wp2_with fail
    go_ret
    exact ⟨rfl, bW⟩
theorem neg_int {x : Nat} (h : x ≤ 9223372036854775808) : IntKind.i64.wrap (IntKind.u64.wrap (-(x : Int))) = -(x : Int) := by
  have w1 : ∀ j, IntKind.u64.wrap j = j % 18446744073709551616 := fun j => by simp [IntKind.wrap, IntKind.signed, IntKind.bits]
  rw [w1]
  simp only [IntKind.wrap, IntKind.signed, IntKind.bits]
  simp
  split <;> omega
/-- is a whole number an int? -/
def isInt (z : Int) : Prop := -9223372036854775808 ≤ z ∧ z ≤ 9223372036854775807
instance (z : Int) : Decidable (isInt z) := by unfold isInt; infer_instance
def RetIntB (w : World) (z : Int) (e : Ending) (w' : World) : Prop := e = .returned (.tuple #[.int .i64 (if isInt z then z else 0), .bool (decide (isInt z))]) ∧ Below w.heap.size w w'
set_option maxHeartbeats 4000000 in
theorem integer_Int (A : Option Addr) (n c : Nat) (z : Int) (w : World) (h : NatAt w A n c z.natAbs) :
    Calls Try.prog 36 #[.agg #[.bool (bz z), .slice A n c]] w (RetIntB w z) := by
  generalize hX : z.natAbs = X at h
  have HX := Lib.hid hX
  clear hX
  rcases Nat.lt_or_ge 1 n with hn1 | hn1
  · have HI := Lib.hid (show ¬ isInt z from fun hi => by have h1 := h.2 (by omega); have h2 := Nat.pow_le_pow_right W_pos (show 1 ≤ n - 1 by omega); rw [Nat.pow_one] at h2; have h3 := HX.out; unfold isInt at hi; unfold W at h1 h2; omega)
    unfold RetIntB
    rw [if_neg HI.out, decide_eq_false HI.out]
    go_enter Try.func36, Try.ntmps36
    go_wp2_with fail
    have X1 := Blk2.newAt w (w.heap.size) 29 (.bool (bz z)) (.slice A n c) (by first | rfl | simp)
    have hbwe1 : Below w.heap.size w (w.alloc (.cells #[.bool (bz z), .slice A n c] 29)) := bW
    generalize (w.alloc (.cells #[.bool (bz z), .slice A n c] 29)) = we1 at X1 hbwe1  ⊢
    refine (nat_Uint_no _ _ _ _ hn1).mono ?_
    rintro e w1 ⟨rfl, hb1⟩
    go_wp2_with fail
    go_ret2
    exact ⟨rfl, bW⟩
  · have hXW : X < W := by have h1 := h.lt; have h2 := Nat.pow_le_pow_right W_pos hn1; rw [Nat.pow_one] at h2; omega
    have HX64 := Lib.hid (show X < 18446744073709551616 by unfold W at hXW; exact hXW)
    clear hXW
    cases hb : bz z
    case false =>
      have hz0 := bz_false.1 hb
      by_cases hx : X < 9223372036854775808
      · have HI := Lib.hid (show isInt z from by have := HX.out; unfold isInt; omega)
        have HZ := Lib.hid (show z = (X : Int) from by have := HX.out; omega)
        have hxI : decide ((9223372036854775808 : Int) ≤ (X : Int)) = false := decide_eq_false (by omega)
        have hxN : decide (9223372036854775808 ≤ X) = false := decide_eq_false (by omega)
        have e1 : IntKind.i64.wrap (X : Int) = (X : Int) := IntWalk.i64_in _ (by omega)
        unfold RetIntB
        rw [if_pos HI.out, decide_eq_true HI.out, HZ.out]
        clear hb hz0 hx
        go_enter Try.func36, Try.ntmps36
        go_wp2_with fail
        have X1 := Blk2.newAt w (w.heap.size) 29 (.bool false) (.slice A n c) (by first | rfl | simp)
        have hbwe1 : Below w.heap.size w (w.alloc (.cells #[.bool false, .slice A n c] 29)) := bW
        generalize (w.alloc (.cells #[.bool false, .slice A n c] 29)) = we1 at X1 hbwe1  ⊢
        refine (nat_Uint_yes _ _ _ _ _ (h.to bW) hn1).mono ?_
        rintro e w1 ⟨rfl, hb1⟩
        have d1 := (show Blk2 w1 _ _ _ _ from X1.to bW).cell
        have d1' := (show Blk2 w1 _ _ _ _ from X1.to bW).cell1
        have d2 := (show Blk2 w1 _ _ _ _ from X1.to bW).cell
        have d2' := (show Blk2 w1 _ _ _ _ from X1.to bW).cell1
        go_wp2_with fail
        clear d1 d1' d2 d2'
        go_ret2
        exact ⟨rfl, bW⟩
      · have HI := Lib.hid (show ¬ isInt z from fun hi => by have := HX.out; unfold isInt at hi; omega)
        have hxI : decide ((9223372036854775808 : Int) ≤ (X : Int)) = true := decide_eq_true (by omega)
        have hxN : decide (9223372036854775808 ≤ X) = true := decide_eq_true (by omega)
        unfold RetIntB
        rw [if_neg HI.out, decide_eq_false HI.out]
        clear hb hz0 hx
        go_enter Try.func36, Try.ntmps36
        go_wp2_with fail
        have X1 := Blk2.newAt w (w.heap.size) 29 (.bool false) (.slice A n c) (by first | rfl | simp)
        have hbwe1 : Below w.heap.size w (w.alloc (.cells #[.bool false, .slice A n c] 29)) := bW
        generalize (w.alloc (.cells #[.bool false, .slice A n c] 29)) = we1 at X1 hbwe1  ⊢
        refine (nat_Uint_yes _ _ _ _ _ (h.to bW) hn1).mono ?_
        rintro e w1 ⟨rfl, hb1⟩
        have d1 := (show Blk2 w1 _ _ _ _ from X1.to bW).cell
        have d1' := (show Blk2 w1 _ _ _ _ from X1.to bW).cell1
        have d2 := (show Blk2 w1 _ _ _ _ from X1.to bW).cell
        have d2' := (show Blk2 w1 _ _ _ _ from X1.to bW).cell1
        go_wp2_with fail
        clear d1 d1' d2 d2'
        go_ret2
        exact ⟨rfl, bW⟩
    case true =>
      have hz0 := bz_true.1 hb
      by_cases hx : X ≤ 9223372036854775808
      · have HI := Lib.hid (show isInt z from by have := HX.out; unfold isInt; omega)
        have HZ := Lib.hid (show z = -(X : Int) from by have := HX.out; omega)
        have hxI : decide ((X : Int) ≤ 9223372036854775808) = true := decide_eq_true (by omega)
        have hxN : decide (X ≤ 9223372036854775808) = true := decide_eq_true (by omega)
        have e1 := neg_int hx
        unfold RetIntB
        rw [if_pos HI.out, decide_eq_true HI.out, HZ.out]
        clear hb hz0 hx
        go_enter Try.func36, Try.ntmps36
        go_wp2_with fail
        have X1 := Blk2.newAt w (w.heap.size) 29 (.bool true) (.slice A n c) (by first | rfl | simp)
        have hbwe1 : Below w.heap.size w (w.alloc (.cells #[.bool true, .slice A n c] 29)) := bW
        generalize (w.alloc (.cells #[.bool true, .slice A n c] 29)) = we1 at X1 hbwe1  ⊢
        refine (nat_Uint_yes _ _ _ _ _ (h.to bW) hn1).mono ?_
        rintro e w1 ⟨rfl, hb1⟩
        have d1 := (show Blk2 w1 _ _ _ _ from X1.to bW).cell
        have d1' := (show Blk2 w1 _ _ _ _ from X1.to bW).cell1
        go_wp2_with fail
        clear d1 d1'
        go_ret2
        exact ⟨rfl, bW⟩
      · have HI := Lib.hid (show ¬ isInt z from fun hi => by have := HX.out; unfold isInt at hi; omega)
        have hxI : decide ((X : Int) ≤ 9223372036854775808) = false := decide_eq_false (by omega)
        have hxN : decide (X ≤ 9223372036854775808) = false := decide_eq_false (by omega)
        unfold RetIntB
        rw [if_neg HI.out, decide_eq_false HI.out]
        clear hb hz0 hx
        go_enter Try.func36, Try.ntmps36
        go_wp2_with fail
        have X1 := Blk2.newAt w (w.heap.size) 29 (.bool true) (.slice A n c) (by first | rfl | simp)
        have hbwe1 : Below w.heap.size w (w.alloc (.cells #[.bool true, .slice A n c] 29)) := bW
        generalize (w.alloc (.cells #[.bool true, .slice A n c] 29)) = we1 at X1 hbwe1  ⊢
        refine (nat_Uint_yes _ _ _ _ _ (h.to bW) hn1).mono ?_
        rintro e w1 ⟨rfl, hb1⟩
        have d1 := (show Blk2 w1 _ _ _ _ from X1.to bW).cell
        have d1' := (show Blk2 w1 _ _ _ _ from X1.to bW).cell1
        have d2 := (show Blk2 w1 _ _ _ _ from X1.to bW).cell
        have d2' := (show Blk2 w1 _ _ _ _ from X1.to bW).cell1
        go_wp2_with fail
        clear d1 d1' d2 d2'
        go_ret2
        exact ⟨rfl, bW⟩
theorem integer_Int_yes (A : Option Addr) (n c : Nat) (z : Int) (w : World) (h : NatAt w A n c z.natAbs) (hi : isInt z) :
    Calls Try.prog 36 #[.agg #[.bool (bz z), .slice A n c]] w (Ret w (.tuple #[.int .i64 z, .bool true])) := by
  have h2 := integer_Int A n c z w h
  unfold RetIntB at h2
  rw [if_pos hi, decide_eq_true hi] at h2
  exact h2
theorem integer_Int_no (A : Option Addr) (n c : Nat) (z : Int) (w : World) (h : NatAt w A n c z.natAbs) (hi : ¬ isInt z) :
    Calls Try.prog 36 #[.agg #[.bool (bz z), .slice A n c]] w (Ret w (.tuple #[.int .i64 0, .bool false])) := by
  have h2 := integer_Int A n c z w h
  unfold RetIntB at h2
  rw [if_neg hi, decide_eq_false hi] at h2
  exact h2
end Go.Proofs.Ytihbpkljjmpkjaa
