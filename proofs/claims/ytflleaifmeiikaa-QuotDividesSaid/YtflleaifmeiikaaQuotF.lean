/- DivMod of every divisor; Div, Mod, Divides. -/
import Derived.Test.YtflleaifmeiikaaQuotE
set_option linter.unusedVariables false
set_option linter.unusedSimpArgs false
namespace Go.Proofs.Ytflleaifmeiikaa
open Go.RowKit
set_option maxRecDepth 100000
theorem quot_DivMod (A : Option Addr) (n c x : Nat) (A' : Option Addr) (n' c' y : Nat) (w : World) (h : NatAt w A n c x) (h' : NatAt w A' n' c' y) (hn : n ≤ 17592186044000) (hy0 : 0 < y) :
    Calls Try.prog 33 #[.agg #[.slice A n c], .agg #[.slice A' n' c']] w (RetDiv w (x / y) (x % y) true) := by
  rcases Nat.lt_or_ge 1 n' with h1 | h1
  · rcases Nat.lt_or_ge x y with h2 | h2
    · have := quot_DivMod_below A n c x A' n' c' y w h h' h1 h2
      rwa [Nat.div_eq_of_lt h2, Nat.mod_eq_of_lt h2]
    · exact quot_DivMod_main A n c x A' n' c' y w h h' hn h1 h2
  · exact quot_DivMod_word A n c x A' n' c' y w h h' (by omega) h1 hy0
theorem nat_nil (w : World) : NatAt w none 0 0 0 := ⟨Dig.nil _ _ _ _ (by omega), fun h => absurd h (by omega)⟩
set_option maxHeartbeats 4000000 in
theorem quot_Div_zero (A : Option Addr) (n c x : Nat) (A' : Option Addr) (n' c' y : Nat) (w : World) (h : NatAt w A n c x) (h' : NatAt w A' n' c' y) (hn : n ≤ 17592186044000) (hy0 : y = 0) :
    Calls Try.prog 41 #[.agg #[.slice A n c], .agg #[.slice A' n' c']] w (RetNatB w 0 false) := by
  go_enter Try.func41, Try.ntmps41
  go_wp2_with fail
  have X1 := Blk1.newAt w (w.heap.size) 25 (.slice A n c) (by first | rfl | simp)
  have X2 := Blk1.newAt (w.alloc (.cells #[.slice A n c] 25)) (w.heap.size + 1) 25 (.slice A' n' c') (by first | rfl | simp)
  have X3 := Blk1.newAt ((w.alloc (.cells #[.slice A n c] 25)).alloc (.cells #[.slice A' n' c'] 25)) (w.heap.size + 1 + 1) 25 (.slice none 0 0) (by first | rfl | simp)
  replace X1 := (show Blk1 (((w.alloc (.cells #[.slice A n c] 25)).alloc (.cells #[.slice A' n' c'] 25)).alloc (.cells #[.slice none 0 0] 25)) _ _ _ from X1.to (by with_reducible repeat (first | exact Below.refl _ _ | refine nxa ?_ _ | refine nxd ?_ _ | refine nxw ?_ | refine nx ?_ (by assumption))))
  replace X2 := (show Blk1 (((w.alloc (.cells #[.slice A n c] 25)).alloc (.cells #[.slice A' n' c'] 25)).alloc (.cells #[.slice none 0 0] 25)) _ _ _ from X2.to (by with_reducible repeat (first | exact Below.refl _ _ | refine nxa ?_ _ | refine nxd ?_ _ | refine nxw ?_ | refine nx ?_ (by assumption))))
  have hbwe1 : Below w.heap.size w (((w.alloc (.cells #[.slice A n c] 25)).alloc (.cells #[.slice A' n' c'] 25)).alloc (.cells #[.slice none 0 0] 25)) := (by with_reducible repeat (first | exact Below.refl _ _ | refine nxa ?_ _ | refine nxd ?_ _ | refine nxw ?_ | refine nx ?_ (by assumption)))
  generalize (((w.alloc (.cells #[.slice A n c] 25)).alloc (.cells #[.slice A' n' c'] 25)).alloc (.cells #[.slice none 0 0] 25)) = we1 at X1 X2 X3 hbwe1  ⊢
  refine (quot_DivMod_zero _ _ _ _ _ _ _ _ _ (h.to (by with_reducible repeat (first | exact Below.refl _ _ | refine nxa ?_ _ | refine nxd ?_ _ | refine nxw ?_ | refine nx ?_ (by assumption)))) (h'.to (by with_reducible repeat (first | exact Below.refl _ _ | refine nxa ?_ _ | refine nxd ?_ _ | refine nxw ?_ | refine nx ?_ (by assumption)))) (by omega) hy0).mono ?_
  rintro e w1 ⟨A1, n1, c1, A1', n1', c1', rfl, h1, h1', hb1⟩
  have q1 := h1.le_of 0 (by decide)
  have q1' := h1'.le_of 0 (by decide)
  have YX3 := (show Blk1 ((w1.alloc (.cells #[.slice A1 n1 c1] 25)).alloc (.cells #[.slice A1' n1' c1'] 25)) _ _ _ from X3.to (by with_reducible repeat (first | exact Below.refl _ _ | refine nxa ?_ _ | refine nxd ?_ _ | refine nxw ?_ | refine nx ?_ (by assumption))))
  obtain ⟨lr1, hbr⟩ := store1 (w0 := w) (show Below w.heap.size w ((w1.alloc (.cells #[.slice A1 n1 c1] 25)).alloc (.cells #[.slice A1' n1' c1'] 25)) from (by with_reducible repeat (first | exact Below.refl _ _ | refine nxa ?_ _ | refine nxd ?_ _ | refine nxw ?_ | refine nx ?_ (by assumption)))) (by show w.heap.size ≤ w.heap.size + 1 + 1; omega) YX3 (show NatAt ((w1.alloc (.cells #[.slice A1 n1 c1] 25)).alloc (.cells #[.slice A1' n1' c1'] 25)) _ _ _ _ from (h1.to (by with_reducible repeat (first | exact Below.refl _ _ | refine nxa ?_ _ | refine nxd ?_ _ | refine nxw ?_ | refine nx ?_ (by assumption)))))
  have cr1 := YX3.cell
  have fr1 := YX3.free
  have er1 := lr1.1.cell
  clear YX3
  go_wp2_with fail
  exact bodyPost_ret (v := .tuple #[.agg #[.slice A1 n1 c1], .bool false]) (by simp [results, Try.results41, go_sem, er1]) rfl ⟨_, _, _, rfl, lr1.2, hbr⟩
set_option maxHeartbeats 4000000 in
theorem quot_Div (A : Option Addr) (n c x : Nat) (A' : Option Addr) (n' c' y : Nat) (w : World) (h : NatAt w A n c x) (h' : NatAt w A' n' c' y) (hn : n ≤ 17592186044000) (hy0 : 0 < y) :
    Calls Try.prog 41 #[.agg #[.slice A n c], .agg #[.slice A' n' c']] w (RetNatB w (x / y) true) := by
  go_enter Try.func41, Try.ntmps41
  go_wp2_with fail
  have X1 := Blk1.newAt w (w.heap.size) 25 (.slice A n c) (by first | rfl | simp)
  have X2 := Blk1.newAt (w.alloc (.cells #[.slice A n c] 25)) (w.heap.size + 1) 25 (.slice A' n' c') (by first | rfl | simp)
  have X3 := Blk1.newAt ((w.alloc (.cells #[.slice A n c] 25)).alloc (.cells #[.slice A' n' c'] 25)) (w.heap.size + 1 + 1) 25 (.slice none 0 0) (by first | rfl | simp)
  replace X1 := (show Blk1 (((w.alloc (.cells #[.slice A n c] 25)).alloc (.cells #[.slice A' n' c'] 25)).alloc (.cells #[.slice none 0 0] 25)) _ _ _ from X1.to (by with_reducible repeat (first | exact Below.refl _ _ | refine nxa ?_ _ | refine nxd ?_ _ | refine nxw ?_ | refine nx ?_ (by assumption))))
  replace X2 := (show Blk1 (((w.alloc (.cells #[.slice A n c] 25)).alloc (.cells #[.slice A' n' c'] 25)).alloc (.cells #[.slice none 0 0] 25)) _ _ _ from X2.to (by with_reducible repeat (first | exact Below.refl _ _ | refine nxa ?_ _ | refine nxd ?_ _ | refine nxw ?_ | refine nx ?_ (by assumption))))
  have hbwe1 : Below w.heap.size w (((w.alloc (.cells #[.slice A n c] 25)).alloc (.cells #[.slice A' n' c'] 25)).alloc (.cells #[.slice none 0 0] 25)) := (by with_reducible repeat (first | exact Below.refl _ _ | refine nxa ?_ _ | refine nxd ?_ _ | refine nxw ?_ | refine nx ?_ (by assumption)))
  generalize (((w.alloc (.cells #[.slice A n c] 25)).alloc (.cells #[.slice A' n' c'] 25)).alloc (.cells #[.slice none 0 0] 25)) = we1 at X1 X2 X3 hbwe1  ⊢
  refine (quot_DivMod _ _ _ _ _ _ _ _ _ (h.to (by with_reducible repeat (first | exact Below.refl _ _ | refine nxa ?_ _ | refine nxd ?_ _ | refine nxw ?_ | refine nx ?_ (by assumption)))) (h'.to (by with_reducible repeat (first | exact Below.refl _ _ | refine nxa ?_ _ | refine nxd ?_ _ | refine nxw ?_ | refine nx ?_ (by assumption)))) (by omega) hy0).mono ?_
  rintro e w1 ⟨A1, n1, c1, A1', n1', c1', rfl, h1, h1', hb1⟩
  have q1 := h1.le_of _ (Nat.lt_of_le_of_lt (Nat.div_le_self _ _) h.lt)
  have q1' := h1'.le_of _ (Nat.lt_of_le_of_lt (Nat.mod_le _ _) h.lt)
  have YX3 := (show Blk1 ((w1.alloc (.cells #[.slice A1 n1 c1] 25)).alloc (.cells #[.slice A1' n1' c1'] 25)) _ _ _ from X3.to (by with_reducible repeat (first | exact Below.refl _ _ | refine nxa ?_ _ | refine nxd ?_ _ | refine nxw ?_ | refine nx ?_ (by assumption))))
  obtain ⟨lr1, hbr⟩ := store1 (w0 := w) (show Below w.heap.size w ((w1.alloc (.cells #[.slice A1 n1 c1] 25)).alloc (.cells #[.slice A1' n1' c1'] 25)) from (by with_reducible repeat (first | exact Below.refl _ _ | refine nxa ?_ _ | refine nxd ?_ _ | refine nxw ?_ | refine nx ?_ (by assumption)))) (by show w.heap.size ≤ w.heap.size + 1 + 1; omega) YX3 (show NatAt ((w1.alloc (.cells #[.slice A1 n1 c1] 25)).alloc (.cells #[.slice A1' n1' c1'] 25)) _ _ _ _ from (h1.to (by with_reducible repeat (first | exact Below.refl _ _ | refine nxa ?_ _ | refine nxd ?_ _ | refine nxw ?_ | refine nx ?_ (by assumption)))))
  have cr1 := YX3.cell
  have fr1 := YX3.free
  have er1 := lr1.1.cell
  clear YX3
  go_wp2_with fail
  exact bodyPost_ret (v := .tuple #[.agg #[.slice A1 n1 c1], .bool true]) (by simp [results, Try.results41, go_sem, er1]) rfl ⟨_, _, _, rfl, lr1.2, hbr⟩
set_option maxHeartbeats 4000000 in
theorem quot_Mod_zero (A : Option Addr) (n c x : Nat) (A' : Option Addr) (n' c' y : Nat) (w : World) (h : NatAt w A n c x) (h' : NatAt w A' n' c' y) (hn : n ≤ 17592186044000) (hy0 : y = 0) :
    Calls Try.prog 42 #[.agg #[.slice A n c], .agg #[.slice A' n' c']] w (RetNatB w 0 false) := by
  go_enter Try.func42, Try.ntmps42
  go_wp2_with fail
  have X1 := Blk1.newAt w (w.heap.size) 25 (.slice A n c) (by first | rfl | simp)
  have X2 := Blk1.newAt (w.alloc (.cells #[.slice A n c] 25)) (w.heap.size + 1) 25 (.slice A' n' c') (by first | rfl | simp)
  have X3 := Blk1.newAt ((w.alloc (.cells #[.slice A n c] 25)).alloc (.cells #[.slice A' n' c'] 25)) (w.heap.size + 1 + 1) 25 (.slice none 0 0) (by first | rfl | simp)
  replace X1 := (show Blk1 (((w.alloc (.cells #[.slice A n c] 25)).alloc (.cells #[.slice A' n' c'] 25)).alloc (.cells #[.slice none 0 0] 25)) _ _ _ from X1.to (by with_reducible repeat (first | exact Below.refl _ _ | refine nxa ?_ _ | refine nxd ?_ _ | refine nxw ?_ | refine nx ?_ (by assumption))))
  replace X2 := (show Blk1 (((w.alloc (.cells #[.slice A n c] 25)).alloc (.cells #[.slice A' n' c'] 25)).alloc (.cells #[.slice none 0 0] 25)) _ _ _ from X2.to (by with_reducible repeat (first | exact Below.refl _ _ | refine nxa ?_ _ | refine nxd ?_ _ | refine nxw ?_ | refine nx ?_ (by assumption))))
  have hbwe1 : Below w.heap.size w (((w.alloc (.cells #[.slice A n c] 25)).alloc (.cells #[.slice A' n' c'] 25)).alloc (.cells #[.slice none 0 0] 25)) := (by with_reducible repeat (first | exact Below.refl _ _ | refine nxa ?_ _ | refine nxd ?_ _ | refine nxw ?_ | refine nx ?_ (by assumption)))
  generalize (((w.alloc (.cells #[.slice A n c] 25)).alloc (.cells #[.slice A' n' c'] 25)).alloc (.cells #[.slice none 0 0] 25)) = we1 at X1 X2 X3 hbwe1  ⊢
  refine (quot_DivMod_zero _ _ _ _ _ _ _ _ _ (h.to (by with_reducible repeat (first | exact Below.refl _ _ | refine nxa ?_ _ | refine nxd ?_ _ | refine nxw ?_ | refine nx ?_ (by assumption)))) (h'.to (by with_reducible repeat (first | exact Below.refl _ _ | refine nxa ?_ _ | refine nxd ?_ _ | refine nxw ?_ | refine nx ?_ (by assumption)))) (by omega) hy0).mono ?_
  rintro e w1 ⟨A1, n1, c1, A1', n1', c1', rfl, h1, h1', hb1⟩
  have q1 := h1.le_of 0 (by decide)
  have q1' := h1'.le_of 0 (by decide)
  have YX3 := (show Blk1 ((w1.alloc (.cells #[.slice A1 n1 c1] 25)).alloc (.cells #[.slice A1' n1' c1'] 25)) _ _ _ from X3.to (by with_reducible repeat (first | exact Below.refl _ _ | refine nxa ?_ _ | refine nxd ?_ _ | refine nxw ?_ | refine nx ?_ (by assumption))))
  obtain ⟨lr1, hbr⟩ := store1 (w0 := w) (show Below w.heap.size w ((w1.alloc (.cells #[.slice A1 n1 c1] 25)).alloc (.cells #[.slice A1' n1' c1'] 25)) from (by with_reducible repeat (first | exact Below.refl _ _ | refine nxa ?_ _ | refine nxd ?_ _ | refine nxw ?_ | refine nx ?_ (by assumption)))) (by show w.heap.size ≤ w.heap.size + 1 + 1; omega) YX3 (show NatAt ((w1.alloc (.cells #[.slice A1 n1 c1] 25)).alloc (.cells #[.slice A1' n1' c1'] 25)) _ _ _ _ from (h1'.to (by with_reducible repeat (first | exact Below.refl _ _ | refine nxa ?_ _ | refine nxd ?_ _ | refine nxw ?_ | refine nx ?_ (by assumption)))))
  have cr1 := YX3.cell
  have fr1 := YX3.free
  have er1 := lr1.1.cell
  clear YX3
  go_wp2_with fail
  exact bodyPost_ret (v := .tuple #[.agg #[.slice A1' n1' c1'], .bool false]) (by simp [results, Try.results42, go_sem, er1]) rfl ⟨_, _, _, rfl, lr1.2, hbr⟩
set_option maxHeartbeats 4000000 in
theorem quot_Mod (A : Option Addr) (n c x : Nat) (A' : Option Addr) (n' c' y : Nat) (w : World) (h : NatAt w A n c x) (h' : NatAt w A' n' c' y) (hn : n ≤ 17592186044000) (hy0 : 0 < y) :
    Calls Try.prog 42 #[.agg #[.slice A n c], .agg #[.slice A' n' c']] w (RetNatB w (x % y) true) := by
  go_enter Try.func42, Try.ntmps42
  go_wp2_with fail
  have X1 := Blk1.newAt w (w.heap.size) 25 (.slice A n c) (by first | rfl | simp)
  have X2 := Blk1.newAt (w.alloc (.cells #[.slice A n c] 25)) (w.heap.size + 1) 25 (.slice A' n' c') (by first | rfl | simp)
  have X3 := Blk1.newAt ((w.alloc (.cells #[.slice A n c] 25)).alloc (.cells #[.slice A' n' c'] 25)) (w.heap.size + 1 + 1) 25 (.slice none 0 0) (by first | rfl | simp)
  replace X1 := (show Blk1 (((w.alloc (.cells #[.slice A n c] 25)).alloc (.cells #[.slice A' n' c'] 25)).alloc (.cells #[.slice none 0 0] 25)) _ _ _ from X1.to (by with_reducible repeat (first | exact Below.refl _ _ | refine nxa ?_ _ | refine nxd ?_ _ | refine nxw ?_ | refine nx ?_ (by assumption))))
  replace X2 := (show Blk1 (((w.alloc (.cells #[.slice A n c] 25)).alloc (.cells #[.slice A' n' c'] 25)).alloc (.cells #[.slice none 0 0] 25)) _ _ _ from X2.to (by with_reducible repeat (first | exact Below.refl _ _ | refine nxa ?_ _ | refine nxd ?_ _ | refine nxw ?_ | refine nx ?_ (by assumption))))
  have hbwe1 : Below w.heap.size w (((w.alloc (.cells #[.slice A n c] 25)).alloc (.cells #[.slice A' n' c'] 25)).alloc (.cells #[.slice none 0 0] 25)) := (by with_reducible repeat (first | exact Below.refl _ _ | refine nxa ?_ _ | refine nxd ?_ _ | refine nxw ?_ | refine nx ?_ (by assumption)))
  generalize (((w.alloc (.cells #[.slice A n c] 25)).alloc (.cells #[.slice A' n' c'] 25)).alloc (.cells #[.slice none 0 0] 25)) = we1 at X1 X2 X3 hbwe1  ⊢
  refine (quot_DivMod _ _ _ _ _ _ _ _ _ (h.to (by with_reducible repeat (first | exact Below.refl _ _ | refine nxa ?_ _ | refine nxd ?_ _ | refine nxw ?_ | refine nx ?_ (by assumption)))) (h'.to (by with_reducible repeat (first | exact Below.refl _ _ | refine nxa ?_ _ | refine nxd ?_ _ | refine nxw ?_ | refine nx ?_ (by assumption)))) (by omega) hy0).mono ?_
  rintro e w1 ⟨A1, n1, c1, A1', n1', c1', rfl, h1, h1', hb1⟩
  have q1 := h1.le_of _ (Nat.lt_of_le_of_lt (Nat.div_le_self _ _) h.lt)
  have q1' := h1'.le_of _ (Nat.lt_of_le_of_lt (Nat.mod_le _ _) h.lt)
  have YX3 := (show Blk1 ((w1.alloc (.cells #[.slice A1 n1 c1] 25)).alloc (.cells #[.slice A1' n1' c1'] 25)) _ _ _ from X3.to (by with_reducible repeat (first | exact Below.refl _ _ | refine nxa ?_ _ | refine nxd ?_ _ | refine nxw ?_ | refine nx ?_ (by assumption))))
  obtain ⟨lr1, hbr⟩ := store1 (w0 := w) (show Below w.heap.size w ((w1.alloc (.cells #[.slice A1 n1 c1] 25)).alloc (.cells #[.slice A1' n1' c1'] 25)) from (by with_reducible repeat (first | exact Below.refl _ _ | refine nxa ?_ _ | refine nxd ?_ _ | refine nxw ?_ | refine nx ?_ (by assumption)))) (by show w.heap.size ≤ w.heap.size + 1 + 1; omega) YX3 (show NatAt ((w1.alloc (.cells #[.slice A1 n1 c1] 25)).alloc (.cells #[.slice A1' n1' c1'] 25)) _ _ _ _ from (h1'.to (by with_reducible repeat (first | exact Below.refl _ _ | refine nxa ?_ _ | refine nxd ?_ _ | refine nxw ?_ | refine nx ?_ (by assumption)))))
  have cr1 := YX3.cell
  have fr1 := YX3.free
  have er1 := lr1.1.cell
  clear YX3
  go_wp2_with fail
  exact bodyPost_ret (v := .tuple #[.agg #[.slice A1' n1' c1'], .bool true]) (by simp [results, Try.results42, go_sem, er1]) rfl ⟨_, _, _, rfl, lr1.2, hbr⟩
set_option maxHeartbeats 4000000 in
theorem quot_Divides_zz (A' : Option Addr) (n' c' y : Nat) (A : Option Addr) (n c x : Nat) (w : World) (h' : NatAt w A' n' c' y) (h : NatAt w A n c x) (hn : n ≤ 17592186044000) (hy : y = 0) (hx : x = 0) :
    Calls Try.prog 34 #[.agg #[.slice A' n' c'], .agg #[.slice A n c]] w (Ret w (.bool true)) := by
  go_enter Try.func34, Try.ntmps34
  go_wp2_with fail
  have X1 := Blk1.newAt w (w.heap.size) 25 (.slice A' n' c') (by first | rfl | simp)
  have X2 := Blk1.newAt (w.alloc (.cells #[.slice A' n' c'] 25)) (w.heap.size + 1) 25 (.slice A n c) (by first | rfl | simp)
  replace X1 := (show Blk1 ((w.alloc (.cells #[.slice A' n' c'] 25)).alloc (.cells #[.slice A n c] 25)) _ _ _ from X1.to (by with_reducible repeat (first | exact Below.refl _ _ | refine nxa ?_ _ | refine nxd ?_ _ | refine nxw ?_ | refine nx ?_ (by assumption))))
  have hbwe1 : Below w.heap.size w ((w.alloc (.cells #[.slice A' n' c'] 25)).alloc (.cells #[.slice A n c] 25)) := (by with_reducible repeat (first | exact Below.refl _ _ | refine nxa ?_ _ | refine nxd ?_ _ | refine nxw ?_ | refine nx ?_ (by assumption)))
  generalize ((w.alloc (.cells #[.slice A' n' c'] 25)).alloc (.cells #[.slice A n c] 25)) = we1 at X1 X2 hbwe1  ⊢
  refine (quot_Mod_zero _ _ _ _ _ _ _ _ _ (h.to (by with_reducible repeat (first | exact Below.refl _ _ | refine nxa ?_ _ | refine nxd ?_ _ | refine nxw ?_ | refine nx ?_ (by assumption)))) (h'.to (by with_reducible repeat (first | exact Below.refl _ _ | refine nxa ?_ _ | refine nxd ?_ _ | refine nxw ?_ | refine nx ?_ (by assumption)))) (by omega) hy).mono ?_
  rintro e w1 ⟨A1, n1, c1, rfl, h1, hb1⟩
  have q1 := h1.le_of 0 (by decide)
  have d1 := (show Blk1 (w1.alloc (.cells #[.slice A1 n1 c1] 25)) _ _ _ from X1.to (by with_reducible repeat (first | exact Below.refl _ _ | refine nxa ?_ _ | refine nxd ?_ _ | refine nxw ?_ | refine nx ?_ (by assumption)))).cell
  go_wp2_with fail
  clear d1
  have X3 := Blk1.newAt w1 (w1.heap.size) 25 (.slice A1 n1 c1) (by first | rfl | simp)
  have hbwe2 : Below w1.heap.size w1 (w1.alloc (.cells #[.slice A1 n1 c1] 25)) := (by with_reducible repeat (first | exact Below.refl _ _ | refine nxa ?_ _ | refine nxd ?_ _ | refine nxw ?_ | refine nx ?_ (by assumption)))
  generalize (w1.alloc (.cells #[.slice A1 n1 c1] 25)) = we2 at X3 hbwe2  ⊢
  refine (nat_Zero _ _ _ _ _ (h'.to (by with_reducible repeat (first | exact Below.refl _ _ | refine nxa ?_ _ | refine nxd ?_ _ | refine nxw ?_ | refine nx ?_ (by assumption))))).mono ?_
  rw [decide_eq_true hy]
  rintro e w2 ⟨rfl, hb2⟩
  have d2 := (show Blk1 w2 _ _ _ from X2.to (by with_reducible repeat (first | exact Below.refl _ _ | refine nxa ?_ _ | refine nxd ?_ _ | refine nxw ?_ | refine nx ?_ (by assumption)))).cell
  go_wp2_with fail
  clear d2
  refine (nat_Zero _ _ _ _ _ (h.to (by with_reducible repeat (first | exact Below.refl _ _ | refine nxa ?_ _ | refine nxd ?_ _ | refine nxw ?_ | refine nx ?_ (by assumption))))).mono ?_
  rw [decide_eq_true hx]
  rintro e w3 ⟨rfl, hb3⟩
  go_wp2_with fail
  go_ret
  exact ⟨rfl, (by with_reducible repeat (first | exact Below.refl _ _ | refine nxa ?_ _ | refine nxd ?_ _ | refine nxw ?_ | refine nx ?_ (by assumption)))⟩
set_option maxHeartbeats 4000000 in
theorem quot_Divides_zp (A' : Option Addr) (n' c' y : Nat) (A : Option Addr) (n c x : Nat) (w : World) (h' : NatAt w A' n' c' y) (h : NatAt w A n c x) (hn : n ≤ 17592186044000) (hy : y = 0) (hx : ¬ x = 0) :
    Calls Try.prog 34 #[.agg #[.slice A' n' c'], .agg #[.slice A n c]] w (Ret w (.bool false)) := by
  go_enter Try.func34, Try.ntmps34
  go_wp2_with fail
  have X1 := Blk1.newAt w (w.heap.size) 25 (.slice A' n' c') (by first | rfl | simp)
  have X2 := Blk1.newAt (w.alloc (.cells #[.slice A' n' c'] 25)) (w.heap.size + 1) 25 (.slice A n c) (by first | rfl | simp)
  replace X1 := (show Blk1 ((w.alloc (.cells #[.slice A' n' c'] 25)).alloc (.cells #[.slice A n c] 25)) _ _ _ from X1.to (by with_reducible repeat (first | exact Below.refl _ _ | refine nxa ?_ _ | refine nxd ?_ _ | refine nxw ?_ | refine nx ?_ (by assumption))))
  have hbwe1 : Below w.heap.size w ((w.alloc (.cells #[.slice A' n' c'] 25)).alloc (.cells #[.slice A n c] 25)) := (by with_reducible repeat (first | exact Below.refl _ _ | refine nxa ?_ _ | refine nxd ?_ _ | refine nxw ?_ | refine nx ?_ (by assumption)))
  generalize ((w.alloc (.cells #[.slice A' n' c'] 25)).alloc (.cells #[.slice A n c] 25)) = we1 at X1 X2 hbwe1  ⊢
  refine (quot_Mod_zero _ _ _ _ _ _ _ _ _ (h.to (by with_reducible repeat (first | exact Below.refl _ _ | refine nxa ?_ _ | refine nxd ?_ _ | refine nxw ?_ | refine nx ?_ (by assumption)))) (h'.to (by with_reducible repeat (first | exact Below.refl _ _ | refine nxa ?_ _ | refine nxd ?_ _ | refine nxw ?_ | refine nx ?_ (by assumption)))) (by omega) hy).mono ?_
  rintro e w1 ⟨A1, n1, c1, rfl, h1, hb1⟩
  have q1 := h1.le_of 0 (by decide)
  have d1 := (show Blk1 (w1.alloc (.cells #[.slice A1 n1 c1] 25)) _ _ _ from X1.to (by with_reducible repeat (first | exact Below.refl _ _ | refine nxa ?_ _ | refine nxd ?_ _ | refine nxw ?_ | refine nx ?_ (by assumption)))).cell
  go_wp2_with fail
  clear d1
  have X3 := Blk1.newAt w1 (w1.heap.size) 25 (.slice A1 n1 c1) (by first | rfl | simp)
  have hbwe2 : Below w1.heap.size w1 (w1.alloc (.cells #[.slice A1 n1 c1] 25)) := (by with_reducible repeat (first | exact Below.refl _ _ | refine nxa ?_ _ | refine nxd ?_ _ | refine nxw ?_ | refine nx ?_ (by assumption)))
  generalize (w1.alloc (.cells #[.slice A1 n1 c1] 25)) = we2 at X3 hbwe2  ⊢
  refine (nat_Zero _ _ _ _ _ (h'.to (by with_reducible repeat (first | exact Below.refl _ _ | refine nxa ?_ _ | refine nxd ?_ _ | refine nxw ?_ | refine nx ?_ (by assumption))))).mono ?_
  rw [decide_eq_true hy]
  rintro e w2 ⟨rfl, hb2⟩
  have d2 := (show Blk1 w2 _ _ _ from X2.to (by with_reducible repeat (first | exact Below.refl _ _ | refine nxa ?_ _ | refine nxd ?_ _ | refine nxw ?_ | refine nx ?_ (by assumption)))).cell
  go_wp2_with fail
  clear d2
  refine (nat_Zero _ _ _ _ _ (h.to (by with_reducible repeat (first | exact Below.refl _ _ | refine nxa ?_ _ | refine nxd ?_ _ | refine nxw ?_ | refine nx ?_ (by assumption))))).mono ?_
  rw [decide_eq_false hx]
  rintro e w3 ⟨rfl, hb3⟩
  go_wp2_with fail
  go_ret
  exact ⟨rfl, (by with_reducible repeat (first | exact Below.refl _ _ | refine nxa ?_ _ | refine nxd ?_ _ | refine nxw ?_ | refine nx ?_ (by assumption)))⟩
set_option maxHeartbeats 4000000 in
theorem quot_Divides_pz (A' : Option Addr) (n' c' y : Nat) (A : Option Addr) (n c x : Nat) (w : World) (h' : NatAt w A' n' c' y) (h : NatAt w A n c x) (hn : n ≤ 17592186044000) (hy : 0 < y) (hx : x % y = 0) :
    Calls Try.prog 34 #[.agg #[.slice A' n' c'], .agg #[.slice A n c]] w (Ret w (.bool true)) := by
  go_enter Try.func34, Try.ntmps34
  go_wp2_with fail
  have X1 := Blk1.newAt w (w.heap.size) 25 (.slice A' n' c') (by first | rfl | simp)
  have X2 := Blk1.newAt (w.alloc (.cells #[.slice A' n' c'] 25)) (w.heap.size + 1) 25 (.slice A n c) (by first | rfl | simp)
  replace X1 := (show Blk1 ((w.alloc (.cells #[.slice A' n' c'] 25)).alloc (.cells #[.slice A n c] 25)) _ _ _ from X1.to (by with_reducible repeat (first | exact Below.refl _ _ | refine nxa ?_ _ | refine nxd ?_ _ | refine nxw ?_ | refine nx ?_ (by assumption))))
  have hbwe1 : Below w.heap.size w ((w.alloc (.cells #[.slice A' n' c'] 25)).alloc (.cells #[.slice A n c] 25)) := (by with_reducible repeat (first | exact Below.refl _ _ | refine nxa ?_ _ | refine nxd ?_ _ | refine nxw ?_ | refine nx ?_ (by assumption)))
  generalize ((w.alloc (.cells #[.slice A' n' c'] 25)).alloc (.cells #[.slice A n c] 25)) = we1 at X1 X2 hbwe1  ⊢
  refine (quot_Mod _ _ _ _ _ _ _ _ _ (h.to (by with_reducible repeat (first | exact Below.refl _ _ | refine nxa ?_ _ | refine nxd ?_ _ | refine nxw ?_ | refine nx ?_ (by assumption)))) (h'.to (by with_reducible repeat (first | exact Below.refl _ _ | refine nxa ?_ _ | refine nxd ?_ _ | refine nxw ?_ | refine nx ?_ (by assumption)))) (by omega) hy).mono ?_
  rintro e w1 ⟨A1, n1, c1, rfl, h1, hb1⟩
  have q1 := h1.le_of _ (Nat.lt_of_le_of_lt (Nat.mod_le _ _) h.lt)
  go_wp2_with fail
  have X3 := Blk1.newAt w1 (w1.heap.size) 25 (.slice A1 n1 c1) (by first | rfl | simp)
  have hbwe2 : Below w1.heap.size w1 (w1.alloc (.cells #[.slice A1 n1 c1] 25)) := (by with_reducible repeat (first | exact Below.refl _ _ | refine nxa ?_ _ | refine nxd ?_ _ | refine nxw ?_ | refine nx ?_ (by assumption)))
  generalize (w1.alloc (.cells #[.slice A1 n1 c1] 25)) = we2 at X3 hbwe2  ⊢
  refine (nat_Zero _ _ _ _ _ (h1.to (by with_reducible repeat (first | exact Below.refl _ _ | refine nxa ?_ _ | refine nxd ?_ _ | refine nxw ?_ | refine nx ?_ (by assumption))))).mono ?_
  rw [decide_eq_true hx]
  rintro e w2 ⟨rfl, hb2⟩
  go_wp2_with fail
  go_ret
  exact ⟨rfl, (by with_reducible repeat (first | exact Below.refl _ _ | refine nxa ?_ _ | refine nxd ?_ _ | refine nxw ?_ | refine nx ?_ (by assumption)))⟩
set_option maxHeartbeats 4000000 in
theorem quot_Divides_pp (A' : Option Addr) (n' c' y : Nat) (A : Option Addr) (n c x : Nat) (w : World) (h' : NatAt w A' n' c' y) (h : NatAt w A n c x) (hn : n ≤ 17592186044000) (hy : 0 < y) (hx : ¬ x % y = 0) :
    Calls Try.prog 34 #[.agg #[.slice A' n' c'], .agg #[.slice A n c]] w (Ret w (.bool false)) := by
  have HY := Lib.hid (show ¬ y = 0 by omega)
  go_enter Try.func34, Try.ntmps34
  go_wp2_with fail
  have X1 := Blk1.newAt w (w.heap.size) 25 (.slice A' n' c') (by first | rfl | simp)
  have X2 := Blk1.newAt (w.alloc (.cells #[.slice A' n' c'] 25)) (w.heap.size + 1) 25 (.slice A n c) (by first | rfl | simp)
  replace X1 := (show Blk1 ((w.alloc (.cells #[.slice A' n' c'] 25)).alloc (.cells #[.slice A n c] 25)) _ _ _ from X1.to (by with_reducible repeat (first | exact Below.refl _ _ | refine nxa ?_ _ | refine nxd ?_ _ | refine nxw ?_ | refine nx ?_ (by assumption))))
  have hbwe1 : Below w.heap.size w ((w.alloc (.cells #[.slice A' n' c'] 25)).alloc (.cells #[.slice A n c] 25)) := (by with_reducible repeat (first | exact Below.refl _ _ | refine nxa ?_ _ | refine nxd ?_ _ | refine nxw ?_ | refine nx ?_ (by assumption)))
  generalize ((w.alloc (.cells #[.slice A' n' c'] 25)).alloc (.cells #[.slice A n c] 25)) = we1 at X1 X2 hbwe1  ⊢
  refine (quot_Mod _ _ _ _ _ _ _ _ _ (h.to (by with_reducible repeat (first | exact Below.refl _ _ | refine nxa ?_ _ | refine nxd ?_ _ | refine nxw ?_ | refine nx ?_ (by assumption)))) (h'.to (by with_reducible repeat (first | exact Below.refl _ _ | refine nxa ?_ _ | refine nxd ?_ _ | refine nxw ?_ | refine nx ?_ (by assumption)))) (by omega) hy).mono ?_
  rintro e w1 ⟨A1, n1, c1, rfl, h1, hb1⟩
  have q1 := h1.le_of _ (Nat.lt_of_le_of_lt (Nat.mod_le _ _) h.lt)
  go_wp2_with fail
  have X3 := Blk1.newAt w1 (w1.heap.size) 25 (.slice A1 n1 c1) (by first | rfl | simp)
  have hbwe2 : Below w1.heap.size w1 (w1.alloc (.cells #[.slice A1 n1 c1] 25)) := (by with_reducible repeat (first | exact Below.refl _ _ | refine nxa ?_ _ | refine nxd ?_ _ | refine nxw ?_ | refine nx ?_ (by assumption)))
  generalize (w1.alloc (.cells #[.slice A1 n1 c1] 25)) = we2 at X3 hbwe2  ⊢
  refine (nat_Zero _ _ _ _ _ (h1.to (by with_reducible repeat (first | exact Below.refl _ _ | refine nxa ?_ _ | refine nxd ?_ _ | refine nxw ?_ | refine nx ?_ (by assumption))))).mono ?_
  rw [decide_eq_false hx]
  rintro e w2 ⟨rfl, hb2⟩
  have d1 := (show Blk1 w2 _ _ _ from X1.to (by with_reducible repeat (first | exact Below.refl _ _ | refine nxa ?_ _ | refine nxd ?_ _ | refine nxw ?_ | refine nx ?_ (by assumption)))).cell
  go_wp2_with fail
  clear d1
  refine (nat_Zero _ _ _ _ _ (h'.to (by with_reducible repeat (first | exact Below.refl _ _ | refine nxa ?_ _ | refine nxd ?_ _ | refine nxw ?_ | refine nx ?_ (by assumption))))).mono ?_
  rw [decide_eq_false (show ¬ y = 0 from HY.out)]
  rintro e w3 ⟨rfl, hb3⟩
  go_wp2_with fail
  go_ret
  exact ⟨rfl, (by with_reducible repeat (first | exact Below.refl _ _ | refine nxa ?_ _ | refine nxd ?_ _ | refine nxw ?_ | refine nx ?_ (by assumption)))⟩
theorem quot_Divides (A' : Option Addr) (n' c' y : Nat) (A : Option Addr) (n c x : Nat) (w : World) (h' : NatAt w A' n' c' y) (h : NatAt w A n c x) (hn : n ≤ 17592186044000) :
    Calls Try.prog 34 #[.agg #[.slice A' n' c'], .agg #[.slice A n c]] w (Ret w (.bool (decide (y ∣ x)))) := by
  by_cases hy : y = 0
  · by_cases hx : x = 0
    · rw [decide_eq_true (show y ∣ x by rw [hx]; exact Nat.dvd_zero _)]; exact quot_Divides_zz A' n' c' y A n c x w h' h hn hy hx
    · rw [decide_eq_false (show ¬ y ∣ x by rw [hy]; exact fun h => hx (Nat.eq_zero_of_zero_dvd h))]; exact quot_Divides_zp A' n' c' y A n c x w h' h hn hy hx
  · by_cases hx : x % y = 0
    · rw [decide_eq_true (Nat.dvd_of_mod_eq_zero hx)]; exact quot_Divides_pz A' n' c' y A n c x w h' h hn (by omega) hx
    · rw [decide_eq_false (fun h => hx (Nat.mod_eq_zero_of_dvd h))]; exact quot_Divides_pp A' n' c' y A n c x w h' h hn (by omega) hx
end Go.Proofs.Ytflleaifmeiikaa
