/- What laws made by auto.py share: a literal of one word that is no numeral; the number 0. -/
import Derived.Test.YtflleaifmeiikaaLikeKit
import Derived.Test.YtflleaifmeiikaaDefer
import Derived.Test.YtflleaifmeiikaaRef2a
import Derived.Deep.DeepCutAuto
set_option linter.unusedVariables false
set_option linter.unusedSimpArgs false
namespace Go.Proofs.Ytflleaifmeiikaa
open Go.RowKit
set_option maxRecDepth 100000
theorem shl_fit2 {x n k m : Nat} (hx : x < W ^ n) (hk : k < 64 * m) : x * 2 ^ k < W ^ (n + m) := by
  rw [Nat.pow_add]
  exact Nat.lt_of_le_of_lt (Nat.mul_le_mul_right _ (Nat.le_of_lt hx)) (Nat.mul_lt_mul_of_pos_left (by rw [W_pow]; exact Nat.pow_lt_pow_right (by decide) hk) (by omega))
theorem num_lit1 (w : World) (g : Nat) (e : TypeId) (d : Nat) (hg : w.heap.size = g) (hd : d < 65536) (h0 : 0 < d) : NumAt .i64 65536 (w.alloc (.cells #[.int .i64 (d : Nat)] e)) (some ⟨g, 0, none⟩) 1 1 d := by
  subst hg
  have hB := Blk1.new w e (.int .i64 (d : Nat))
  refine ⟨⟨by rw [Nat.pow_one]; exact hd, Nat.le_refl _, by omega, fun _ => ⟨w.heap.size, 0, rfl, hB.lt, fun j hj => ?_⟩⟩, fun _ => by simp; omega⟩
  obtain rfl : j = 0 := by omega
  have := hB.cell
  rw [Nat.add_zero, this]
  congr 3
  unfold dg
  rw [Nat.pow_zero, Nat.div_one, Nat.mod_eq_of_lt hd]
/-- a number and one of one digit, made on the spot -/
theorem ref2_Add_lit (d : Nat) (A : Option Addr) (n c x : Nat) (w : World) (g : Nat) (e : TypeId) (hg : w.heap.size = g) (h : NumAt .i64 65536 w A n c x) (hd : d < 65536) (h0 : 0 < d) (hn : n ≤ 4000000000) :
    Calls Try.prog 68 #[.slice A n c, .slice (some ⟨g, 0, none⟩) 1 1] (w.alloc (.cells #[.int .i64 (d : Nat)] e)) (RetRef 65536 w (x + d)) := by
  refine (ref2_Add A n c x _ 1 1 d _ (h.to (nxa (Below.refl _ _) _)) (num_lit1 w g e d hg hd h0) hn (by decide)).mono ?_
  rintro e' w' ⟨A', m, c', rfl, h', hb, hf⟩
  exact ⟨A', m, c', rfl, h', nx (nxa (Below.refl _ _) _) hb, hf.mono (by simp)⟩
/-- a local variable's pointer, and the number that lies there, of at most L words -/
def NumL (w : World) (T x L : Nat) (p : Value) : Prop := ∃ g A n c, p = .pointer (some ⟨g, 0, none⟩) ∧ Blk1 w g T (.slice A n c) ∧ NatAt w A n c x ∧ n ≤ L
theorem nat_Of_one (d : Nat) (w : World) (g : Nat) (e : TypeId) (hg : w.heap.size = g) (hd : d < W) :
    Calls Try.prog 13 #[.slice (some ⟨g, 0, none⟩) 1 1] (w.alloc (.cells #[.int .u64 (d : Nat)] e))
      fun e' w' => ∃ A m c, e' = .returned (.agg #[.slice A m c]) ∧ NatAt w' A m c d ∧ Below w.heap.size w w' ∧ m ≤ 1 := by
  refine (nat_Of _ 1 _ _ _ (dig_oneAt w g e d hg hd) (by decide)).mono ?_
  rintro e' w' ⟨A, m, c, rfl, h, hb, hm⟩
  exact ⟨A, m, c, rfl, h, nx (nxa (Below.refl _ _) _) hb, hm⟩
theorem ref2_Of_one (d : Nat) (w : World) (g : Nat) (e : TypeId) (hg : w.heap.size = g) (hd : d < W) :
    Calls Try.prog 14 #[.slice (some ⟨g, 0, none⟩) 1 1] (w.alloc (.cells #[.int .u64 (d : Nat)] e)) (RetRef 65536 w d) := by
  refine (ref2_Of _ 1 _ _ _ (dig_oneAt w g e d hg hd) (by decide)).mono ?_
  rintro e' w' ⟨A, m, c, rfl, h, hb, hf⟩
  exact ⟨A, m, c, rfl, h, nx (nxa (Below.refl _ _) _) hb, hf.mono (by simp)⟩
end Go.Proofs.Ytflleaifmeiikaa
