/- What the laws of layer 2 and up share: frames, sizes, literals. -/
import Derived.Test.YtflleaifmeiikaaNatIs
import Derived.Test.YtflleaifmeiikaaNatAdd
import Derived.Test.YtflleaifmeiikaaNatSub
import Derived.Test.YtflleaifmeiikaaNatShl
import Derived.Test.YtflleaifmeiikaaNatShr
import Derived.Test.YtflleaifmeiikaaNatLow
import Derived.Test.YtflleaifmeiikaaNatCmp
namespace Go.Proofs.Ytflleaifmeiikaa
open Go.RowKit
theorem nxw {a b : World} (h : Below a.heap.size a b) : Below a.heap.size a b.drew := below_drewN h 1
theorem NatAt.le_of {w : World} {A : Option Addr} {n c x : Nat} (h : NatAt w A n c x) (k : Nat) (hx : x < W ^ k) : n ≤ k := by
  rcases Nat.eq_zero_or_pos n with h0 | h0
  · omega
  · have := pow_lt_inv W_pos (h.2 h0) hx
    omega
theorem NatAt.len_is {w : World} {A : Option Addr} {n c x : Nat} (h : NatAt w A n c x) (k : Nat) (hx : x < W ^ (k + 1)) (hk : W ^ k ≤ x) : n = k + 1 := by
  have h1 := h.le_of (k + 1) hx
  rcases Nat.lt_or_ge n (k + 1) with h0 | h0
  · have := h.1.lt
    have := Nat.pow_le_pow_right W_pos (show n ≤ k by omega)
    omega
  · omega
theorem Dig.to {k : IntKind} {b : Nat} {w w' : World} {A : Option Addr} {n c x : Nat} (h : Dig k b w A n c x) (hb : Below w.heap.size w w') : Dig k b w' A n c x := h.below hb (Nat.le_refl _)
theorem Blk1.newAt (w : World) (g : Nat) (t : TypeId) (v : Value) (hg : w.heap.size = g) : Blk1 (w.alloc (.cells #[v] t)) g t v := hg ▸ Blk1.new w t v
theorem Blk1.at_ {w w' : World} {g : Nat} {t : TypeId} {v : Value} (h : Blk1 w g t v) (hb : Below w.heap.size w w') : w'.cell? ⟨g, 0, none⟩ = some v := (h.to hb).cell
theorem NatAt.lt {w : World} {A : Option Addr} {n c x : Nat} (h : NatAt w A n c x) : x < W ^ n := h.1.lt
/-- how many words a sum has -/
theorem add_lt {x y n m : Nat} (hx : x < W ^ n) (hy : y < W ^ m) : x + y < W ^ (max n m + 1) := by
  have h1 : W ^ n ≤ W ^ max n m := Nat.pow_le_pow_right W_pos (by omega)
  have h2 : W ^ m ≤ W ^ max n m := Nat.pow_le_pow_right W_pos (by omega)
  have h3 : W ^ max n m * 2 ≤ W ^ max n m * W := Nat.mul_le_mul_left _ (by decide)
  rw [Nat.pow_succ]; omega
theorem cmp_eq (x : Nat) : cmpI x x = 0 := by simp [cmpI]
theorem nat_Of_lit (l : List Nat) (w : World) (g : Nat) (e : TypeId) (hg : w.heap.size = g) (hl : ∀ d ∈ l, d < W) (hn : l.length ≤ 17592186044416) :
    Calls Try.prog 13 #[.slice (some ⟨g, 0, none⟩) l.length l.length] (w.alloc (.cells (l.map fun d : Nat => Value.int .u64 (d : Int)).toArray e))
      fun e' w' => ∃ A m c, e' = .returned (.agg #[.slice A m c]) ∧ NatAt w' A m c (val W l) ∧ Below w.heap.size w w' ∧ m ≤ l.length := by
  subst hg
  refine (nat_Of _ l.length _ _ _ (Dig.lit w e l hl (by omega)) hn).mono ?_
  rintro e' w' ⟨A, m, c, rfl, h, hb, hm⟩
  exact ⟨A, m, c, rfl, h, nx (nxa (Below.refl _ _) _) hb, hm⟩
theorem law_Is_lit (l : List Nat) (A : Option Addr) (n c x : Nat) (w : World) (g : Nat) (e : TypeId) (hg : w.heap.size = g) (h : NatAt w A n c x) (hl : ∀ d ∈ l, d < W) (hn : n ≤ 17592186044416) (hk : l.length ≤ 17592186044416) :
    Calls Try.prog 44 #[.agg #[.slice A n c], .slice (some ⟨g, 0, none⟩) l.length l.length] (w.alloc (.cells (l.map fun d : Nat => Value.int .u64 (d : Int)).toArray e))
      (Ret w (.bool (decide (n = l.length ∧ x = val W l)))) := by
  subst hg
  refine (law_Is A n c x _ l.length l.length (val W l) _ (h.alloc _) (Dig.lit w e l hl (by omega)) hn).mono ?_
  rintro e' w' ⟨rfl, hb⟩
  exact ⟨rfl, nx (nxa (Below.refl _ _) _) hb⟩
end Go.Proofs.Ytflleaifmeiikaa
