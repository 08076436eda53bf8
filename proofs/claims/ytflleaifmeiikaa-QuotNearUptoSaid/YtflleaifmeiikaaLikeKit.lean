/- What laws that ask the document's answer share. -/
import Derived.Test.YtflleaifmeiikaaLike
import Derived.Test.YtflleaifmeiikaaRef2p
import Derived.Test.YtflleaifmeiikaaRef2s
set_option linter.unusedVariables false
set_option linter.unusedSimpArgs false
namespace Go.Proofs.Ytflleaifmeiikaa
open Go.RowKit
set_option maxRecDepth 100000
theorem ref_len {w : World} {A : Option Addr} {n c x m : Nat} (h : NumAt .i64 65536 w A n c x) (hx : x < W ^ m) : n ≤ 4 * m := by
  refine h.le_of (by decide) _ ?_
  rw [show W = 65536 ^ 4 from by decide, ← Nat.pow_mul] at hx
  exact hx
theorem dig_oneAt (w : World) (g : Nat) (e : TypeId) (d : Nat) (hg : w.heap.size = g) (hd : d < W) : Dig .u64 W (w.alloc (.cells #[.int .u64 (d : Nat)] e)) (some ⟨g, 0, none⟩) 1 1 d := by
  subst hg
  have := Dig.lit w e [d] (by simpa using hd) (by simp)
  simpa [val] using this
theorem dig_one (w : World) (e : TypeId) (d : Nat) (hd : d < W) : Dig .u64 W (w.alloc (.cells #[.int .u64 (d : Nat)] e)) (some ⟨w.heap.size, 0, none⟩) 1 1 d := by
  have := Dig.lit w e [d] (by simpa using hd) (by simp)
  simpa [val] using this
end Go.Proofs.Ytflleaifmeiikaa
