/- The walks of package digits, first part: Size, Bytes, Plain. -/
import Derived.Test.YtihbpkljjmpkjaaDigLaw
import Derived.Test.YtihbpkljjmpkjaaKD
import Derived.Test.YtihbpkljjmpkjaaKH
import Derived.IntWalk
set_option linter.unusedVariables false
set_option linter.unusedSimpArgs false
namespace Go.Proofs.Ytihbpkljjmpkjaa
open Go.RowKit
set_option maxRecDepth 100000
theorem info_u8 : (Try.prog.info? 5).map (fun i => (i.zero, i.size, i.bytes)) = some (some (.int .u8 0), 1, 1) := by kernel_rfl
def bsize (x : Nat) : Nat := (blen x + 7) / 8
theorem bsize_lt (x : Nat) : x < 256 ^ bsize x := by
  unfold bsize
  have h1 := blen_lt x
  rw [show 256 = 2 ^ 8 by decide, ← Nat.pow_mul]
  exact Nat.lt_of_lt_of_le h1 (Nat.pow_le_pow_right (by decide) (by omega))
theorem bsize_len (x : Nat) : IsLen 256 x (bsize x) := by
  refine ⟨bsize_lt x, fun h => ?_⟩
  unfold bsize at h ⊢
  have hx : x ≠ 0 := fun e => by subst e; simp [blen] at h
  have h1 := blen_le hx
  rw [show 256 = 2 ^ 8 by decide, ← Nat.pow_mul]
  exact Nat.le_trans (Nat.pow_le_pow_right (by decide) (by have := blen_pos hx; omega)) h1
def RetOwn8 (w : World) (n x : Nat) (e : Ending) (w' : World) : Prop := ∃ A c, e = .returned (.slice A n c) ∧ w'.ownsRow w.heap.size 5 1 (.slice A n c) n (dl .u8 256 n x) ∧ Below w.heap.size w w'
end Go.Proofs.Ytihbpkljjmpkjaa
