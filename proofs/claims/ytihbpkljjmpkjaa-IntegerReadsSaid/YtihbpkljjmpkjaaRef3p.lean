/- The walk of actuaryref03.Pow. -/
import Derived.Test.YtihbpkljjmpkjaaKJ
import Derived.Test.YtihbpkljjmpkjaaKC
set_option linter.unusedVariables false
set_option linter.unusedSimpArgs false
namespace Go.Proofs.Ytihbpkljjmpkjaa
open Go.RowKit
set_option maxRecDepth 100000
def RetRefW (b : Nat) (w : World) (x : Nat) (e : Ending) (w' : World) : Prop := ∃ A n c, e = .returned (.slice A n c) ∧ NumAt .i64 b w' A n c x ∧ Below w.heap.size w w'
theorem num_one (w : World) (e : TypeId) : NumAt .i64 65536 (w.alloc (.cells #[.int .i64 1] e)) (some ⟨w.heap.size, 0, none⟩) 1 1 1 := by
  refine ⟨⟨by decide, by omega, by omega, fun _ => ⟨w.heap.size, 0, rfl, by simp, fun j hj => ?_⟩⟩, fun _ => by simp⟩
  obtain rfl : j = 0 := by omega
  rw [show dg 65536 0 1 = 1 by decide]; simp
end Go.Proofs.Ytihbpkljjmpkjaa
