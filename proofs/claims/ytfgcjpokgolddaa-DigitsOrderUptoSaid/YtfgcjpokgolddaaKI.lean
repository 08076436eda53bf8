/- The walk of quot.DivMod, first part: by a number of at most one word; of a number that is below.
   The walk of quot.DivMod, main path: of a number that is not below, by one of two words or more.
   DivMod of every divisor; Div, Mod, Divides. -/
import Derived.Deep.DeepCutAuto
import Derived.Test.YtfgcjpokgolddaaKH
import Derived.Test.YtfgcjpokgolddaaKD
import Derived.Test.YtfgcjpokgolddaaKB
set_option linter.unusedVariables false
set_option linter.unusedSimpArgs false
namespace Go.Proofs.Ytfgcjpokgolddaa
open Go.RowKit
set_option maxRecDepth 100000
def RetDiv (w : World) (q r : Nat) (b : Bool) (e : Ending) (w' : World) : Prop := ∃ A n c A' n' c', e = .returned (.tuple #[.agg #[.slice A n c], .agg #[.slice A' n' c'], .bool b]) ∧ NatAt w' A n c q ∧ NatAt w' A' n' c' r ∧ Below w.heap.size w w'
def OneD (w0 : World) (T x : Nat) (p : Value) (w : World) : Prop := ∃ g A n c, p = .pointer (some ⟨g, 0, none⟩) ∧ Loc w g T A n c x ∧ Below w0.heap.size w0 w
theorem dig_lit1 (w : World) (g : Nat) (e : TypeId) (d : Nat) (hg : w.heap.size = g) (hd : d < W) : Dig .u64 W (w.alloc (.cells #[.int .u64 (d : Nat)] e)) (some ⟨g, 0, none⟩) 1 1 d := by
  subst hg
  have := Dig.lit w e [d] (by simpa using hd) (by simp)
  simpa [val] using this
end Go.Proofs.Ytfgcjpokgolddaa
set_option linter.unusedVariables false
set_option linter.unusedSimpArgs false
namespace Go.Proofs.Ytfgcjpokgolddaa
open Go.RowKit
set_option maxRecDepth 100000
theorem dig_lit00 (w : World) (e : TypeId) : Dig .u64 W (w.alloc (.cells #[.int .u64 0, .int .u64 0] e)) (some ⟨w.heap.size, 0, none⟩) 2 2 0 := by
  have := Dig.lit w e [0, 0] (by simp [W_pos]) (by simp)
  simpa [val] using this
def RowU (w0 : World) (n X : Nat) (v : Value) (w : World) : Prop := ∃ g c, v = .slice (some ⟨g, 0, none⟩) n c ∧ w.ownsRow w0.heap.size 52 1 v n (dl .u64 W n X) ∧ Below w0.heap.size w0 w
end Go.Proofs.Ytfgcjpokgolddaa
set_option linter.unusedVariables false
set_option linter.unusedSimpArgs false
namespace Go.Proofs.Ytfgcjpokgolddaa
open Go.RowKit
set_option maxRecDepth 100000
theorem nat_nil (w : World) : NatAt w none 0 0 0 := ⟨Dig.nil _ _ _ _ (by omega), fun h => absurd h (by omega)⟩
end Go.Proofs.Ytfgcjpokgolddaa
