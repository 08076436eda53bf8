/-
  No cell of these rows narrows 'for every input' (looked for: loops, veiled, ifaces, maps, wideKeys, modest, calm, conditions, laid).
  DERIVED. THE GIVEN ROWS OF THIS SEAT. 6 by the template 'for every input the law returns true; each argument reads behind the call as it read before'; 0 by the template 'total and deterministic' (their statements: YtfgcjpokgolddaaTotals.lean).
  GIVEN WITH THE SEED: the statements are not yours to turn. If you find one false, say at which input.
  Laid BY PROGRAM, IN A SANDBOX (cutbox-rows.mjs): the forced cells as the released guide's own fill.sh prints them over the translation b17acfcff31410b9… (all of the seat's roots in one cut). By AI agents, Wed Nov 11 2026. No macro, syntax, notation, axiom, sorry.
-/
import Derived.Test.YtfgcjpokgolddaaChecked
import GoSem.Claim
import GoSem.ClaimJoined
import GoSem.ClaimMapViews
import Derived.JoinedTies
import Derived.KernelRfl
namespace Go.Proofs.Ytfgcjpokgolddaa
/- THE CELL 'sum', in the pinned program and in every row, IS THE sha256 OF THE DUMP (.gsa) THAT YtfgcjpokgolddaaProg.lean LOADS. Nothing in Lean hashes anything: it is a label: what it is worth is what the hold of that sum in a sandbox is worth. -/
noncomputable def Try.pinned : Pinned := { name := "ytfgcjpokgolddaa", sum := "b17acfcff31410b9e48c8db19759153f73da85b0947e8c256d69ffe576370272", checked := Try.checked }
namespace Rows
def none {H : Type} : Left H := { results := [], args := [] }

/-- 'actuarylaw06.DigitsTells': WHATEVER THE INPUT: true; the input reads as it did. -/
def digitsTellsSpec : ChangeSpec := { name := "digitsTells", fn := fun _ => fun
  | [d] => { results := [.lit (.bool true)], args := [d] }
  | _ => none }
def digitsTellsRow : OpenClaim := { program := "ytfgcjpokgolddaa", sum := "b17acfcff31410b9e48c8db19759153f73da85b0947e8c256d69ffe576370272", func := "actuary/actuarylaw06.DigitsTells", spec := "digitsTells", inPlace := ["internal/abi.NoEscape"], apart := false }
def DigitsTellsSaid : Prop := digitsTellsRow.holds Try.pinned (OpenSpec.ofChange digitsTellsSpec)

/-- ITS FALSE NEIGHBOUR: 'it returns false'. Refute it at one input. -/
def digitsTellsWrong : ChangeSpec := { name := "digitsTells", fn := fun _ => fun
  | [d] => { results := [.lit (.bool false)], args := [d] }
  | _ => none }
def DigitsTellsWrongFalsely : Prop := digitsTellsRow.holds Try.pinned (OpenSpec.ofChange digitsTellsWrong)

/-- 'actuarylaw06.DigitsSizes': WHATEVER THE INPUT: true; the input reads as it did. -/
def digitsSizesSpec : ChangeSpec := { name := "digitsSizes", fn := fun _ => fun
  | [d1, d2] => { results := [.lit (.bool true)], args := [d1, d2] }
  | _ => none }
def digitsSizesRow : OpenClaim := { program := "ytfgcjpokgolddaa", sum := "b17acfcff31410b9e48c8db19759153f73da85b0947e8c256d69ffe576370272", func := "actuary/actuarylaw06.DigitsSizes", spec := "digitsSizes", inPlace := ["internal/abi.NoEscape"], apart := false }
def DigitsSizesSaid : Prop := digitsSizesRow.holds Try.pinned (OpenSpec.ofChange digitsSizesSpec)

/-- ITS FALSE NEIGHBOUR: 'it returns false'. Refute it at one input. -/
def digitsSizesWrong : ChangeSpec := { name := "digitsSizes", fn := fun _ => fun
  | [d1, d2] => { results := [.lit (.bool false)], args := [d1, d2] }
  | _ => none }
def DigitsSizesWrongFalsely : Prop := digitsSizesRow.holds Try.pinned (OpenSpec.ofChange digitsSizesWrong)

/-- 'actuarylaw06.DigitsReads': WHATEVER THE INPUT: true; the input reads as it did. -/
def digitsReadsSpec : ChangeSpec := { name := "digitsReads", fn := fun _ => fun
  | [d1, d2] => { results := [.lit (.bool true)], args := [d1, d2] }
  | _ => none }
def digitsReadsRow : OpenClaim := { program := "ytfgcjpokgolddaa", sum := "b17acfcff31410b9e48c8db19759153f73da85b0947e8c256d69ffe576370272", func := "actuary/actuarylaw06.DigitsReads", spec := "digitsReads", inPlace := ["internal/abi.NoEscape"], apart := false }
def DigitsReadsSaid : Prop := digitsReadsRow.holds Try.pinned (OpenSpec.ofChange digitsReadsSpec)

/-- ITS FALSE NEIGHBOUR: 'it returns false'. Refute it at one input. -/
def digitsReadsWrong : ChangeSpec := { name := "digitsReads", fn := fun _ => fun
  | [d1, d2] => { results := [.lit (.bool false)], args := [d1, d2] }
  | _ => none }
def DigitsReadsWrongFalsely : Prop := digitsReadsRow.holds Try.pinned (OpenSpec.ofChange digitsReadsWrong)

/-- 'actuarylaw06.DigitsBack': WHATEVER THE INPUT: true; the input reads as it did. -/
def digitsBackSpec : ChangeSpec := { name := "digitsBack", fn := fun _ => fun
  | [d1, d2, d3] => { results := [.lit (.bool true)], args := [d1, d2, d3] }
  | _ => none }
def digitsBackRow : OpenClaim := { program := "ytfgcjpokgolddaa", sum := "b17acfcff31410b9e48c8db19759153f73da85b0947e8c256d69ffe576370272", func := "actuary/actuarylaw06.DigitsBack", spec := "digitsBack", inPlace := ["internal/abi.NoEscape"], apart := false }
def DigitsBackSaid : Prop := digitsBackRow.holds Try.pinned (OpenSpec.ofChange digitsBackSpec)

/-- ITS FALSE NEIGHBOUR: 'it returns false'. Refute it at one input. -/
def digitsBackWrong : ChangeSpec := { name := "digitsBack", fn := fun _ => fun
  | [d1, d2, d3] => { results := [.lit (.bool false)], args := [d1, d2, d3] }
  | _ => none }
def DigitsBackWrongFalsely : Prop := digitsBackRow.holds Try.pinned (OpenSpec.ofChange digitsBackWrong)

/-- 'actuarylaw06.DigitsOrder': WHATEVER THE INPUT: true; the input reads as it did. -/
def digitsOrderSpec : ChangeSpec := { name := "digitsOrder", fn := fun _ => fun
  | [d1, d2] => { results := [.lit (.bool true)], args := [d1, d2] }
  | _ => none }
def digitsOrderRow : OpenClaim := { program := "ytfgcjpokgolddaa", sum := "b17acfcff31410b9e48c8db19759153f73da85b0947e8c256d69ffe576370272", func := "actuary/actuarylaw06.DigitsOrder", spec := "digitsOrder", inPlace := ["internal/abi.NoEscape"], apart := false }
def DigitsOrderSaid : Prop := digitsOrderRow.holds Try.pinned (OpenSpec.ofChange digitsOrderSpec)

/-- ITS FALSE NEIGHBOUR: 'it returns false'. Refute it at one input. -/
def digitsOrderWrong : ChangeSpec := { name := "digitsOrder", fn := fun _ => fun
  | [d1, d2] => { results := [.lit (.bool false)], args := [d1, d2] }
  | _ => none }
def DigitsOrderWrongFalsely : Prop := digitsOrderRow.holds Try.pinned (OpenSpec.ofChange digitsOrderWrong)

/-- 'actuarylaw06.DigitsTens': WHATEVER THE INPUT: true; the input reads as it did. -/
def digitsTensSpec : ChangeSpec := { name := "digitsTens", fn := fun _ => fun
  | [d] => { results := [.lit (.bool true)], args := [d] }
  | _ => none }
def digitsTensRow : OpenClaim := { program := "ytfgcjpokgolddaa", sum := "b17acfcff31410b9e48c8db19759153f73da85b0947e8c256d69ffe576370272", func := "actuary/actuarylaw06.DigitsTens", spec := "digitsTens", inPlace := ["internal/abi.NoEscape"], apart := false }
def DigitsTensSaid : Prop := digitsTensRow.holds Try.pinned (OpenSpec.ofChange digitsTensSpec)

/-- ITS FALSE NEIGHBOUR: 'it returns false'. Refute it at one input. -/
def digitsTensWrong : ChangeSpec := { name := "digitsTens", fn := fun _ => fun
  | [d] => { results := [.lit (.bool false)], args := [d] }
  | _ => none }
def DigitsTensWrongFalsely : Prop := digitsTensRow.holds Try.pinned (OpenSpec.ofChange digitsTensWrong)

/- THE SECOND FORM. 'bulk': how many values and letters a reading holds, each counted each time it is reached (what is shared counts as often as it is met; a slice's spare places count too). A statement '..UptoSaid' is the law's where the arguments, and the package variables that the reading takes, are together of bulk at most 1048576: NARROWER than '..Said'. Prove '..Said' where nothing that the law and all that it calls make is longer than what came in: it says more and counts as full. Else prove '..UptoSaid'. A law counts once. -/
mutual
def uptoBulk {H : Type} : DataW H → Nat
  | .lit (.string bytes) => bytes.length + 1
  | .lit _ => 1
  | .nil => 1
  | .ptr d => uptoBulk d + 1
  | .slice elems spare => uptoBulkAll elems + uptoBulkAll spare + 1
  | .agg parts => uptoBulkAll parts + 1
  | .iface _ d => uptoBulk d + 1
  | .map entries => uptoBulkEntries entries + 1
  | .held _ => 1
def uptoBulkAll {H : Type} : List (DataW H) → Nat
  | [] => 0
  | d :: r => uptoBulk d + uptoBulkAll r
def uptoBulkEntries {H : Type} : List (Lit × DataW H) → Nat
  | [] => 0
  | x :: r => uptoBulkEntry x + uptoBulkEntries r
def uptoBulkEntry {H : Type} : Lit × DataW H → Nat
  | (.string bytes, d) => bytes.length + uptoBulk d + 1
  | (_, d) => uptoBulk d + 1
 end
def uptoSmall : (H : Type) → List (DataW H) → Bool := fun _ ds => decide (uptoBulkAll ds ≤ 1048576)
def OpenSpec.upto (s : _root_.Go.ChangeSpec) : _root_.Go.OpenSpec := { _root_.Go.OpenSpec.ofChange s with cond := some uptoSmall }

/-- 'actuarylaw06.DigitsTells', WHERE WHAT IT READS IS OF BULK AT MOST 1048576: true; the input reads as it did. -/
def digitsTellsUptoRow : OpenClaim := { program := "ytfgcjpokgolddaa", sum := "b17acfcff31410b9e48c8db19759153f73da85b0947e8c256d69ffe576370272", func := "actuary/actuarylaw06.DigitsTells", spec := "digitsTells", inPlace := ["internal/abi.NoEscape"], apart := false, narrowed := true }
def DigitsTellsUptoSaid : Prop := digitsTellsUptoRow.holds Try.pinned (OpenSpec.upto digitsTellsSpec)

/-- 'actuarylaw06.DigitsSizes', WHERE WHAT IT READS IS OF BULK AT MOST 1048576: true; the input reads as it did. -/
def digitsSizesUptoRow : OpenClaim := { program := "ytfgcjpokgolddaa", sum := "b17acfcff31410b9e48c8db19759153f73da85b0947e8c256d69ffe576370272", func := "actuary/actuarylaw06.DigitsSizes", spec := "digitsSizes", inPlace := ["internal/abi.NoEscape"], apart := false, narrowed := true }
def DigitsSizesUptoSaid : Prop := digitsSizesUptoRow.holds Try.pinned (OpenSpec.upto digitsSizesSpec)

/-- 'actuarylaw06.DigitsReads', WHERE WHAT IT READS IS OF BULK AT MOST 1048576: true; the input reads as it did. -/
def digitsReadsUptoRow : OpenClaim := { program := "ytfgcjpokgolddaa", sum := "b17acfcff31410b9e48c8db19759153f73da85b0947e8c256d69ffe576370272", func := "actuary/actuarylaw06.DigitsReads", spec := "digitsReads", inPlace := ["internal/abi.NoEscape"], apart := false, narrowed := true }
def DigitsReadsUptoSaid : Prop := digitsReadsUptoRow.holds Try.pinned (OpenSpec.upto digitsReadsSpec)

/-- 'actuarylaw06.DigitsBack', WHERE WHAT IT READS IS OF BULK AT MOST 1048576: true; the input reads as it did. -/
def digitsBackUptoRow : OpenClaim := { program := "ytfgcjpokgolddaa", sum := "b17acfcff31410b9e48c8db19759153f73da85b0947e8c256d69ffe576370272", func := "actuary/actuarylaw06.DigitsBack", spec := "digitsBack", inPlace := ["internal/abi.NoEscape"], apart := false, narrowed := true }
def DigitsBackUptoSaid : Prop := digitsBackUptoRow.holds Try.pinned (OpenSpec.upto digitsBackSpec)

/-- 'actuarylaw06.DigitsOrder', WHERE WHAT IT READS IS OF BULK AT MOST 1048576: true; the input reads as it did. -/
def digitsOrderUptoRow : OpenClaim := { program := "ytfgcjpokgolddaa", sum := "b17acfcff31410b9e48c8db19759153f73da85b0947e8c256d69ffe576370272", func := "actuary/actuarylaw06.DigitsOrder", spec := "digitsOrder", inPlace := ["internal/abi.NoEscape"], apart := false, narrowed := true }
def DigitsOrderUptoSaid : Prop := digitsOrderUptoRow.holds Try.pinned (OpenSpec.upto digitsOrderSpec)

/-- 'actuarylaw06.DigitsTens', WHERE WHAT IT READS IS OF BULK AT MOST 1048576: true; the input reads as it did. -/
def digitsTensUptoRow : OpenClaim := { program := "ytfgcjpokgolddaa", sum := "b17acfcff31410b9e48c8db19759153f73da85b0947e8c256d69ffe576370272", func := "actuary/actuarylaw06.DigitsTens", spec := "digitsTens", inPlace := ["internal/abi.NoEscape"], apart := false, narrowed := true }
def DigitsTensUptoSaid : Prop := digitsTensUptoRow.holds Try.pinned (OpenSpec.upto digitsTensSpec)

end Rows
end Go.Proofs.Ytfgcjpokgolddaa
