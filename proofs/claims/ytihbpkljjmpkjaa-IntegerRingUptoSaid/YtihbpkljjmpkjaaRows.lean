/-
  No cell of these rows narrows 'for every input' (looked for: loops, veiled, ifaces, maps, wideKeys, modest, calm, conditions, laid).
  DERIVED. THE GIVEN ROWS OF THIS SEAT. 8 by the template 'for every input the law returns true; each argument reads behind the call as it read before'; 0 by the template 'total and deterministic' (their statements: YtihbpkljjmpkjaaTotals.lean).
  GIVEN WITH THE SEED: the statements are not yours to turn. If you find one false, say at which input.
  Laid BY PROGRAM, IN A SANDBOX (cutbox-rows.mjs): the forced cells as the released guide's own fill.sh prints them over the translation 9078f6684def68a0… (all of the seat's roots in one cut). By AI agents, Wed Nov 11 2026. No macro, syntax, notation, axiom, sorry.
-/
import Derived.Test.YtihbpkljjmpkjaaChecked
import GoSem.Claim
import GoSem.ClaimJoined
import GoSem.ClaimMapViews
import Derived.JoinedTies
import Derived.KernelRfl
namespace Go.Proofs.Ytihbpkljjmpkjaa
/- THE CELL 'sum', in the pinned program and in every row, IS THE sha256 OF THE DUMP (.gsa) THAT YtihbpkljjmpkjaaProg.lean LOADS. Nothing in Lean hashes anything: it is a label: what it is worth is what the hold of that sum in a sandbox is worth. -/
noncomputable def Try.pinned : Pinned := { name := "ytihbpkljjmpkjaa", sum := "9078f6684def68a0e5db47f79c75198e413dc1dcd40f0a25e344024a3295d3af", checked := Try.checked }
namespace Rows
def none {H : Type} : Left H := { results := [], args := [] }

/-- 'actuarylaw07.IntegerDivs': WHATEVER THE INPUT: true; the input reads as it did. -/
def integerDivsSpec : ChangeSpec := { name := "integerDivs", fn := fun _ => fun
  | [d1, d2] => { results := [.lit (.bool true)], args := [d1, d2] }
  | _ => none }
def integerDivsRow : OpenClaim := { program := "ytihbpkljjmpkjaa", sum := "9078f6684def68a0e5db47f79c75198e413dc1dcd40f0a25e344024a3295d3af", func := "actuary/actuarylaw07.IntegerDivs", spec := "integerDivs", inPlace := ["internal/abi.NoEscape"], apart := false }
def IntegerDivsSaid : Prop := integerDivsRow.holds Try.pinned (OpenSpec.ofChange integerDivsSpec)

/-- ITS FALSE NEIGHBOUR: 'it returns false'. Refute it at one input. -/
def integerDivsWrong : ChangeSpec := { name := "integerDivs", fn := fun _ => fun
  | [d1, d2] => { results := [.lit (.bool false)], args := [d1, d2] }
  | _ => none }
def IntegerDivsWrongFalsely : Prop := integerDivsRow.holds Try.pinned (OpenSpec.ofChange integerDivsWrong)

/-- 'actuarylaw07.IntegerReads': WHATEVER THE INPUT: true; the input reads as it did. -/
def integerReadsSpec : ChangeSpec := { name := "integerReads", fn := fun _ => fun
  | [d1, d2] => { results := [.lit (.bool true)], args := [d1, d2] }
  | _ => none }
def integerReadsRow : OpenClaim := { program := "ytihbpkljjmpkjaa", sum := "9078f6684def68a0e5db47f79c75198e413dc1dcd40f0a25e344024a3295d3af", func := "actuary/actuarylaw07.IntegerReads", spec := "integerReads", inPlace := ["internal/abi.NoEscape"], apart := false }
def IntegerReadsSaid : Prop := integerReadsRow.holds Try.pinned (OpenSpec.ofChange integerReadsSpec)

/-- ITS FALSE NEIGHBOUR: 'it returns false'. Refute it at one input. -/
def integerReadsWrong : ChangeSpec := { name := "integerReads", fn := fun _ => fun
  | [d1, d2] => { results := [.lit (.bool false)], args := [d1, d2] }
  | _ => none }
def IntegerReadsWrongFalsely : Prop := integerReadsRow.holds Try.pinned (OpenSpec.ofChange integerReadsWrong)

/-- 'actuarylaw07.IntegerTexts': WHATEVER THE INPUT: true; the input reads as it did. -/
def integerTextsSpec : ChangeSpec := { name := "integerTexts", fn := fun _ => fun
  | [d1, d2] => { results := [.lit (.bool true)], args := [d1, d2] }
  | _ => none }
def integerTextsRow : OpenClaim := { program := "ytihbpkljjmpkjaa", sum := "9078f6684def68a0e5db47f79c75198e413dc1dcd40f0a25e344024a3295d3af", func := "actuary/actuarylaw07.IntegerTexts", spec := "integerTexts", inPlace := ["internal/abi.NoEscape"], apart := false }
def IntegerTextsSaid : Prop := integerTextsRow.holds Try.pinned (OpenSpec.ofChange integerTextsSpec)

/-- ITS FALSE NEIGHBOUR: 'it returns false'. Refute it at one input. -/
def integerTextsWrong : ChangeSpec := { name := "integerTexts", fn := fun _ => fun
  | [d1, d2] => { results := [.lit (.bool false)], args := [d1, d2] }
  | _ => none }
def IntegerTextsWrongFalsely : Prop := integerTextsRow.holds Try.pinned (OpenSpec.ofChange integerTextsWrong)

/-- 'actuarylaw07.IntegerOrder': WHATEVER THE INPUT: true; the input reads as it did. -/
def integerOrderSpec : ChangeSpec := { name := "integerOrder", fn := fun _ => fun
  | [d1, d2, d3] => { results := [.lit (.bool true)], args := [d1, d2, d3] }
  | _ => none }
def integerOrderRow : OpenClaim := { program := "ytihbpkljjmpkjaa", sum := "9078f6684def68a0e5db47f79c75198e413dc1dcd40f0a25e344024a3295d3af", func := "actuary/actuarylaw07.IntegerOrder", spec := "integerOrder", inPlace := ["internal/abi.NoEscape"], apart := false }
def IntegerOrderSaid : Prop := integerOrderRow.holds Try.pinned (OpenSpec.ofChange integerOrderSpec)

/-- ITS FALSE NEIGHBOUR: 'it returns false'. Refute it at one input. -/
def integerOrderWrong : ChangeSpec := { name := "integerOrder", fn := fun _ => fun
  | [d1, d2, d3] => { results := [.lit (.bool false)], args := [d1, d2, d3] }
  | _ => none }
def IntegerOrderWrongFalsely : Prop := integerOrderRow.holds Try.pinned (OpenSpec.ofChange integerOrderWrong)

/-- 'actuarylaw07.IntegerInts': WHATEVER THE INPUT: true; the input reads as it did. -/
def integerIntsSpec : ChangeSpec := { name := "integerInts", fn := fun _ => fun
  | [d1, d2, d3] => { results := [.lit (.bool true)], args := [d1, d2, d3] }
  | _ => none }
def integerIntsRow : OpenClaim := { program := "ytihbpkljjmpkjaa", sum := "9078f6684def68a0e5db47f79c75198e413dc1dcd40f0a25e344024a3295d3af", func := "actuary/actuarylaw07.IntegerInts", spec := "integerInts", inPlace := ["internal/abi.NoEscape"], recurses := true, apart := false }
def IntegerIntsSaid : Prop := integerIntsRow.holds Try.pinned (OpenSpec.ofChange integerIntsSpec)

/-- ITS FALSE NEIGHBOUR: 'it returns false'. Refute it at one input. -/
def integerIntsWrong : ChangeSpec := { name := "integerInts", fn := fun _ => fun
  | [d1, d2, d3] => { results := [.lit (.bool false)], args := [d1, d2, d3] }
  | _ => none }
def IntegerIntsWrongFalsely : Prop := integerIntsRow.holds Try.pinned (OpenSpec.ofChange integerIntsWrong)

/-- 'actuarylaw07.IntegerRing': WHATEVER THE INPUT: true; the input reads as it did. -/
def integerRingSpec : ChangeSpec := { name := "integerRing", fn := fun _ => fun
  | [d1, d2, d3] => { results := [.lit (.bool true)], args := [d1, d2, d3] }
  | _ => none }
def integerRingRow : OpenClaim := { program := "ytihbpkljjmpkjaa", sum := "9078f6684def68a0e5db47f79c75198e413dc1dcd40f0a25e344024a3295d3af", func := "actuary/actuarylaw07.IntegerRing", spec := "integerRing", inPlace := ["internal/abi.NoEscape"], recurses := true, apart := false }
def IntegerRingSaid : Prop := integerRingRow.holds Try.pinned (OpenSpec.ofChange integerRingSpec)

/-- ITS FALSE NEIGHBOUR: 'it returns false'. Refute it at one input. -/
def integerRingWrong : ChangeSpec := { name := "integerRing", fn := fun _ => fun
  | [d1, d2, d3] => { results := [.lit (.bool false)], args := [d1, d2, d3] }
  | _ => none }
def IntegerRingWrongFalsely : Prop := integerRingRow.holds Try.pinned (OpenSpec.ofChange integerRingWrong)

/-- 'actuarylaw07.IntegerBack': WHATEVER THE INPUT: true; the input reads as it did. -/
def integerBackSpec : ChangeSpec := { name := "integerBack", fn := fun _ => fun
  | [d1, d2] => { results := [.lit (.bool true)], args := [d1, d2] }
  | _ => none }
def integerBackRow : OpenClaim := { program := "ytihbpkljjmpkjaa", sum := "9078f6684def68a0e5db47f79c75198e413dc1dcd40f0a25e344024a3295d3af", func := "actuary/actuarylaw07.IntegerBack", spec := "integerBack", inPlace := ["internal/abi.NoEscape"], recurses := true, apart := false }
def IntegerBackSaid : Prop := integerBackRow.holds Try.pinned (OpenSpec.ofChange integerBackSpec)

/-- ITS FALSE NEIGHBOUR: 'it returns false'. Refute it at one input. -/
def integerBackWrong : ChangeSpec := { name := "integerBack", fn := fun _ => fun
  | [d1, d2] => { results := [.lit (.bool false)], args := [d1, d2] }
  | _ => none }
def IntegerBackWrongFalsely : Prop := integerBackRow.holds Try.pinned (OpenSpec.ofChange integerBackWrong)

/-- 'actuarylaw07.IntegerSums': WHATEVER THE INPUT: true; the input reads as it did. -/
def integerSumsSpec : ChangeSpec := { name := "integerSums", fn := fun _ => fun
  | [d1, d2] => { results := [.lit (.bool true)], args := [d1, d2] }
  | _ => none }
def integerSumsRow : OpenClaim := { program := "ytihbpkljjmpkjaa", sum := "9078f6684def68a0e5db47f79c75198e413dc1dcd40f0a25e344024a3295d3af", func := "actuary/actuarylaw07.IntegerSums", spec := "integerSums", inPlace := ["internal/abi.NoEscape"], recurses := true, apart := false }
def IntegerSumsSaid : Prop := integerSumsRow.holds Try.pinned (OpenSpec.ofChange integerSumsSpec)

/-- ITS FALSE NEIGHBOUR: 'it returns false'. Refute it at one input. -/
def integerSumsWrong : ChangeSpec := { name := "integerSums", fn := fun _ => fun
  | [d1, d2] => { results := [.lit (.bool false)], args := [d1, d2] }
  | _ => none }
def IntegerSumsWrongFalsely : Prop := integerSumsRow.holds Try.pinned (OpenSpec.ofChange integerSumsWrong)

/- THE SECOND FORM. 'bulk': how many values and letters a reading holds, each counted each time it is reached (what is shared counts as often as it is met; a slice's spare places count too). A statement '..UptoSaid' is the law's where the arguments, and the package variables that the reading takes, are together of bulk at most 1048576: NARROWER than '..Said'. Prove '..Said' where nothing that the law and all that it calls make is longer than what came in: it says more and counts as full. Else prove '..UptoSaid'. A law counts once. -/
mutual
def uptoBulk {H : Type} : DataW H → Nat
  | .lit (.string bytes) => bytes.length + 1
  | .lit _ => 1
  | .nil => 1
  | .ptr d => uptoBulk d + 1
  | .slice elems spare => uptoBulkAll elems + uptoBulkAll spare + 1
  | .agg parts => uptoBulkAll parts + 1
  | .iface _ d => uptoBulk d + 1
  | .map entries => uptoBulkEntries entries + 1
  | .held _ => 1
def uptoBulkAll {H : Type} : List (DataW H) → Nat
  | [] => 0
  | d :: r => uptoBulk d + uptoBulkAll r
def uptoBulkEntries {H : Type} : List (Lit × DataW H) → Nat
  | [] => 0
  | x :: r => uptoBulkEntry x + uptoBulkEntries r
def uptoBulkEntry {H : Type} : Lit × DataW H → Nat
  | (.string bytes, d) => bytes.length + uptoBulk d + 1
  | (_, d) => uptoBulk d + 1
 end
def uptoSmall : (H : Type) → List (DataW H) → Bool := fun _ ds => decide (uptoBulkAll ds ≤ 1048576)
def OpenSpec.upto (s : _root_.Go.ChangeSpec) : _root_.Go.OpenSpec := { _root_.Go.OpenSpec.ofChange s with cond := some uptoSmall }

/-- 'actuarylaw07.IntegerDivs', WHERE WHAT IT READS IS OF BULK AT MOST 1048576: true; the input reads as it did. -/
def integerDivsUptoRow : OpenClaim := { program := "ytihbpkljjmpkjaa", sum := "9078f6684def68a0e5db47f79c75198e413dc1dcd40f0a25e344024a3295d3af", func := "actuary/actuarylaw07.IntegerDivs", spec := "integerDivs", inPlace := ["internal/abi.NoEscape"], apart := false, narrowed := true }
def IntegerDivsUptoSaid : Prop := integerDivsUptoRow.holds Try.pinned (OpenSpec.upto integerDivsSpec)

/-- 'actuarylaw07.IntegerReads', WHERE WHAT IT READS IS OF BULK AT MOST 1048576: true; the input reads as it did. -/
def integerReadsUptoRow : OpenClaim := { program := "ytihbpkljjmpkjaa", sum := "9078f6684def68a0e5db47f79c75198e413dc1dcd40f0a25e344024a3295d3af", func := "actuary/actuarylaw07.IntegerReads", spec := "integerReads", inPlace := ["internal/abi.NoEscape"], apart := false, narrowed := true }
def IntegerReadsUptoSaid : Prop := integerReadsUptoRow.holds Try.pinned (OpenSpec.upto integerReadsSpec)

/-- 'actuarylaw07.IntegerTexts', WHERE WHAT IT READS IS OF BULK AT MOST 1048576: true; the input reads as it did. -/
def integerTextsUptoRow : OpenClaim := { program := "ytihbpkljjmpkjaa", sum := "9078f6684def68a0e5db47f79c75198e413dc1dcd40f0a25e344024a3295d3af", func := "actuary/actuarylaw07.IntegerTexts", spec := "integerTexts", inPlace := ["internal/abi.NoEscape"], apart := false, narrowed := true }
def IntegerTextsUptoSaid : Prop := integerTextsUptoRow.holds Try.pinned (OpenSpec.upto integerTextsSpec)

/-- 'actuarylaw07.IntegerOrder', WHERE WHAT IT READS IS OF BULK AT MOST 1048576: true; the input reads as it did. -/
def integerOrderUptoRow : OpenClaim := { program := "ytihbpkljjmpkjaa", sum := "9078f6684def68a0e5db47f79c75198e413dc1dcd40f0a25e344024a3295d3af", func := "actuary/actuarylaw07.IntegerOrder", spec := "integerOrder", inPlace := ["internal/abi.NoEscape"], apart := false, narrowed := true }
def IntegerOrderUptoSaid : Prop := integerOrderUptoRow.holds Try.pinned (OpenSpec.upto integerOrderSpec)

/-- 'actuarylaw07.IntegerInts', WHERE WHAT IT READS IS OF BULK AT MOST 1048576: true; the input reads as it did. -/
def integerIntsUptoRow : OpenClaim := { program := "ytihbpkljjmpkjaa", sum := "9078f6684def68a0e5db47f79c75198e413dc1dcd40f0a25e344024a3295d3af", func := "actuary/actuarylaw07.IntegerInts", spec := "integerInts", inPlace := ["internal/abi.NoEscape"], recurses := true, apart := false, narrowed := true }
def IntegerIntsUptoSaid : Prop := integerIntsUptoRow.holds Try.pinned (OpenSpec.upto integerIntsSpec)

/-- 'actuarylaw07.IntegerRing', WHERE WHAT IT READS IS OF BULK AT MOST 1048576: true; the input reads as it did. -/
def integerRingUptoRow : OpenClaim := { program := "ytihbpkljjmpkjaa", sum := "9078f6684def68a0e5db47f79c75198e413dc1dcd40f0a25e344024a3295d3af", func := "actuary/actuarylaw07.IntegerRing", spec := "integerRing", inPlace := ["internal/abi.NoEscape"], recurses := true, apart := false, narrowed := true }
def IntegerRingUptoSaid : Prop := integerRingUptoRow.holds Try.pinned (OpenSpec.upto integerRingSpec)

/-- 'actuarylaw07.IntegerBack', WHERE WHAT IT READS IS OF BULK AT MOST 1048576: true; the input reads as it did. -/
def integerBackUptoRow : OpenClaim := { program := "ytihbpkljjmpkjaa", sum := "9078f6684def68a0e5db47f79c75198e413dc1dcd40f0a25e344024a3295d3af", func := "actuary/actuarylaw07.IntegerBack", spec := "integerBack", inPlace := ["internal/abi.NoEscape"], recurses := true, apart := false, narrowed := true }
def IntegerBackUptoSaid : Prop := integerBackUptoRow.holds Try.pinned (OpenSpec.upto integerBackSpec)

/-- 'actuarylaw07.IntegerSums', WHERE WHAT IT READS IS OF BULK AT MOST 1048576: true; the input reads as it did. -/
def integerSumsUptoRow : OpenClaim := { program := "ytihbpkljjmpkjaa", sum := "9078f6684def68a0e5db47f79c75198e413dc1dcd40f0a25e344024a3295d3af", func := "actuary/actuarylaw07.IntegerSums", spec := "integerSums", inPlace := ["internal/abi.NoEscape"], recurses := true, apart := false, narrowed := true }
def IntegerSumsUptoSaid : Prop := integerSumsUptoRow.holds Try.pinned (OpenSpec.upto integerSumsSpec)

end Rows
end Go.Proofs.Ytihbpkljjmpkjaa
