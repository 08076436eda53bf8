/-
  No cell of these rows narrows 'for every input' (looked for: loops, veiled, ifaces, maps, wideKeys, modest, calm, conditions, laid).
  DERIVED. THE GIVEN ROWS OF THIS SEAT. 12 by the template 'for every input the law returns true; each argument reads behind the call as it read before'; 0 by the template 'total and deterministic' (their statements: YtnhcanpogmhjpaaTotals.lean).
  GIVEN WITH THE SEED: the statements are not yours to turn. If you find one false, say at which input.
  Laid BY PROGRAM, IN A SANDBOX (cutbox-rows.mjs): the forced cells as the released guide's own fill.sh prints them over the translation 554911b443596e3f… (all of the seat's roots in one cut). By AI agents, Wed Nov 11 2026. No macro, syntax, notation, axiom, sorry.
-/
import Derived.Test.YtnhcanpogmhjpaaChecked
import GoSem.Claim
import GoSem.ClaimJoined
import GoSem.ClaimMapViews
import Derived.JoinedTies
import Derived.KernelRfl
namespace Go.Proofs.Ytnhcanpogmhjpaa
/- THE CELL 'sum', in the pinned program and in every row, IS THE sha256 OF THE DUMP (.gsa) THAT YtnhcanpogmhjpaaProg.lean LOADS. Nothing in Lean hashes anything: it is a label: what it is worth is what the hold of that sum in a sandbox is worth. -/
noncomputable def Try.pinned : Pinned := { name := "ytnhcanpogmhjpaa", sum := "554911b443596e3f22e7a145bee2cebc68db62d00545a87fbc3a8fc312bf876f", checked := Try.checked }
namespace Rows
def none {H : Type} : Left H := { results := [], args := [] }

/-- 'actuarylaw01.WordSums': WHATEVER THE INPUT: true; the input reads as it did. -/
def wordSumsSpec : ChangeSpec := { name := "wordSums", fn := fun _ => fun
  | [d1, d2, d3] => { results := [.lit (.bool true)], args := [d1, d2, d3] }
  | _ => none }
def wordSumsRow : OpenClaim := { program := "ytnhcanpogmhjpaa", sum := "554911b443596e3f22e7a145bee2cebc68db62d00545a87fbc3a8fc312bf876f", func := "actuary/actuarylaw01.WordSums", spec := "wordSums", apart := false }
def WordSumsSaid : Prop := wordSumsRow.holds Try.pinned (OpenSpec.ofChange wordSumsSpec)

/-- ITS FALSE NEIGHBOUR: 'it returns false'. Refute it at one input. -/
def wordSumsWrong : ChangeSpec := { name := "wordSums", fn := fun _ => fun
  | [d1, d2, d3] => { results := [.lit (.bool false)], args := [d1, d2, d3] }
  | _ => none }
def WordSumsWrongFalsely : Prop := wordSumsRow.holds Try.pinned (OpenSpec.ofChange wordSumsWrong)

/-- 'actuarylaw01.WordLens': WHATEVER THE INPUT: true; the input reads as it did. -/
def wordLensSpec : ChangeSpec := { name := "wordLens", fn := fun _ => fun
  | [d] => { results := [.lit (.bool true)], args := [d] }
  | _ => none }
def wordLensRow : OpenClaim := { program := "ytnhcanpogmhjpaa", sum := "554911b443596e3f22e7a145bee2cebc68db62d00545a87fbc3a8fc312bf876f", func := "actuary/actuarylaw01.WordLens", spec := "wordLens", apart := false }
def WordLensSaid : Prop := wordLensRow.holds Try.pinned (OpenSpec.ofChange wordLensSpec)

/-- ITS FALSE NEIGHBOUR: 'it returns false'. Refute it at one input. -/
def wordLensWrong : ChangeSpec := { name := "wordLens", fn := fun _ => fun
  | [d] => { results := [.lit (.bool false)], args := [d] }
  | _ => none }
def WordLensWrongFalsely : Prop := wordLensRow.holds Try.pinned (OpenSpec.ofChange wordLensWrong)

/-- 'actuarylaw01.WordBack': WHATEVER THE INPUT: true; the input reads as it did. -/
def wordBackSpec : ChangeSpec := { name := "wordBack", fn := fun _ => fun
  | [d1, d2, d3] => { results := [.lit (.bool true)], args := [d1, d2, d3] }
  | _ => none }
def wordBackRow : OpenClaim := { program := "ytnhcanpogmhjpaa", sum := "554911b443596e3f22e7a145bee2cebc68db62d00545a87fbc3a8fc312bf876f", func := "actuary/actuarylaw01.WordBack", spec := "wordBack", apart := false }
def WordBackSaid : Prop := wordBackRow.holds Try.pinned (OpenSpec.ofChange wordBackSpec)

/-- ITS FALSE NEIGHBOUR: 'it returns false'. Refute it at one input. -/
def wordBackWrong : ChangeSpec := { name := "wordBack", fn := fun _ => fun
  | [d1, d2, d3] => { results := [.lit (.bool false)], args := [d1, d2, d3] }
  | _ => none }
def WordBackWrongFalsely : Prop := wordBackRow.holds Try.pinned (OpenSpec.ofChange wordBackWrong)

/-- 'actuarylaw01.WordTurns': WHATEVER THE INPUT: true; the input reads as it did. -/
def wordTurnsSpec : ChangeSpec := { name := "wordTurns", fn := fun _ => fun
  | [d1, d2] => { results := [.lit (.bool true)], args := [d1, d2] }
  | _ => none }
def wordTurnsRow : OpenClaim := { program := "ytnhcanpogmhjpaa", sum := "554911b443596e3f22e7a145bee2cebc68db62d00545a87fbc3a8fc312bf876f", func := "actuary/actuarylaw01.WordTurns", spec := "wordTurns", apart := false }
def WordTurnsSaid : Prop := wordTurnsRow.holds Try.pinned (OpenSpec.ofChange wordTurnsSpec)

/-- ITS FALSE NEIGHBOUR: 'it returns false'. Refute it at one input. -/
def wordTurnsWrong : ChangeSpec := { name := "wordTurns", fn := fun _ => fun
  | [d1, d2] => { results := [.lit (.bool false)], args := [d1, d2] }
  | _ => none }
def WordTurnsWrongFalsely : Prop := wordTurnsRow.holds Try.pinned (OpenSpec.ofChange wordTurnsWrong)

/-- 'actuarylaw01.WordShifts': WHATEVER THE INPUT: true; the input reads as it did. -/
def wordShiftsSpec : ChangeSpec := { name := "wordShifts", fn := fun _ => fun
  | [d] => { results := [.lit (.bool true)], args := [d] }
  | _ => none }
def wordShiftsRow : OpenClaim := { program := "ytnhcanpogmhjpaa", sum := "554911b443596e3f22e7a145bee2cebc68db62d00545a87fbc3a8fc312bf876f", func := "actuary/actuarylaw01.WordShifts", spec := "wordShifts", apart := false }
def WordShiftsSaid : Prop := wordShiftsRow.holds Try.pinned (OpenSpec.ofChange wordShiftsSpec)

/-- ITS FALSE NEIGHBOUR: 'it returns false'. Refute it at one input. -/
def wordShiftsWrong : ChangeSpec := { name := "wordShifts", fn := fun _ => fun
  | [d] => { results := [.lit (.bool false)], args := [d] }
  | _ => none }
def WordShiftsWrongFalsely : Prop := wordShiftsRow.holds Try.pinned (OpenSpec.ofChange wordShiftsWrong)

/-- 'actuarylaw01.WordMuls': WHATEVER THE INPUT: true; the input reads as it did. -/
def wordMulsSpec : ChangeSpec := { name := "wordMuls", fn := fun _ => fun
  | [d1, d2, d3, d4] => { results := [.lit (.bool true)], args := [d1, d2, d3, d4] }
  | _ => none }
def wordMulsRow : OpenClaim := { program := "ytnhcanpogmhjpaa", sum := "554911b443596e3f22e7a145bee2cebc68db62d00545a87fbc3a8fc312bf876f", func := "actuary/actuarylaw01.WordMuls", spec := "wordMuls", apart := false }
def WordMulsSaid : Prop := wordMulsRow.holds Try.pinned (OpenSpec.ofChange wordMulsSpec)

/-- ITS FALSE NEIGHBOUR: 'it returns false'. Refute it at one input. -/
def wordMulsWrong : ChangeSpec := { name := "wordMuls", fn := fun _ => fun
  | [d1, d2, d3, d4] => { results := [.lit (.bool false)], args := [d1, d2, d3, d4] }
  | _ => none }
def WordMulsWrongFalsely : Prop := wordMulsRow.holds Try.pinned (OpenSpec.ofChange wordMulsWrong)

/-- 'actuarylaw01.WordDivs': WHATEVER THE INPUT: true; the input reads as it did. -/
def wordDivsSpec : ChangeSpec := { name := "wordDivs", fn := fun _ => fun
  | [d1, d2, d3] => { results := [.lit (.bool true)], args := [d1, d2, d3] }
  | _ => none }
def wordDivsRow : OpenClaim := { program := "ytnhcanpogmhjpaa", sum := "554911b443596e3f22e7a145bee2cebc68db62d00545a87fbc3a8fc312bf876f", func := "actuary/actuarylaw01.WordDivs", spec := "wordDivs", apart := false }
def WordDivsSaid : Prop := wordDivsRow.holds Try.pinned (OpenSpec.ofChange wordDivsSpec)

/-- ITS FALSE NEIGHBOUR: 'it returns false'. Refute it at one input. -/
def wordDivsWrong : ChangeSpec := { name := "wordDivs", fn := fun _ => fun
  | [d1, d2, d3] => { results := [.lit (.bool false)], args := [d1, d2, d3] }
  | _ => none }
def WordDivsWrongFalsely : Prop := wordDivsRow.holds Try.pinned (OpenSpec.ofChange wordDivsWrong)

/-- 'actuarylaw02.NatOrder': WHATEVER THE INPUT: true; the input reads as it did. -/
def natOrderSpec : ChangeSpec := { name := "natOrder", fn := fun _ => fun
  | [d1, d2, d3] => { results := [.lit (.bool true)], args := [d1, d2, d3] }
  | _ => none }
def natOrderRow : OpenClaim := { program := "ytnhcanpogmhjpaa", sum := "554911b443596e3f22e7a145bee2cebc68db62d00545a87fbc3a8fc312bf876f", func := "actuary/actuarylaw02.NatOrder", spec := "natOrder", apart := false }
def NatOrderSaid : Prop := natOrderRow.holds Try.pinned (OpenSpec.ofChange natOrderSpec)

/-- ITS FALSE NEIGHBOUR: 'it returns false'. Refute it at one input. -/
def natOrderWrong : ChangeSpec := { name := "natOrder", fn := fun _ => fun
  | [d1, d2, d3] => { results := [.lit (.bool false)], args := [d1, d2, d3] }
  | _ => none }
def NatOrderWrongFalsely : Prop := natOrderRow.holds Try.pinned (OpenSpec.ofChange natOrderWrong)

/-- 'actuarylaw02.NatBack': WHATEVER THE INPUT: true; the input reads as it did. -/
def natBackSpec : ChangeSpec := { name := "natBack", fn := fun _ => fun
  | [d1, d2, d3] => { results := [.lit (.bool true)], args := [d1, d2, d3] }
  | _ => none }
def natBackRow : OpenClaim := { program := "ytnhcanpogmhjpaa", sum := "554911b443596e3f22e7a145bee2cebc68db62d00545a87fbc3a8fc312bf876f", func := "actuary/actuarylaw02.NatBack", spec := "natBack", apart := false }
def NatBackSaid : Prop := natBackRow.holds Try.pinned (OpenSpec.ofChange natBackSpec)

/-- ITS FALSE NEIGHBOUR: 'it returns false'. Refute it at one input. -/
def natBackWrong : ChangeSpec := { name := "natBack", fn := fun _ => fun
  | [d1, d2, d3] => { results := [.lit (.bool false)], args := [d1, d2, d3] }
  | _ => none }
def NatBackWrongFalsely : Prop := natBackRow.holds Try.pinned (OpenSpec.ofChange natBackWrong)

/-- 'actuarylaw02.NatSums': WHATEVER THE INPUT: true; the input reads as it did. -/
def natSumsSpec : ChangeSpec := { name := "natSums", fn := fun _ => fun
  | [d1, d2] => { results := [.lit (.bool true)], args := [d1, d2] }
  | _ => none }
def natSumsRow : OpenClaim := { program := "ytnhcanpogmhjpaa", sum := "554911b443596e3f22e7a145bee2cebc68db62d00545a87fbc3a8fc312bf876f", func := "actuary/actuarylaw02.NatSums", spec := "natSums", apart := false }
def NatSumsSaid : Prop := natSumsRow.holds Try.pinned (OpenSpec.ofChange natSumsSpec)

/-- ITS FALSE NEIGHBOUR: 'it returns false'. Refute it at one input. -/
def natSumsWrong : ChangeSpec := { name := "natSums", fn := fun _ => fun
  | [d1, d2] => { results := [.lit (.bool false)], args := [d1, d2] }
  | _ => none }
def NatSumsWrongFalsely : Prop := natSumsRow.holds Try.pinned (OpenSpec.ofChange natSumsWrong)

/-- 'actuarylaw02.NatShifts': WHATEVER THE INPUT: true; the input reads as it did. -/
def natShiftsSpec : ChangeSpec := { name := "natShifts", fn := fun _ => fun
  | [d1, d2] => { results := [.lit (.bool true)], args := [d1, d2] }
  | _ => none }
def natShiftsRow : OpenClaim := { program := "ytnhcanpogmhjpaa", sum := "554911b443596e3f22e7a145bee2cebc68db62d00545a87fbc3a8fc312bf876f", func := "actuary/actuarylaw02.NatShifts", spec := "natShifts", apart := false }
def NatShiftsSaid : Prop := natShiftsRow.holds Try.pinned (OpenSpec.ofChange natShiftsSpec)

/-- ITS FALSE NEIGHBOUR: 'it returns false'. Refute it at one input. -/
def natShiftsWrong : ChangeSpec := { name := "natShifts", fn := fun _ => fun
  | [d1, d2] => { results := [.lit (.bool false)], args := [d1, d2] }
  | _ => none }
def NatShiftsWrongFalsely : Prop := natShiftsRow.holds Try.pinned (OpenSpec.ofChange natShiftsWrong)

/-- 'actuarylaw02.NatParts': WHATEVER THE INPUT: true; the input reads as it did. -/
def natPartsSpec : ChangeSpec := { name := "natParts", fn := fun _ => fun
  | [d1, d2] => { results := [.lit (.bool true)], args := [d1, d2] }
  | _ => none }
def natPartsRow : OpenClaim := { program := "ytnhcanpogmhjpaa", sum := "554911b443596e3f22e7a145bee2cebc68db62d00545a87fbc3a8fc312bf876f", func := "actuary/actuarylaw02.NatParts", spec := "natParts", apart := false }
def NatPartsSaid : Prop := natPartsRow.holds Try.pinned (OpenSpec.ofChange natPartsSpec)

/-- ITS FALSE NEIGHBOUR: 'it returns false'. Refute it at one input. -/
def natPartsWrong : ChangeSpec := { name := "natParts", fn := fun _ => fun
  | [d1, d2] => { results := [.lit (.bool false)], args := [d1, d2] }
  | _ => none }
def NatPartsWrongFalsely : Prop := natPartsRow.holds Try.pinned (OpenSpec.ofChange natPartsWrong)

/- THE SECOND FORM. 'bulk': how many values and letters a reading holds, each counted each time it is reached (what is shared counts as often as it is met; a slice's spare places count too). A statement '..UptoSaid' is the law's where the arguments, and the package variables that the reading takes, are together of bulk at most 1048576: NARROWER than '..Said'. Prove '..Said' where nothing that the law and all that it calls make is longer than what came in: it says more and counts as full. Else prove '..UptoSaid'. A law counts once. -/
mutual
def uptoBulk {H : Type} : DataW H → Nat
  | .lit (.string bytes) => bytes.length + 1
  | .lit _ => 1
  | .nil => 1
  | .ptr d => uptoBulk d + 1
  | .slice elems spare => uptoBulkAll elems + uptoBulkAll spare + 1
  | .agg parts => uptoBulkAll parts + 1
  | .iface _ d => uptoBulk d + 1
  | .map entries => uptoBulkEntries entries + 1
  | .held _ => 1
def uptoBulkAll {H : Type} : List (DataW H) → Nat
  | [] => 0
  | d :: r => uptoBulk d + uptoBulkAll r
def uptoBulkEntries {H : Type} : List (Lit × DataW H) → Nat
  | [] => 0
  | x :: r => uptoBulkEntry x + uptoBulkEntries r
def uptoBulkEntry {H : Type} : Lit × DataW H → Nat
  | (.string bytes, d) => bytes.length + uptoBulk d + 1
  | (_, d) => uptoBulk d + 1
 end
def uptoSmall : (H : Type) → List (DataW H) → Bool := fun _ ds => decide (uptoBulkAll ds ≤ 1048576)
def OpenSpec.upto (s : _root_.Go.ChangeSpec) : _root_.Go.OpenSpec := { _root_.Go.OpenSpec.ofChange s with cond := some uptoSmall }

/-- 'actuarylaw01.WordSums', WHERE WHAT IT READS IS OF BULK AT MOST 1048576: true; the input reads as it did. -/
def wordSumsUptoRow : OpenClaim := { program := "ytnhcanpogmhjpaa", sum := "554911b443596e3f22e7a145bee2cebc68db62d00545a87fbc3a8fc312bf876f", func := "actuary/actuarylaw01.WordSums", spec := "wordSums", apart := false, narrowed := true }
def WordSumsUptoSaid : Prop := wordSumsUptoRow.holds Try.pinned (OpenSpec.upto wordSumsSpec)

/-- 'actuarylaw01.WordLens', WHERE WHAT IT READS IS OF BULK AT MOST 1048576: true; the input reads as it did. -/
def wordLensUptoRow : OpenClaim := { program := "ytnhcanpogmhjpaa", sum := "554911b443596e3f22e7a145bee2cebc68db62d00545a87fbc3a8fc312bf876f", func := "actuary/actuarylaw01.WordLens", spec := "wordLens", apart := false, narrowed := true }
def WordLensUptoSaid : Prop := wordLensUptoRow.holds Try.pinned (OpenSpec.upto wordLensSpec)

/-- 'actuarylaw01.WordBack', WHERE WHAT IT READS IS OF BULK AT MOST 1048576: true; the input reads as it did. -/
def wordBackUptoRow : OpenClaim := { program := "ytnhcanpogmhjpaa", sum := "554911b443596e3f22e7a145bee2cebc68db62d00545a87fbc3a8fc312bf876f", func := "actuary/actuarylaw01.WordBack", spec := "wordBack", apart := false, narrowed := true }
def WordBackUptoSaid : Prop := wordBackUptoRow.holds Try.pinned (OpenSpec.upto wordBackSpec)

/-- 'actuarylaw01.WordTurns', WHERE WHAT IT READS IS OF BULK AT MOST 1048576: true; the input reads as it did. -/
def wordTurnsUptoRow : OpenClaim := { program := "ytnhcanpogmhjpaa", sum := "554911b443596e3f22e7a145bee2cebc68db62d00545a87fbc3a8fc312bf876f", func := "actuary/actuarylaw01.WordTurns", spec := "wordTurns", apart := false, narrowed := true }
def WordTurnsUptoSaid : Prop := wordTurnsUptoRow.holds Try.pinned (OpenSpec.upto wordTurnsSpec)

/-- 'actuarylaw01.WordShifts', WHERE WHAT IT READS IS OF BULK AT MOST 1048576: true; the input reads as it did. -/
def wordShiftsUptoRow : OpenClaim := { program := "ytnhcanpogmhjpaa", sum := "554911b443596e3f22e7a145bee2cebc68db62d00545a87fbc3a8fc312bf876f", func := "actuary/actuarylaw01.WordShifts", spec := "wordShifts", apart := false, narrowed := true }
def WordShiftsUptoSaid : Prop := wordShiftsUptoRow.holds Try.pinned (OpenSpec.upto wordShiftsSpec)

/-- 'actuarylaw01.WordMuls', WHERE WHAT IT READS IS OF BULK AT MOST 1048576: true; the input reads as it did. -/
def wordMulsUptoRow : OpenClaim := { program := "ytnhcanpogmhjpaa", sum := "554911b443596e3f22e7a145bee2cebc68db62d00545a87fbc3a8fc312bf876f", func := "actuary/actuarylaw01.WordMuls", spec := "wordMuls", apart := false, narrowed := true }
def WordMulsUptoSaid : Prop := wordMulsUptoRow.holds Try.pinned (OpenSpec.upto wordMulsSpec)

/-- 'actuarylaw01.WordDivs', WHERE WHAT IT READS IS OF BULK AT MOST 1048576: true; the input reads as it did. -/
def wordDivsUptoRow : OpenClaim := { program := "ytnhcanpogmhjpaa", sum := "554911b443596e3f22e7a145bee2cebc68db62d00545a87fbc3a8fc312bf876f", func := "actuary/actuarylaw01.WordDivs", spec := "wordDivs", apart := false, narrowed := true }
def WordDivsUptoSaid : Prop := wordDivsUptoRow.holds Try.pinned (OpenSpec.upto wordDivsSpec)

/-- 'actuarylaw02.NatOrder', WHERE WHAT IT READS IS OF BULK AT MOST 1048576: true; the input reads as it did. -/
def natOrderUptoRow : OpenClaim := { program := "ytnhcanpogmhjpaa", sum := "554911b443596e3f22e7a145bee2cebc68db62d00545a87fbc3a8fc312bf876f", func := "actuary/actuarylaw02.NatOrder", spec := "natOrder", apart := false, narrowed := true }
def NatOrderUptoSaid : Prop := natOrderUptoRow.holds Try.pinned (OpenSpec.upto natOrderSpec)

/-- 'actuarylaw02.NatBack', WHERE WHAT IT READS IS OF BULK AT MOST 1048576: true; the input reads as it did. -/
def natBackUptoRow : OpenClaim := { program := "ytnhcanpogmhjpaa", sum := "554911b443596e3f22e7a145bee2cebc68db62d00545a87fbc3a8fc312bf876f", func := "actuary/actuarylaw02.NatBack", spec := "natBack", apart := false, narrowed := true }
def NatBackUptoSaid : Prop := natBackUptoRow.holds Try.pinned (OpenSpec.upto natBackSpec)

/-- 'actuarylaw02.NatSums', WHERE WHAT IT READS IS OF BULK AT MOST 1048576: true; the input reads as it did. -/
def natSumsUptoRow : OpenClaim := { program := "ytnhcanpogmhjpaa", sum := "554911b443596e3f22e7a145bee2cebc68db62d00545a87fbc3a8fc312bf876f", func := "actuary/actuarylaw02.NatSums", spec := "natSums", apart := false, narrowed := true }
def NatSumsUptoSaid : Prop := natSumsUptoRow.holds Try.pinned (OpenSpec.upto natSumsSpec)

/-- 'actuarylaw02.NatShifts', WHERE WHAT IT READS IS OF BULK AT MOST 1048576: true; the input reads as it did. -/
def natShiftsUptoRow : OpenClaim := { program := "ytnhcanpogmhjpaa", sum := "554911b443596e3f22e7a145bee2cebc68db62d00545a87fbc3a8fc312bf876f", func := "actuary/actuarylaw02.NatShifts", spec := "natShifts", apart := false, narrowed := true }
def NatShiftsUptoSaid : Prop := natShiftsUptoRow.holds Try.pinned (OpenSpec.upto natShiftsSpec)

/-- 'actuarylaw02.NatParts', WHERE WHAT IT READS IS OF BULK AT MOST 1048576: true; the input reads as it did. -/
def natPartsUptoRow : OpenClaim := { program := "ytnhcanpogmhjpaa", sum := "554911b443596e3f22e7a145bee2cebc68db62d00545a87fbc3a8fc312bf876f", func := "actuary/actuarylaw02.NatParts", spec := "natParts", apart := false, narrowed := true }
def NatPartsUptoSaid : Prop := natPartsUptoRow.holds Try.pinned (OpenSpec.upto natPartsSpec)

end Rows
end Go.Proofs.Ytnhcanpogmhjpaa
