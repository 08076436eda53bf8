/-
  No cell of these rows narrows 'for every input' (looked for: loops, veiled, ifaces, maps, wideKeys, modest, calm, conditions, laid).
  DERIVED. THE GIVEN ROWS OF THIS SEAT. 10 by the template 'for every input the law returns true; each argument reads behind the call as it read before'; 0 by the template 'total and deterministic' (their statements: YtfalfbidcebmgaaTotals.lean).
  GIVEN WITH THE SEED: the statements are not yours to turn. If you find one false, say at which input.
  Laid BY PROGRAM, IN A SANDBOX (cutbox-rows.mjs): the forced cells as the released guide's own fill.sh prints them over the translation ddb2a823d21b5382… (all of the seat's roots in one cut). By AI agents, Wed Nov 11 2026. No macro, syntax, notation, axiom, sorry.
-/
import Derived.Test.YtfalfbidcebmgaaChecked
import GoSem.Claim
import GoSem.ClaimJoined
import GoSem.ClaimMapViews
import Derived.JoinedTies
import Derived.KernelRfl
namespace Go.Proofs.Ytfalfbidcebmgaa
/- THE CELL 'sum', in the pinned program and in every row, IS THE sha256 OF THE DUMP (.gsa) THAT YtfalfbidcebmgaaProg.lean LOADS. Nothing in Lean hashes anything: it is a label: what it is worth is what the hold of that sum in a sandbox is worth. -/
noncomputable def Try.pinned : Pinned := { name := "ytfalfbidcebmgaa", sum := "ddb2a823d21b53825ef793ea9bf0d1301a19ea7859cf0546ea72a0d0d3ea79a0", checked := Try.checked }
namespace Rows
def none {H : Type} : Left H := { results := [], args := [] }

/-- 'actuarylaw02.NatSums': WHATEVER THE INPUT: true; the input reads as it did. -/
def natSumsSpec : ChangeSpec := { name := "natSums", fn := fun _ => fun
  | [d1, d2] => { results := [.lit (.bool true)], args := [d1, d2] }
  | _ => none }
def natSumsRow : OpenClaim := { program := "ytfalfbidcebmgaa", sum := "ddb2a823d21b53825ef793ea9bf0d1301a19ea7859cf0546ea72a0d0d3ea79a0", func := "actuary/actuarylaw02.NatSums", spec := "natSums", apart := false }
def NatSumsSaid : Prop := natSumsRow.holds Try.pinned (OpenSpec.ofChange natSumsSpec)

/-- ITS FALSE NEIGHBOUR: 'it returns false'. Refute it at one input. -/
def natSumsWrong : ChangeSpec := { name := "natSums", fn := fun _ => fun
  | [d1, d2] => { results := [.lit (.bool false)], args := [d1, d2] }
  | _ => none }
def NatSumsWrongFalsely : Prop := natSumsRow.holds Try.pinned (OpenSpec.ofChange natSumsWrong)

/-- 'actuarylaw02.NatShifts': WHATEVER THE INPUT: true; the input reads as it did. -/
def natShiftsSpec : ChangeSpec := { name := "natShifts", fn := fun _ => fun
  | [d1, d2] => { results := [.lit (.bool true)], args := [d1, d2] }
  | _ => none }
def natShiftsRow : OpenClaim := { program := "ytfalfbidcebmgaa", sum := "ddb2a823d21b53825ef793ea9bf0d1301a19ea7859cf0546ea72a0d0d3ea79a0", func := "actuary/actuarylaw02.NatShifts", spec := "natShifts", apart := false }
def NatShiftsSaid : Prop := natShiftsRow.holds Try.pinned (OpenSpec.ofChange natShiftsSpec)

/-- ITS FALSE NEIGHBOUR: 'it returns false'. Refute it at one input. -/
def natShiftsWrong : ChangeSpec := { name := "natShifts", fn := fun _ => fun
  | [d1, d2] => { results := [.lit (.bool false)], args := [d1, d2] }
  | _ => none }
def NatShiftsWrongFalsely : Prop := natShiftsRow.holds Try.pinned (OpenSpec.ofChange natShiftsWrong)

/-- 'actuarylaw02.NatTells': WHATEVER THE INPUT: true; the input reads as it did. -/
def natTellsSpec : ChangeSpec := { name := "natTells", fn := fun _ => fun
  | [d1, d2] => { results := [.lit (.bool true)], args := [d1, d2] }
  | _ => none }
def natTellsRow : OpenClaim := { program := "ytfalfbidcebmgaa", sum := "ddb2a823d21b53825ef793ea9bf0d1301a19ea7859cf0546ea72a0d0d3ea79a0", func := "actuary/actuarylaw02.NatTells", spec := "natTells", apart := false }
def NatTellsSaid : Prop := natTellsRow.holds Try.pinned (OpenSpec.ofChange natTellsSpec)

/-- ITS FALSE NEIGHBOUR: 'it returns false'. Refute it at one input. -/
def natTellsWrong : ChangeSpec := { name := "natTells", fn := fun _ => fun
  | [d1, d2] => { results := [.lit (.bool false)], args := [d1, d2] }
  | _ => none }
def NatTellsWrongFalsely : Prop := natTellsRow.holds Try.pinned (OpenSpec.ofChange natTellsWrong)

/-- 'actuarylaw03.ProdSpreads': WHATEVER THE INPUT: true; the input reads as it did. -/
def prodSpreadsSpec : ChangeSpec := { name := "prodSpreads", fn := fun _ => fun
  | [d1, d2, d3] => { results := [.lit (.bool true)], args := [d1, d2, d3] }
  | _ => none }
def prodSpreadsRow : OpenClaim := { program := "ytfalfbidcebmgaa", sum := "ddb2a823d21b53825ef793ea9bf0d1301a19ea7859cf0546ea72a0d0d3ea79a0", func := "actuary/actuarylaw03.ProdSpreads", spec := "prodSpreads", recurses := true, apart := false }
def ProdSpreadsSaid : Prop := prodSpreadsRow.holds Try.pinned (OpenSpec.ofChange prodSpreadsSpec)

/-- ITS FALSE NEIGHBOUR: 'it returns false'. Refute it at one input. -/
def prodSpreadsWrong : ChangeSpec := { name := "prodSpreads", fn := fun _ => fun
  | [d1, d2, d3] => { results := [.lit (.bool false)], args := [d1, d2, d3] }
  | _ => none }
def ProdSpreadsWrongFalsely : Prop := prodSpreadsRow.holds Try.pinned (OpenSpec.ofChange prodSpreadsWrong)

/-- 'actuarylaw03.ProdMuls': WHATEVER THE INPUT: true; the input reads as it did. -/
def prodMulsSpec : ChangeSpec := { name := "prodMuls", fn := fun _ => fun
  | [d1, d2, d3, d4] => { results := [.lit (.bool true)], args := [d1, d2, d3, d4] }
  | _ => none }
def prodMulsRow : OpenClaim := { program := "ytfalfbidcebmgaa", sum := "ddb2a823d21b53825ef793ea9bf0d1301a19ea7859cf0546ea72a0d0d3ea79a0", func := "actuary/actuarylaw03.ProdMuls", spec := "prodMuls", recurses := true, apart := false }
def ProdMulsSaid : Prop := prodMulsRow.holds Try.pinned (OpenSpec.ofChange prodMulsSpec)

/-- ITS FALSE NEIGHBOUR: 'it returns false'. Refute it at one input. -/
def prodMulsWrong : ChangeSpec := { name := "prodMuls", fn := fun _ => fun
  | [d1, d2, d3, d4] => { results := [.lit (.bool false)], args := [d1, d2, d3, d4] }
  | _ => none }
def ProdMulsWrongFalsely : Prop := prodMulsRow.holds Try.pinned (OpenSpec.ofChange prodMulsWrong)

/-- 'actuarylaw03.ProdPows': WHATEVER THE INPUT: true; the input reads as it did. -/
def prodPowsSpec : ChangeSpec := { name := "prodPows", fn := fun _ => fun
  | [d1, d2] => { results := [.lit (.bool true)], args := [d1, d2] }
  | _ => none }
def prodPowsRow : OpenClaim := { program := "ytfalfbidcebmgaa", sum := "ddb2a823d21b53825ef793ea9bf0d1301a19ea7859cf0546ea72a0d0d3ea79a0", func := "actuary/actuarylaw03.ProdPows", spec := "prodPows", recurses := true, apart := false }
def ProdPowsSaid : Prop := prodPowsRow.holds Try.pinned (OpenSpec.ofChange prodPowsSpec)

/-- ITS FALSE NEIGHBOUR: 'it returns false'. Refute it at one input. -/
def prodPowsWrong : ChangeSpec := { name := "prodPows", fn := fun _ => fun
  | [d1, d2] => { results := [.lit (.bool false)], args := [d1, d2] }
  | _ => none }
def ProdPowsWrongFalsely : Prop := prodPowsRow.holds Try.pinned (OpenSpec.ofChange prodPowsWrong)

/-- 'actuarylaw03.ProdTurns': WHATEVER THE INPUT: true; the input reads as it did. -/
def prodTurnsSpec : ChangeSpec := { name := "prodTurns", fn := fun _ => fun
  | [d1, d2, d3] => { results := [.lit (.bool true)], args := [d1, d2, d3] }
  | _ => none }
def prodTurnsRow : OpenClaim := { program := "ytfalfbidcebmgaa", sum := "ddb2a823d21b53825ef793ea9bf0d1301a19ea7859cf0546ea72a0d0d3ea79a0", func := "actuary/actuarylaw03.ProdTurns", spec := "prodTurns", recurses := true, apart := false }
def ProdTurnsSaid : Prop := prodTurnsRow.holds Try.pinned (OpenSpec.ofChange prodTurnsSpec)

/-- ITS FALSE NEIGHBOUR: 'it returns false'. Refute it at one input. -/
def prodTurnsWrong : ChangeSpec := { name := "prodTurns", fn := fun _ => fun
  | [d1, d2, d3] => { results := [.lit (.bool false)], args := [d1, d2, d3] }
  | _ => none }
def ProdTurnsWrongFalsely : Prop := prodTurnsRow.holds Try.pinned (OpenSpec.ofChange prodTurnsWrong)

/-- 'actuarylaw03.ProdBits': WHATEVER THE INPUT: true; the input reads as it did. -/
def prodBitsSpec : ChangeSpec := { name := "prodBits", fn := fun _ => fun
  | [d1, d2] => { results := [.lit (.bool true)], args := [d1, d2] }
  | _ => none }
def prodBitsRow : OpenClaim := { program := "ytfalfbidcebmgaa", sum := "ddb2a823d21b53825ef793ea9bf0d1301a19ea7859cf0546ea72a0d0d3ea79a0", func := "actuary/actuarylaw03.ProdBits", spec := "prodBits", recurses := true, apart := false }
def ProdBitsSaid : Prop := prodBitsRow.holds Try.pinned (OpenSpec.ofChange prodBitsSpec)

/-- ITS FALSE NEIGHBOUR: 'it returns false'. Refute it at one input. -/
def prodBitsWrong : ChangeSpec := { name := "prodBits", fn := fun _ => fun
  | [d1, d2] => { results := [.lit (.bool false)], args := [d1, d2] }
  | _ => none }
def ProdBitsWrongFalsely : Prop := prodBitsRow.holds Try.pinned (OpenSpec.ofChange prodBitsWrong)

/-- 'actuarylaw03.ProdMany': WHATEVER THE INPUT: true; the input reads as it did. -/
def prodManySpec : ChangeSpec := { name := "prodMany", fn := fun _ => fun
  | [d] => { results := [.lit (.bool true)], args := [d] }
  | _ => none }
def prodManyRow : OpenClaim := { program := "ytfalfbidcebmgaa", sum := "ddb2a823d21b53825ef793ea9bf0d1301a19ea7859cf0546ea72a0d0d3ea79a0", func := "actuary/actuarylaw03.ProdMany", spec := "prodMany", recurses := true, apart := false }
def ProdManySaid : Prop := prodManyRow.holds Try.pinned (OpenSpec.ofChange prodManySpec)

/-- ITS FALSE NEIGHBOUR: 'it returns false'. Refute it at one input. -/
def prodManyWrong : ChangeSpec := { name := "prodMany", fn := fun _ => fun
  | [d] => { results := [.lit (.bool false)], args := [d] }
  | _ => none }
def ProdManyWrongFalsely : Prop := prodManyRow.holds Try.pinned (OpenSpec.ofChange prodManyWrong)

/-- 'actuarylaw03.ProdShifts': WHATEVER THE INPUT: true; the input reads as it did. -/
def prodShiftsSpec : ChangeSpec := { name := "prodShifts", fn := fun _ => fun
  | [d1, d2] => { results := [.lit (.bool true)], args := [d1, d2] }
  | _ => none }
def prodShiftsRow : OpenClaim := { program := "ytfalfbidcebmgaa", sum := "ddb2a823d21b53825ef793ea9bf0d1301a19ea7859cf0546ea72a0d0d3ea79a0", func := "actuary/actuarylaw03.ProdShifts", spec := "prodShifts", recurses := true, apart := false }
def ProdShiftsSaid : Prop := prodShiftsRow.holds Try.pinned (OpenSpec.ofChange prodShiftsSpec)

/-- ITS FALSE NEIGHBOUR: 'it returns false'. Refute it at one input. -/
def prodShiftsWrong : ChangeSpec := { name := "prodShifts", fn := fun _ => fun
  | [d1, d2] => { results := [.lit (.bool false)], args := [d1, d2] }
  | _ => none }
def ProdShiftsWrongFalsely : Prop := prodShiftsRow.holds Try.pinned (OpenSpec.ofChange prodShiftsWrong)

/- THE SECOND FORM. 'bulk': how many values and letters a reading holds, each counted each time it is reached (what is shared counts as often as it is met; a slice's spare places count too). A statement '..UptoSaid' is the law's where the arguments, and the package variables that the reading takes, are together of bulk at most 1048576: NARROWER than '..Said'. Prove '..Said' where nothing that the law and all that it calls make is longer than what came in: it says more and counts as full. Else prove '..UptoSaid'. A law counts once. -/
mutual
def uptoBulk {H : Type} : DataW H → Nat
  | .lit (.string bytes) => bytes.length + 1
  | .lit _ => 1
  | .nil => 1
  | .ptr d => uptoBulk d + 1
  | .slice elems spare => uptoBulkAll elems + uptoBulkAll spare + 1
  | .agg parts => uptoBulkAll parts + 1
  | .iface _ d => uptoBulk d + 1
  | .map entries => uptoBulkEntries entries + 1
  | .held _ => 1
def uptoBulkAll {H : Type} : List (DataW H) → Nat
  | [] => 0
  | d :: r => uptoBulk d + uptoBulkAll r
def uptoBulkEntries {H : Type} : List (Lit × DataW H) → Nat
  | [] => 0
  | x :: r => uptoBulkEntry x + uptoBulkEntries r
def uptoBulkEntry {H : Type} : Lit × DataW H → Nat
  | (.string bytes, d) => bytes.length + uptoBulk d + 1
  | (_, d) => uptoBulk d + 1
 end
def uptoSmall : (H : Type) → List (DataW H) → Bool := fun _ ds => decide (uptoBulkAll ds ≤ 1048576)
def OpenSpec.upto (s : _root_.Go.ChangeSpec) : _root_.Go.OpenSpec := { _root_.Go.OpenSpec.ofChange s with cond := some uptoSmall }

/-- 'actuarylaw02.NatSums', WHERE WHAT IT READS IS OF BULK AT MOST 1048576: true; the input reads as it did. -/
def natSumsUptoRow : OpenClaim := { program := "ytfalfbidcebmgaa", sum := "ddb2a823d21b53825ef793ea9bf0d1301a19ea7859cf0546ea72a0d0d3ea79a0", func := "actuary/actuarylaw02.NatSums", spec := "natSums", apart := false, narrowed := true }
def NatSumsUptoSaid : Prop := natSumsUptoRow.holds Try.pinned (OpenSpec.upto natSumsSpec)

/-- 'actuarylaw02.NatShifts', WHERE WHAT IT READS IS OF BULK AT MOST 1048576: true; the input reads as it did. -/
def natShiftsUptoRow : OpenClaim := { program := "ytfalfbidcebmgaa", sum := "ddb2a823d21b53825ef793ea9bf0d1301a19ea7859cf0546ea72a0d0d3ea79a0", func := "actuary/actuarylaw02.NatShifts", spec := "natShifts", apart := false, narrowed := true }
def NatShiftsUptoSaid : Prop := natShiftsUptoRow.holds Try.pinned (OpenSpec.upto natShiftsSpec)

/-- 'actuarylaw02.NatTells', WHERE WHAT IT READS IS OF BULK AT MOST 1048576: true; the input reads as it did. -/
def natTellsUptoRow : OpenClaim := { program := "ytfalfbidcebmgaa", sum := "ddb2a823d21b53825ef793ea9bf0d1301a19ea7859cf0546ea72a0d0d3ea79a0", func := "actuary/actuarylaw02.NatTells", spec := "natTells", apart := false, narrowed := true }
def NatTellsUptoSaid : Prop := natTellsUptoRow.holds Try.pinned (OpenSpec.upto natTellsSpec)

/-- 'actuarylaw03.ProdSpreads', WHERE WHAT IT READS IS OF BULK AT MOST 1048576: true; the input reads as it did. -/
def prodSpreadsUptoRow : OpenClaim := { program := "ytfalfbidcebmgaa", sum := "ddb2a823d21b53825ef793ea9bf0d1301a19ea7859cf0546ea72a0d0d3ea79a0", func := "actuary/actuarylaw03.ProdSpreads", spec := "prodSpreads", recurses := true, apart := false, narrowed := true }
def ProdSpreadsUptoSaid : Prop := prodSpreadsUptoRow.holds Try.pinned (OpenSpec.upto prodSpreadsSpec)

/-- 'actuarylaw03.ProdMuls', WHERE WHAT IT READS IS OF BULK AT MOST 1048576: true; the input reads as it did. -/
def prodMulsUptoRow : OpenClaim := { program := "ytfalfbidcebmgaa", sum := "ddb2a823d21b53825ef793ea9bf0d1301a19ea7859cf0546ea72a0d0d3ea79a0", func := "actuary/actuarylaw03.ProdMuls", spec := "prodMuls", recurses := true, apart := false, narrowed := true }
def ProdMulsUptoSaid : Prop := prodMulsUptoRow.holds Try.pinned (OpenSpec.upto prodMulsSpec)

/-- 'actuarylaw03.ProdPows', WHERE WHAT IT READS IS OF BULK AT MOST 1048576: true; the input reads as it did. -/
def prodPowsUptoRow : OpenClaim := { program := "ytfalfbidcebmgaa", sum := "ddb2a823d21b53825ef793ea9bf0d1301a19ea7859cf0546ea72a0d0d3ea79a0", func := "actuary/actuarylaw03.ProdPows", spec := "prodPows", recurses := true, apart := false, narrowed := true }
def ProdPowsUptoSaid : Prop := prodPowsUptoRow.holds Try.pinned (OpenSpec.upto prodPowsSpec)

/-- 'actuarylaw03.ProdTurns', WHERE WHAT IT READS IS OF BULK AT MOST 1048576: true; the input reads as it did. -/
def prodTurnsUptoRow : OpenClaim := { program := "ytfalfbidcebmgaa", sum := "ddb2a823d21b53825ef793ea9bf0d1301a19ea7859cf0546ea72a0d0d3ea79a0", func := "actuary/actuarylaw03.ProdTurns", spec := "prodTurns", recurses := true, apart := false, narrowed := true }
def ProdTurnsUptoSaid : Prop := prodTurnsUptoRow.holds Try.pinned (OpenSpec.upto prodTurnsSpec)

/-- 'actuarylaw03.ProdBits', WHERE WHAT IT READS IS OF BULK AT MOST 1048576: true; the input reads as it did. -/
def prodBitsUptoRow : OpenClaim := { program := "ytfalfbidcebmgaa", sum := "ddb2a823d21b53825ef793ea9bf0d1301a19ea7859cf0546ea72a0d0d3ea79a0", func := "actuary/actuarylaw03.ProdBits", spec := "prodBits", recurses := true, apart := false, narrowed := true }
def ProdBitsUptoSaid : Prop := prodBitsUptoRow.holds Try.pinned (OpenSpec.upto prodBitsSpec)

/-- 'actuarylaw03.ProdMany', WHERE WHAT IT READS IS OF BULK AT MOST 1048576: true; the input reads as it did. -/
def prodManyUptoRow : OpenClaim := { program := "ytfalfbidcebmgaa", sum := "ddb2a823d21b53825ef793ea9bf0d1301a19ea7859cf0546ea72a0d0d3ea79a0", func := "actuary/actuarylaw03.ProdMany", spec := "prodMany", recurses := true, apart := false, narrowed := true }
def ProdManyUptoSaid : Prop := prodManyUptoRow.holds Try.pinned (OpenSpec.upto prodManySpec)

/-- 'actuarylaw03.ProdShifts', WHERE WHAT IT READS IS OF BULK AT MOST 1048576: true; the input reads as it did. -/
def prodShiftsUptoRow : OpenClaim := { program := "ytfalfbidcebmgaa", sum := "ddb2a823d21b53825ef793ea9bf0d1301a19ea7859cf0546ea72a0d0d3ea79a0", func := "actuary/actuarylaw03.ProdShifts", spec := "prodShifts", recurses := true, apart := false, narrowed := true }
def ProdShiftsUptoSaid : Prop := prodShiftsUptoRow.holds Try.pinned (OpenSpec.upto prodShiftsSpec)

end Rows
end Go.Proofs.Ytfalfbidcebmgaa
