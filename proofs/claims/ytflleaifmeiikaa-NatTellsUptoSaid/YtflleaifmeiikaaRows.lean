/-
  No cell of these rows narrows 'for every input' (looked for: loops, veiled, ifaces, maps, wideKeys, modest, calm, conditions, laid).
  DERIVED. THE GIVEN ROWS OF THIS SEAT. 9 by the template 'for every input the law returns true; each argument reads behind the call as it read before'; 0 by the template 'total and deterministic' (their statements: YtflleaifmeiikaaTotals.lean).
  GIVEN WITH THE SEED: the statements are not yours to turn. If you find one false, say at which input.
  Laid BY PROGRAM, IN A SANDBOX (cutbox-rows.mjs): the forced cells as the released guide's own fill.sh prints them over the translation 448a654c46cf802e… (all of the seat's roots in one cut). By AI agents, Wed Nov 11 2026. No macro, syntax, notation, axiom, sorry.
-/
import Derived.Test.YtflleaifmeiikaaChecked
import GoSem.Claim
import GoSem.ClaimJoined
import GoSem.ClaimMapViews
import Derived.JoinedTies
import Derived.KernelRfl
namespace Go.Proofs.Ytflleaifmeiikaa
/- THE CELL 'sum', in the pinned program and in every row, IS THE sha256 OF THE DUMP (.gsa) THAT YtflleaifmeiikaaProg.lean LOADS. Nothing in Lean hashes anything: it is a label: what it is worth is what the hold of that sum in a sandbox is worth. -/
noncomputable def Try.pinned : Pinned := { name := "ytflleaifmeiikaa", sum := "448a654c46cf802e991fbfb290bf5b52d60b217a99f7619c35ec692432838cbd", checked := Try.checked }
namespace Rows
def none {H : Type} : Left H := { results := [], args := [] }

/-- 'actuarylaw02.NatTells': WHATEVER THE INPUT: true; the input reads as it did. -/
def natTellsSpec : ChangeSpec := { name := "natTells", fn := fun _ => fun
  | [d1, d2] => { results := [.lit (.bool true)], args := [d1, d2] }
  | _ => none }
def natTellsRow : OpenClaim := { program := "ytflleaifmeiikaa", sum := "448a654c46cf802e991fbfb290bf5b52d60b217a99f7619c35ec692432838cbd", func := "actuary/actuarylaw02.NatTells", spec := "natTells", apart := false }
def NatTellsSaid : Prop := natTellsRow.holds Try.pinned (OpenSpec.ofChange natTellsSpec)

/-- ITS FALSE NEIGHBOUR: 'it returns false'. Refute it at one input. -/
def natTellsWrong : ChangeSpec := { name := "natTells", fn := fun _ => fun
  | [d1, d2] => { results := [.lit (.bool false)], args := [d1, d2] }
  | _ => none }
def NatTellsWrongFalsely : Prop := natTellsRow.holds Try.pinned (OpenSpec.ofChange natTellsWrong)

/-- 'actuarylaw03.ProdMany': WHATEVER THE INPUT: true; the input reads as it did. -/
def prodManySpec : ChangeSpec := { name := "prodMany", fn := fun _ => fun
  | [d] => { results := [.lit (.bool true)], args := [d] }
  | _ => none }
def prodManyRow : OpenClaim := { program := "ytflleaifmeiikaa", sum := "448a654c46cf802e991fbfb290bf5b52d60b217a99f7619c35ec692432838cbd", func := "actuary/actuarylaw03.ProdMany", spec := "prodMany", recurses := true, apart := false }
def ProdManySaid : Prop := prodManyRow.holds Try.pinned (OpenSpec.ofChange prodManySpec)

/-- ITS FALSE NEIGHBOUR: 'it returns false'. Refute it at one input. -/
def prodManyWrong : ChangeSpec := { name := "prodMany", fn := fun _ => fun
  | [d] => { results := [.lit (.bool false)], args := [d] }
  | _ => none }
def ProdManyWrongFalsely : Prop := prodManyRow.holds Try.pinned (OpenSpec.ofChange prodManyWrong)

/-- 'actuarylaw04.QuotDivides': WHATEVER THE INPUT: true; the input reads as it did. -/
def quotDividesSpec : ChangeSpec := { name := "quotDivides", fn := fun _ => fun
  | [d1, d2, d3] => { results := [.lit (.bool true)], args := [d1, d2, d3] }
  | _ => none }
def quotDividesRow : OpenClaim := { program := "ytflleaifmeiikaa", sum := "448a654c46cf802e991fbfb290bf5b52d60b217a99f7619c35ec692432838cbd", func := "actuary/actuarylaw04.QuotDivides", spec := "quotDivides", apart := false }
def QuotDividesSaid : Prop := quotDividesRow.holds Try.pinned (OpenSpec.ofChange quotDividesSpec)

/-- ITS FALSE NEIGHBOUR: 'it returns false'. Refute it at one input. -/
def quotDividesWrong : ChangeSpec := { name := "quotDivides", fn := fun _ => fun
  | [d1, d2, d3] => { results := [.lit (.bool false)], args := [d1, d2, d3] }
  | _ => none }
def QuotDividesWrongFalsely : Prop := quotDividesRow.holds Try.pinned (OpenSpec.ofChange quotDividesWrong)

/-- 'actuarylaw04.QuotShifts': WHATEVER THE INPUT: true; the input reads as it did. -/
def quotShiftsSpec : ChangeSpec := { name := "quotShifts", fn := fun _ => fun
  | [d1, d2] => { results := [.lit (.bool true)], args := [d1, d2] }
  | _ => none }
def quotShiftsRow : OpenClaim := { program := "ytflleaifmeiikaa", sum := "448a654c46cf802e991fbfb290bf5b52d60b217a99f7619c35ec692432838cbd", func := "actuary/actuarylaw04.QuotShifts", spec := "quotShifts", apart := false }
def QuotShiftsSaid : Prop := quotShiftsRow.holds Try.pinned (OpenSpec.ofChange quotShiftsSpec)

/-- ITS FALSE NEIGHBOUR: 'it returns false'. Refute it at one input. -/
def quotShiftsWrong : ChangeSpec := { name := "quotShifts", fn := fun _ => fun
  | [d1, d2] => { results := [.lit (.bool false)], args := [d1, d2] }
  | _ => none }
def QuotShiftsWrongFalsely : Prop := quotShiftsRow.holds Try.pinned (OpenSpec.ofChange quotShiftsWrong)

/-- 'actuarylaw04.QuotBack': WHATEVER THE INPUT: true; the input reads as it did. -/
def quotBackSpec : ChangeSpec := { name := "quotBack", fn := fun _ => fun
  | [d1, d2] => { results := [.lit (.bool true)], args := [d1, d2] }
  | _ => none }
def quotBackRow : OpenClaim := { program := "ytflleaifmeiikaa", sum := "448a654c46cf802e991fbfb290bf5b52d60b217a99f7619c35ec692432838cbd", func := "actuary/actuarylaw04.QuotBack", spec := "quotBack", recurses := true, apart := false }
def QuotBackSaid : Prop := quotBackRow.holds Try.pinned (OpenSpec.ofChange quotBackSpec)

/-- ITS FALSE NEIGHBOUR: 'it returns false'. Refute it at one input. -/
def quotBackWrong : ChangeSpec := { name := "quotBack", fn := fun _ => fun
  | [d1, d2] => { results := [.lit (.bool false)], args := [d1, d2] }
  | _ => none }
def QuotBackWrongFalsely : Prop := quotBackRow.holds Try.pinned (OpenSpec.ofChange quotBackWrong)

/-- 'actuarylaw04.QuotNear': WHATEVER THE INPUT: true; the input reads as it did. -/
def quotNearSpec : ChangeSpec := { name := "quotNear", fn := fun _ => fun
  | [d1, d2] => { results := [.lit (.bool true)], args := [d1, d2] }
  | _ => none }
def quotNearRow : OpenClaim := { program := "ytflleaifmeiikaa", sum := "448a654c46cf802e991fbfb290bf5b52d60b217a99f7619c35ec692432838cbd", func := "actuary/actuarylaw04.QuotNear", spec := "quotNear", recurses := true, apart := false }
def QuotNearSaid : Prop := quotNearRow.holds Try.pinned (OpenSpec.ofChange quotNearSpec)

/-- ITS FALSE NEIGHBOUR: 'it returns false'. Refute it at one input. -/
def quotNearWrong : ChangeSpec := { name := "quotNear", fn := fun _ => fun
  | [d1, d2] => { results := [.lit (.bool false)], args := [d1, d2] }
  | _ => none }
def QuotNearWrongFalsely : Prop := quotNearRow.holds Try.pinned (OpenSpec.ofChange quotNearWrong)

/-- 'actuarylaw04.QuotFactors': WHATEVER THE INPUT: true; the input reads as it did. -/
def quotFactorsSpec : ChangeSpec := { name := "quotFactors", fn := fun _ => fun
  | [d1, d2, d3] => { results := [.lit (.bool true)], args := [d1, d2, d3] }
  | _ => none }
def quotFactorsRow : OpenClaim := { program := "ytflleaifmeiikaa", sum := "448a654c46cf802e991fbfb290bf5b52d60b217a99f7619c35ec692432838cbd", func := "actuary/actuarylaw04.QuotFactors", spec := "quotFactors", recurses := true, apart := false }
def QuotFactorsSaid : Prop := quotFactorsRow.holds Try.pinned (OpenSpec.ofChange quotFactorsSpec)

/-- ITS FALSE NEIGHBOUR: 'it returns false'. Refute it at one input. -/
def quotFactorsWrong : ChangeSpec := { name := "quotFactors", fn := fun _ => fun
  | [d1, d2, d3] => { results := [.lit (.bool false)], args := [d1, d2, d3] }
  | _ => none }
def QuotFactorsWrongFalsely : Prop := quotFactorsRow.holds Try.pinned (OpenSpec.ofChange quotFactorsWrong)

/-- 'actuarylaw04.QuotMade': WHATEVER THE INPUT: true; the input reads as it did. -/
def quotMadeSpec : ChangeSpec := { name := "quotMade", fn := fun _ => fun
  | [d1, d2, d3] => { results := [.lit (.bool true)], args := [d1, d2, d3] }
  | _ => none }
def quotMadeRow : OpenClaim := { program := "ytflleaifmeiikaa", sum := "448a654c46cf802e991fbfb290bf5b52d60b217a99f7619c35ec692432838cbd", func := "actuary/actuarylaw04.QuotMade", spec := "quotMade", recurses := true, apart := false }
def QuotMadeSaid : Prop := quotMadeRow.holds Try.pinned (OpenSpec.ofChange quotMadeSpec)

/-- ITS FALSE NEIGHBOUR: 'it returns false'. Refute it at one input. -/
def quotMadeWrong : ChangeSpec := { name := "quotMade", fn := fun _ => fun
  | [d1, d2, d3] => { results := [.lit (.bool false)], args := [d1, d2, d3] }
  | _ => none }
def QuotMadeWrongFalsely : Prop := quotMadeRow.holds Try.pinned (OpenSpec.ofChange quotMadeWrong)

/-- 'actuarylaw04.QuotTwice': WHATEVER THE INPUT: true; the input reads as it did. -/
def quotTwiceSpec : ChangeSpec := { name := "quotTwice", fn := fun _ => fun
  | [d1, d2, d3] => { results := [.lit (.bool true)], args := [d1, d2, d3] }
  | _ => none }
def quotTwiceRow : OpenClaim := { program := "ytflleaifmeiikaa", sum := "448a654c46cf802e991fbfb290bf5b52d60b217a99f7619c35ec692432838cbd", func := "actuary/actuarylaw04.QuotTwice", spec := "quotTwice", recurses := true, apart := false }
def QuotTwiceSaid : Prop := quotTwiceRow.holds Try.pinned (OpenSpec.ofChange quotTwiceSpec)

/-- ITS FALSE NEIGHBOUR: 'it returns false'. Refute it at one input. -/
def quotTwiceWrong : ChangeSpec := { name := "quotTwice", fn := fun _ => fun
  | [d1, d2, d3] => { results := [.lit (.bool false)], args := [d1, d2, d3] }
  | _ => none }
def QuotTwiceWrongFalsely : Prop := quotTwiceRow.holds Try.pinned (OpenSpec.ofChange quotTwiceWrong)

/- THE SECOND FORM. 'bulk': how many values and letters a reading holds, each counted each time it is reached (what is shared counts as often as it is met; a slice's spare places count too). A statement '..UptoSaid' is the law's where the arguments, and the package variables that the reading takes, are together of bulk at most 1048576: NARROWER than '..Said'. Prove '..Said' where nothing that the law and all that it calls make is longer than what came in: it says more and counts as full. Else prove '..UptoSaid'. A law counts once. -/
mutual
def uptoBulk {H : Type} : DataW H → Nat
  | .lit (.string bytes) => bytes.length + 1
  | .lit _ => 1
  | .nil => 1
  | .ptr d => uptoBulk d + 1
  | .slice elems spare => uptoBulkAll elems + uptoBulkAll spare + 1
  | .agg parts => uptoBulkAll parts + 1
  | .iface _ d => uptoBulk d + 1
  | .map entries => uptoBulkEntries entries + 1
  | .held _ => 1
def uptoBulkAll {H : Type} : List (DataW H) → Nat
  | [] => 0
  | d :: r => uptoBulk d + uptoBulkAll r
def uptoBulkEntries {H : Type} : List (Lit × DataW H) → Nat
  | [] => 0
  | x :: r => uptoBulkEntry x + uptoBulkEntries r
def uptoBulkEntry {H : Type} : Lit × DataW H → Nat
  | (.string bytes, d) => bytes.length + uptoBulk d + 1
  | (_, d) => uptoBulk d + 1
 end
def uptoSmall : (H : Type) → List (DataW H) → Bool := fun _ ds => decide (uptoBulkAll ds ≤ 1048576)
def OpenSpec.upto (s : _root_.Go.ChangeSpec) : _root_.Go.OpenSpec := { _root_.Go.OpenSpec.ofChange s with cond := some uptoSmall }

/-- 'actuarylaw02.NatTells', WHERE WHAT IT READS IS OF BULK AT MOST 1048576: true; the input reads as it did. -/
def natTellsUptoRow : OpenClaim := { program := "ytflleaifmeiikaa", sum := "448a654c46cf802e991fbfb290bf5b52d60b217a99f7619c35ec692432838cbd", func := "actuary/actuarylaw02.NatTells", spec := "natTells", apart := false, narrowed := true }
def NatTellsUptoSaid : Prop := natTellsUptoRow.holds Try.pinned (OpenSpec.upto natTellsSpec)

/-- 'actuarylaw03.ProdMany', WHERE WHAT IT READS IS OF BULK AT MOST 1048576: true; the input reads as it did. -/
def prodManyUptoRow : OpenClaim := { program := "ytflleaifmeiikaa", sum := "448a654c46cf802e991fbfb290bf5b52d60b217a99f7619c35ec692432838cbd", func := "actuary/actuarylaw03.ProdMany", spec := "prodMany", recurses := true, apart := false, narrowed := true }
def ProdManyUptoSaid : Prop := prodManyUptoRow.holds Try.pinned (OpenSpec.upto prodManySpec)

/-- 'actuarylaw04.QuotDivides', WHERE WHAT IT READS IS OF BULK AT MOST 1048576: true; the input reads as it did. -/
def quotDividesUptoRow : OpenClaim := { program := "ytflleaifmeiikaa", sum := "448a654c46cf802e991fbfb290bf5b52d60b217a99f7619c35ec692432838cbd", func := "actuary/actuarylaw04.QuotDivides", spec := "quotDivides", apart := false, narrowed := true }
def QuotDividesUptoSaid : Prop := quotDividesUptoRow.holds Try.pinned (OpenSpec.upto quotDividesSpec)

/-- 'actuarylaw04.QuotShifts', WHERE WHAT IT READS IS OF BULK AT MOST 1048576: true; the input reads as it did. -/
def quotShiftsUptoRow : OpenClaim := { program := "ytflleaifmeiikaa", sum := "448a654c46cf802e991fbfb290bf5b52d60b217a99f7619c35ec692432838cbd", func := "actuary/actuarylaw04.QuotShifts", spec := "quotShifts", apart := false, narrowed := true }
def QuotShiftsUptoSaid : Prop := quotShiftsUptoRow.holds Try.pinned (OpenSpec.upto quotShiftsSpec)

/-- 'actuarylaw04.QuotBack', WHERE WHAT IT READS IS OF BULK AT MOST 1048576: true; the input reads as it did. -/
def quotBackUptoRow : OpenClaim := { program := "ytflleaifmeiikaa", sum := "448a654c46cf802e991fbfb290bf5b52d60b217a99f7619c35ec692432838cbd", func := "actuary/actuarylaw04.QuotBack", spec := "quotBack", recurses := true, apart := false, narrowed := true }
def QuotBackUptoSaid : Prop := quotBackUptoRow.holds Try.pinned (OpenSpec.upto quotBackSpec)

/-- 'actuarylaw04.QuotNear', WHERE WHAT IT READS IS OF BULK AT MOST 1048576: true; the input reads as it did. -/
def quotNearUptoRow : OpenClaim := { program := "ytflleaifmeiikaa", sum := "448a654c46cf802e991fbfb290bf5b52d60b217a99f7619c35ec692432838cbd", func := "actuary/actuarylaw04.QuotNear", spec := "quotNear", recurses := true, apart := false, narrowed := true }
def QuotNearUptoSaid : Prop := quotNearUptoRow.holds Try.pinned (OpenSpec.upto quotNearSpec)

/-- 'actuarylaw04.QuotFactors', WHERE WHAT IT READS IS OF BULK AT MOST 1048576: true; the input reads as it did. -/
def quotFactorsUptoRow : OpenClaim := { program := "ytflleaifmeiikaa", sum := "448a654c46cf802e991fbfb290bf5b52d60b217a99f7619c35ec692432838cbd", func := "actuary/actuarylaw04.QuotFactors", spec := "quotFactors", recurses := true, apart := false, narrowed := true }
def QuotFactorsUptoSaid : Prop := quotFactorsUptoRow.holds Try.pinned (OpenSpec.upto quotFactorsSpec)

/-- 'actuarylaw04.QuotMade', WHERE WHAT IT READS IS OF BULK AT MOST 1048576: true; the input reads as it did. -/
def quotMadeUptoRow : OpenClaim := { program := "ytflleaifmeiikaa", sum := "448a654c46cf802e991fbfb290bf5b52d60b217a99f7619c35ec692432838cbd", func := "actuary/actuarylaw04.QuotMade", spec := "quotMade", recurses := true, apart := false, narrowed := true }
def QuotMadeUptoSaid : Prop := quotMadeUptoRow.holds Try.pinned (OpenSpec.upto quotMadeSpec)

/-- 'actuarylaw04.QuotTwice', WHERE WHAT IT READS IS OF BULK AT MOST 1048576: true; the input reads as it did. -/
def quotTwiceUptoRow : OpenClaim := { program := "ytflleaifmeiikaa", sum := "448a654c46cf802e991fbfb290bf5b52d60b217a99f7619c35ec692432838cbd", func := "actuary/actuarylaw04.QuotTwice", spec := "quotTwice", recurses := true, apart := false, narrowed := true }
def QuotTwiceUptoSaid : Prop := quotTwiceUptoRow.holds Try.pinned (OpenSpec.upto quotTwiceSpec)

end Rows
end Go.Proofs.Ytflleaifmeiikaa
