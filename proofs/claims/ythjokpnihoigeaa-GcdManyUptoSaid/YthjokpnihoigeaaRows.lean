/-
  No cell of these rows narrows 'for every input' (looked for: loops, veiled, ifaces, maps, wideKeys, modest, calm, conditions, laid).
  DERIVED. THE GIVEN ROWS OF THIS SEAT. 6 by the template 'for every input the law returns true; each argument reads behind the call as it read before'; 0 by the template 'total and deterministic' (their statements: YthjokpnihoigeaaTotals.lean).
  GIVEN WITH THE SEED: the statements are not yours to turn. If you find one false, say at which input.
  Laid BY PROGRAM, IN A SANDBOX (cutbox-rows.mjs): the forced cells as the released guide's own fill.sh prints them over the translation 6c7464deab4630fb… (all of the seat's roots in one cut). By AI agents, Wed Nov 11 2026. No macro, syntax, notation, axiom, sorry.
-/
import Derived.Test.YthjokpnihoigeaaChecked
import GoSem.Claim
import GoSem.ClaimJoined
import GoSem.ClaimMapViews
import Derived.JoinedTies
import Derived.KernelRfl
namespace Go.Proofs.Ythjokpnihoigeaa
/- THE CELL 'sum', in the pinned program and in every row, IS THE sha256 OF THE DUMP (.gsa) THAT YthjokpnihoigeaaProg.lean LOADS. Nothing in Lean hashes anything: it is a label: what it is worth is what the hold of that sum in a sandbox is worth. -/
noncomputable def Try.pinned : Pinned := { name := "ythjokpnihoigeaa", sum := "6c7464deab4630fbbc87cfa6ea41092a8004f06ddb4663a9146207cccbd62702", checked := Try.checked }
namespace Rows
def none {H : Type} : Left H := { results := [], args := [] }

/-- 'actuarylaw05.GcdSteps': WHATEVER THE INPUT: true; the input reads as it did. -/
def gcdStepsSpec : ChangeSpec := { name := "gcdSteps", fn := fun _ => fun
  | [d1, d2] => { results := [.lit (.bool true)], args := [d1, d2] }
  | _ => none }
def gcdStepsRow : OpenClaim := { program := "ythjokpnihoigeaa", sum := "6c7464deab4630fbbc87cfa6ea41092a8004f06ddb4663a9146207cccbd62702", func := "actuary/actuarylaw05.GcdSteps", spec := "gcdSteps", recurses := true, apart := false }
def GcdStepsSaid : Prop := gcdStepsRow.holds Try.pinned (OpenSpec.ofChange gcdStepsSpec)

/-- ITS FALSE NEIGHBOUR: 'it returns false'. Refute it at one input. -/
def gcdStepsWrong : ChangeSpec := { name := "gcdSteps", fn := fun _ => fun
  | [d1, d2] => { results := [.lit (.bool false)], args := [d1, d2] }
  | _ => none }
def GcdStepsWrongFalsely : Prop := gcdStepsRow.holds Try.pinned (OpenSpec.ofChange gcdStepsWrong)

/-- 'actuarylaw05.GcdGreatest': WHATEVER THE INPUT: true; the input reads as it did. -/
def gcdGreatestSpec : ChangeSpec := { name := "gcdGreatest", fn := fun _ => fun
  | [d1, d2, d3] => { results := [.lit (.bool true)], args := [d1, d2, d3] }
  | _ => none }
def gcdGreatestRow : OpenClaim := { program := "ythjokpnihoigeaa", sum := "6c7464deab4630fbbc87cfa6ea41092a8004f06ddb4663a9146207cccbd62702", func := "actuary/actuarylaw05.GcdGreatest", spec := "gcdGreatest", recurses := true, apart := false }
def GcdGreatestSaid : Prop := gcdGreatestRow.holds Try.pinned (OpenSpec.ofChange gcdGreatestSpec)

/-- ITS FALSE NEIGHBOUR: 'it returns false'. Refute it at one input. -/
def gcdGreatestWrong : ChangeSpec := { name := "gcdGreatest", fn := fun _ => fun
  | [d1, d2, d3] => { results := [.lit (.bool false)], args := [d1, d2, d3] }
  | _ => none }
def GcdGreatestWrongFalsely : Prop := gcdGreatestRow.holds Try.pinned (OpenSpec.ofChange gcdGreatestWrong)

/-- 'actuarylaw05.GcdLcm': WHATEVER THE INPUT: true; the input reads as it did. -/
def gcdLcmSpec : ChangeSpec := { name := "gcdLcm", fn := fun _ => fun
  | [d1, d2] => { results := [.lit (.bool true)], args := [d1, d2] }
  | _ => none }
def gcdLcmRow : OpenClaim := { program := "ythjokpnihoigeaa", sum := "6c7464deab4630fbbc87cfa6ea41092a8004f06ddb4663a9146207cccbd62702", func := "actuary/actuarylaw05.GcdLcm", spec := "gcdLcm", recurses := true, apart := false }
def GcdLcmSaid : Prop := gcdLcmRow.holds Try.pinned (OpenSpec.ofChange gcdLcmSpec)

/-- ITS FALSE NEIGHBOUR: 'it returns false'. Refute it at one input. -/
def gcdLcmWrong : ChangeSpec := { name := "gcdLcm", fn := fun _ => fun
  | [d1, d2] => { results := [.lit (.bool false)], args := [d1, d2] }
  | _ => none }
def GcdLcmWrongFalsely : Prop := gcdLcmRow.holds Try.pinned (OpenSpec.ofChange gcdLcmWrong)

/-- 'actuarylaw05.GcdMany': WHATEVER THE INPUT: true; the input reads as it did. -/
def gcdManySpec : ChangeSpec := { name := "gcdMany", fn := fun _ => fun
  | [d] => { results := [.lit (.bool true)], args := [d] }
  | _ => none }
def gcdManyRow : OpenClaim := { program := "ythjokpnihoigeaa", sum := "6c7464deab4630fbbc87cfa6ea41092a8004f06ddb4663a9146207cccbd62702", func := "actuary/actuarylaw05.GcdMany", spec := "gcdMany", recurses := true, apart := false }
def GcdManySaid : Prop := gcdManyRow.holds Try.pinned (OpenSpec.ofChange gcdManySpec)

/-- ITS FALSE NEIGHBOUR: 'it returns false'. Refute it at one input. -/
def gcdManyWrong : ChangeSpec := { name := "gcdMany", fn := fun _ => fun
  | [d] => { results := [.lit (.bool false)], args := [d] }
  | _ => none }
def GcdManyWrongFalsely : Prop := gcdManyRow.holds Try.pinned (OpenSpec.ofChange gcdManyWrong)

/-- 'actuarylaw05.GcdFinds': WHATEVER THE INPUT: true; the input reads as it did. -/
def gcdFindsSpec : ChangeSpec := { name := "gcdFinds", fn := fun _ => fun
  | [d1, d2] => { results := [.lit (.bool true)], args := [d1, d2] }
  | _ => none }
def gcdFindsRow : OpenClaim := { program := "ythjokpnihoigeaa", sum := "6c7464deab4630fbbc87cfa6ea41092a8004f06ddb4663a9146207cccbd62702", func := "actuary/actuarylaw05.GcdFinds", spec := "gcdFinds", recurses := true, apart := false }
def GcdFindsSaid : Prop := gcdFindsRow.holds Try.pinned (OpenSpec.ofChange gcdFindsSpec)

/-- ITS FALSE NEIGHBOUR: 'it returns false'. Refute it at one input. -/
def gcdFindsWrong : ChangeSpec := { name := "gcdFinds", fn := fun _ => fun
  | [d1, d2] => { results := [.lit (.bool false)], args := [d1, d2] }
  | _ => none }
def GcdFindsWrongFalsely : Prop := gcdFindsRow.holds Try.pinned (OpenSpec.ofChange gcdFindsWrong)

/-- 'actuarylaw05.GcdReduces': WHATEVER THE INPUT: true; the input reads as it did. -/
def gcdReducesSpec : ChangeSpec := { name := "gcdReduces", fn := fun _ => fun
  | [d1, d2] => { results := [.lit (.bool true)], args := [d1, d2] }
  | _ => none }
def gcdReducesRow : OpenClaim := { program := "ythjokpnihoigeaa", sum := "6c7464deab4630fbbc87cfa6ea41092a8004f06ddb4663a9146207cccbd62702", func := "actuary/actuarylaw05.GcdReduces", spec := "gcdReduces", recurses := true, apart := false }
def GcdReducesSaid : Prop := gcdReducesRow.holds Try.pinned (OpenSpec.ofChange gcdReducesSpec)

/-- ITS FALSE NEIGHBOUR: 'it returns false'. Refute it at one input. -/
def gcdReducesWrong : ChangeSpec := { name := "gcdReduces", fn := fun _ => fun
  | [d1, d2] => { results := [.lit (.bool false)], args := [d1, d2] }
  | _ => none }
def GcdReducesWrongFalsely : Prop := gcdReducesRow.holds Try.pinned (OpenSpec.ofChange gcdReducesWrong)

/- THE SECOND FORM. 'bulk': how many values and letters a reading holds, each counted each time it is reached (what is shared counts as often as it is met; a slice's spare places count too). A statement '..UptoSaid' is the law's where the arguments, and the package variables that the reading takes, are together of bulk at most 1048576: NARROWER than '..Said'. Prove '..Said' where nothing that the law and all that it calls make is longer than what came in: it says more and counts as full. Else prove '..UptoSaid'. A law counts once. -/
mutual
def uptoBulk {H : Type} : DataW H → Nat
  | .lit (.string bytes) => bytes.length + 1
  | .lit _ => 1
  | .nil => 1
  | .ptr d => uptoBulk d + 1
  | .slice elems spare => uptoBulkAll elems + uptoBulkAll spare + 1
  | .agg parts => uptoBulkAll parts + 1
  | .iface _ d => uptoBulk d + 1
  | .map entries => uptoBulkEntries entries + 1
  | .held _ => 1
def uptoBulkAll {H : Type} : List (DataW H) → Nat
  | [] => 0
  | d :: r => uptoBulk d + uptoBulkAll r
def uptoBulkEntries {H : Type} : List (Lit × DataW H) → Nat
  | [] => 0
  | x :: r => uptoBulkEntry x + uptoBulkEntries r
def uptoBulkEntry {H : Type} : Lit × DataW H → Nat
  | (.string bytes, d) => bytes.length + uptoBulk d + 1
  | (_, d) => uptoBulk d + 1
 end
def uptoSmall : (H : Type) → List (DataW H) → Bool := fun _ ds => decide (uptoBulkAll ds ≤ 1048576)
def OpenSpec.upto (s : _root_.Go.ChangeSpec) : _root_.Go.OpenSpec := { _root_.Go.OpenSpec.ofChange s with cond := some uptoSmall }

/-- 'actuarylaw05.GcdSteps', WHERE WHAT IT READS IS OF BULK AT MOST 1048576: true; the input reads as it did. -/
def gcdStepsUptoRow : OpenClaim := { program := "ythjokpnihoigeaa", sum := "6c7464deab4630fbbc87cfa6ea41092a8004f06ddb4663a9146207cccbd62702", func := "actuary/actuarylaw05.GcdSteps", spec := "gcdSteps", recurses := true, apart := false, narrowed := true }
def GcdStepsUptoSaid : Prop := gcdStepsUptoRow.holds Try.pinned (OpenSpec.upto gcdStepsSpec)

/-- 'actuarylaw05.GcdGreatest', WHERE WHAT IT READS IS OF BULK AT MOST 1048576: true; the input reads as it did. -/
def gcdGreatestUptoRow : OpenClaim := { program := "ythjokpnihoigeaa", sum := "6c7464deab4630fbbc87cfa6ea41092a8004f06ddb4663a9146207cccbd62702", func := "actuary/actuarylaw05.GcdGreatest", spec := "gcdGreatest", recurses := true, apart := false, narrowed := true }
def GcdGreatestUptoSaid : Prop := gcdGreatestUptoRow.holds Try.pinned (OpenSpec.upto gcdGreatestSpec)

/-- 'actuarylaw05.GcdLcm', WHERE WHAT IT READS IS OF BULK AT MOST 1048576: true; the input reads as it did. -/
def gcdLcmUptoRow : OpenClaim := { program := "ythjokpnihoigeaa", sum := "6c7464deab4630fbbc87cfa6ea41092a8004f06ddb4663a9146207cccbd62702", func := "actuary/actuarylaw05.GcdLcm", spec := "gcdLcm", recurses := true, apart := false, narrowed := true }
def GcdLcmUptoSaid : Prop := gcdLcmUptoRow.holds Try.pinned (OpenSpec.upto gcdLcmSpec)

/-- 'actuarylaw05.GcdMany', WHERE WHAT IT READS IS OF BULK AT MOST 1048576: true; the input reads as it did. -/
def gcdManyUptoRow : OpenClaim := { program := "ythjokpnihoigeaa", sum := "6c7464deab4630fbbc87cfa6ea41092a8004f06ddb4663a9146207cccbd62702", func := "actuary/actuarylaw05.GcdMany", spec := "gcdMany", recurses := true, apart := false, narrowed := true }
def GcdManyUptoSaid : Prop := gcdManyUptoRow.holds Try.pinned (OpenSpec.upto gcdManySpec)

/-- 'actuarylaw05.GcdFinds', WHERE WHAT IT READS IS OF BULK AT MOST 1048576: true; the input reads as it did. -/
def gcdFindsUptoRow : OpenClaim := { program := "ythjokpnihoigeaa", sum := "6c7464deab4630fbbc87cfa6ea41092a8004f06ddb4663a9146207cccbd62702", func := "actuary/actuarylaw05.GcdFinds", spec := "gcdFinds", recurses := true, apart := false, narrowed := true }
def GcdFindsUptoSaid : Prop := gcdFindsUptoRow.holds Try.pinned (OpenSpec.upto gcdFindsSpec)

/-- 'actuarylaw05.GcdReduces', WHERE WHAT IT READS IS OF BULK AT MOST 1048576: true; the input reads as it did. -/
def gcdReducesUptoRow : OpenClaim := { program := "ythjokpnihoigeaa", sum := "6c7464deab4630fbbc87cfa6ea41092a8004f06ddb4663a9146207cccbd62702", func := "actuary/actuarylaw05.GcdReduces", spec := "gcdReduces", recurses := true, apart := false, narrowed := true }
def GcdReducesUptoSaid : Prop := gcdReducesUptoRow.holds Try.pinned (OpenSpec.upto gcdReducesSpec)

end Rows
end Go.Proofs.Ythjokpnihoigeaa
