/- The contracts of strings.Builder (WriteByte, String), off the shelf. -/
import Derived.Shelf.Strings.Builder1
import Derived.Test.YtihbpkljjmpkjaaKA
namespace Go.Proofs.Ytihbpkljjmpkjaa
open Go.RowKit Go.Shelf
def ren167 : Go.Shelf.Ren := ⟨fun | 167 => 81 | 240 => 94 | 276 => 96 | n => n, fun | 0 => 0 | 4 => 4 | 5 => 5 | 9 => 9 | 20 => 20 | 37 => 80 | 70 => 111 | 72 => 113 | 75 => 115 | 80 => 48 | 164 => 128 | n => n, fun | n => n⟩
theorem lays167 : Go.Proofs.Lays.n167 Try.prog ren167 := {
  mixed := by kernel_rfl
  f167 := Try.func81.trans (congrArg some kR)
  f240 := Try.func94.trans (congrArg some kR)
  f276 := Try.func96.trans (congrArg some kR)
  t0 := Try.underlying0
  a0 := Try.isAgg0
  z0 := Try.sizeOf0
  v0 := Try.zeroValue0
  t4 := Try.underlying4
  a4 := Try.isAgg4
  z4 := Try.sizeOf4
  v4 := Try.zeroValue4
  t5 := Try.underlying5
  a5 := Try.isAgg5
  z5 := Try.sizeOf5
  v5 := Try.zeroValue5
  t9 := Try.underlying9
  a9 := Try.isAgg9
  z9 := Try.sizeOf9
  v9 := Try.zeroValue9
  t20 := Try.underlying20
  a20 := Try.isAgg20
  z20 := Try.sizeOf20
  v20 := Try.zeroValue20
  t37 := Try.underlying80
  a37 := Try.isAgg80
  z37 := Try.sizeOf80
  v37 := Try.zeroValue80
  t70 := Try.underlying111
  a70 := Try.isAgg111
  z70 := Try.sizeOf111
  v70 := Try.zeroValue111
  t72 := Try.underlying113
  a72 := Try.isAgg113
  z72 := Try.sizeOf113
  v72 := Try.zeroValue113
  t75 := Try.underlying115
  a75 := Try.isAgg115
  z75 := Try.sizeOf115
  v75 := Try.zeroValue115
  t164 := Try.underlying128
  a164 := Try.isAgg128
  z164 := Try.sizeOf128
  v164 := Try.zeroValue128 }
theorem extra167 : Builder.Extra Try.prog ren167 := {
  sizeBuilder := by kernel_rfl
  liesBuilder := by kernel_rfl
  t5 := Try.underlying5
  a5 := Try.isAgg5
  z5 := Try.sizeOf5
  v5 := Try.zeroValue5
  infoByte := by kernel_rfl
  cellsByte := by kernel_rfl
  sizeByte := by kernel_rfl
  neB5 := by decide }
def ren169 : Go.Shelf.Ren := ⟨fun | 169 => 82 | n => n, fun | 0 => 0 | 3 => 3 | 5 => 5 | 9 => 9 | 37 => 80 | 70 => 111 | 72 => 113 | 127 => 127 | n => n, fun | n => n⟩
theorem lays169 : Go.Proofs.Lays.n169 Try.prog ren169 := {
  mixed := by kernel_rfl
  f169 := Try.func82.trans (congrArg some kR)
  t0 := Try.underlying0
  a0 := Try.isAgg0
  z0 := Try.sizeOf0
  v0 := Try.zeroValue0
  t3 := Try.underlying3
  a3 := Try.isAgg3
  z3 := Try.sizeOf3
  v3 := Try.zeroValue3
  t9 := Try.underlying9
  a9 := Try.isAgg9
  z9 := Try.sizeOf9
  v9 := Try.zeroValue9
  t37 := Try.underlying80
  a37 := Try.isAgg80
  z37 := Try.sizeOf80
  v37 := Try.zeroValue80
  t70 := Try.underlying111
  a70 := Try.isAgg111
  z70 := Try.sizeOf111
  v70 := Try.zeroValue111
  t72 := Try.underlying113
  a72 := Try.isAgg113
  z72 := Try.sizeOf113
  v72 := Try.zeroValue113
  t127 := Try.underlying127
  a127 := Try.isAgg127
  z127 := Try.sizeOf127
  v127 := Try.zeroValue127 }
theorem extra169 : Builder.Extra Try.prog ren169 := {
  sizeBuilder := by kernel_rfl
  liesBuilder := by kernel_rfl
  t5 := Try.underlying5
  a5 := Try.isAgg5
  z5 := Try.sizeOf5
  v5 := Try.zeroValue5
  infoByte := by kernel_rfl
  cellsByte := by kernel_rfl
  sizeByte := by kernel_rfl
  neB5 := by decide }
theorem builder_WriteByte (B b : Nat) (bs : List Value) (c : Int) (w : World) (h : Lib.IsBuilder 113 5 B b bs w) (hlen : bs.length + 1 ≤ 140737488355328) (hBw : B ≤ w.heap.size) :
    Calls Try.prog 81 #[.pointer (some ⟨b, 0, none⟩), .int .u8 c] w fun e w' => e = .returned .nilIface ∧ (Lib.BuilderAt 113 5 B b (.pointer (some ⟨b, 0, none⟩)) (bs ++ [.int .u8 c]) w' ∧ Below B w w') := Any.Builder_WriteByte lays167 extra167 B b bs c w h hlen hBw
theorem builder_String (B b : Nat) (l : List UInt8) (w : World) (h : Lib.IsBuilder 113 5 B b (Lib.byteCells l) w) (hBw : B ≤ w.heap.size) :
    Calls Try.prog 82 #[.pointer (some ⟨b, 0, none⟩)] w fun e w' => e = .returned (.string ⟨l.toArray⟩) ∧ Below B w w' := Any.Builder_String_any lays169 extra169 B b l w h hBw
end Go.Proofs.Ytihbpkljjmpkjaa
