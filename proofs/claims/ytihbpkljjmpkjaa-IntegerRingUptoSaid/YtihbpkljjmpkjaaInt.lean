/- Words for whole numbers in memory: a struct of a sign and a number, a block of two cells. -/
import Derived.Test.YtihbpkljjmpkjaaKD
import Derived.Test.YtihbpkljjmpkjaaIntLaw
set_option linter.unusedVariables false
set_option linter.unusedSimpArgs false
namespace Go.Proofs.Ytihbpkljjmpkjaa
open Go.RowKit
set_option maxRecDepth 100000
/-- a block of two cells (a struct's box) -/
def Blk2 (w : World) (g : Nat) (t : TypeId) (u v : Value) : Prop := w.heap[g]? = some (.cells #[u, v] t (0, 0))
section
variable {w w' : World} {g : Nat} {t : TypeId} {u v : Value}
theorem Blk2.lt (h : Blk2 w g t u v) : g < w.heap.size := BlkN.lt (cs := #[u, v]) h
theorem Blk2.cell (h : Blk2 w g t u v) : w.cell? ⟨g, 0, none⟩ = some u := cell_of_row w g 0 _ t (0, 0) h
theorem Blk2.cell1 (h : Blk2 w g t u v) : w.cell? ⟨g, 1, none⟩ = some v := cell_of_row w g 1 _ t (0, 0) h
theorem Blk2.free (h : Blk2 w g t u v) (o : Nat) : w.frozen? ⟨g, o, none⟩ = false := by
  unfold Blk2 at h
  simp [World.frozen?, h]
theorem Blk2.new (w : World) (t : TypeId) (u v : Value) : Blk2 (w.alloc (.cells #[u, v] t)) w.heap.size t u v := heap_alloc_new w _
theorem Blk2.newAt (w : World) (g : Nat) (t : TypeId) (u v : Value) (hg : w.heap.size = g) : Blk2 (w.alloc (.cells #[u, v] t)) g t u v := hg ▸ Blk2.new w t u v
theorem Blk2.grown {row : Option Nat} (h : Blk2 w g t u v) (hg : w.grownBy w' row) (hr : some g ≠ row) : Blk2 w' g t u v := (hg.block g h.lt hr).trans h
theorem Blk2.to (h : Blk2 w g t u v) (hb : Below w.heap.size w w') : Blk2 w' g t u v := (hb.block g h.lt).trans h
theorem Blk2.drew (h : Blk2 w g t u v) : Blk2 w.drew g t u v := h
theorem Blk2.alloc (h : Blk2 w g t u v) (o : Obj) : Blk2 (w.alloc o) g t u v := (Below.heap_alloc w o g h.lt).trans h
theorem Blk2.far (h : Blk2 w g t u v) {p : Addr} (hp : g ≠ p.block) (x : Value) : Blk2 (w.setCell p x) g t u v := (Below.heap_setCell w p x g hp).trans h
theorem Blk2.set0 (h : Blk2 w g t u v) (x : Value) : Blk2 (w.setCell ⟨g, 0, none⟩ x) g t x v := by
  unfold Blk2 at *
  have hlt := BlkN.lt (cs := #[u, v]) h
  simp [World.setCell, h, Array.getElem?_modify]
theorem Blk2.set1 (h : Blk2 w g t u v) (x : Value) : Blk2 (w.setCell ⟨g, 1, none⟩ x) g t u x := by
  unfold Blk2 at *
  simp [World.setCell, h, Array.getElem?_modify]
end
/-- both cells of a struct turned -/
def put2 (w : World) (g : Nat) (p q : Value) : World := (w.setCell ⟨g, 0, none⟩ p).setCell ⟨g, 1, none⟩ q
section
variable {w w0 : World} {g t : Nat} {u v : Value}
theorem Blk2.put2 (h : Blk2 w g t u v) (p q : Value) : Blk2 (put2 w g p q) g t p q := (h.set0 p).set1 q
theorem Blk2.off2 {g' t' : Nat} {u' v' : Value} (h : Blk2 w g' t' u' v') (hn : g' ≠ g) (p q : Value) : Blk2 (Go.Proofs.Ytihbpkljjmpkjaa.put2 w g p q) g' t' u' v' := (h.far hn p).far hn q
theorem Blk1.off2 {g' t' : Nat} {u' : Value} (h : Blk1 w g' t' u') (hn : g' ≠ g) (p q : Value) : Blk1 (Go.Proofs.Ytihbpkljjmpkjaa.put2 w g p q) g' t' u' := (h.far hn p).far hn q
theorem Dig.put2 {k : IntKind} {b : Nat} {A : Option Addr} {n c x : Nat} (h : Dig k b w A n c x) (X : Blk2 w g t u v) (hu : ∀ k i, u ≠ .int k i) (hv : ∀ k i, v ≠ .int k i) (p q : Value) : Dig k b (Go.Proofs.Ytihbpkljjmpkjaa.put2 w g p q) A n c x :=
  (h.put_ X.cell hu p).put_ (X.set0 p).cell1 hv q
theorem below_put2 {B : Nat} {a : World} (h : Below B a w) (hg : B ≤ g) (p q : Value) : Below B a (put2 w g p q) := (h.setCell (p := ⟨g, 0, none⟩) hg p).setCell (p := ⟨g, 1, none⟩) hg q
theorem bool_no (b : Bool) : ∀ k i, Value.bool b ≠ .int k i := fun _ _ h => by cases h
theorem slice_no (A : Option Addr) (n c : Nat) : ∀ k i, Value.slice A n c ≠ .int k i := fun _ _ h => by cases h
theorem NatAt.put2 {A : Option Addr} {n c x : Nat} {b : Bool} {a : Option Addr} {m d : Nat} (h : NatAt w A n c x) (X : Blk2 w g t (.bool b) (.slice a m d)) (p q : Value) : NatAt (Go.Proofs.Ytihbpkljjmpkjaa.put2 w g p q) A n c x :=
  ⟨h.1.put2 X (bool_no _) (slice_no _ _ _) p q, h.2⟩
theorem NumAt.put2 {k : IntKind} {b' : Nat} {A : Option Addr} {n c x : Nat} {b : Bool} {a : Option Addr} {m d : Nat} (h : NumAt k b' w A n c x) (X : Blk2 w g t (.bool b) (.slice a m d)) (p q : Value) : NumAt k b' (Go.Proofs.Ytihbpkljjmpkjaa.put2 w g p q) A n c x :=
  ⟨h.1.put2 X (bool_no _) (slice_no _ _ _) p q, h.2⟩
end
/-- a struct stored into its variable, met in a region that draws its order -/
theorem wp_store_int {w : World} {o : Oper} {a : Act} {K : Act → World → Prop} {Q : Exit → Act → World → Prop} (p v : Operand) (ho : o.op = Op.store 29 p v) {g T : Nat} {u1 u2 : Value} {b : Bool} {A : Option Addr} {n c : Nat}
    (hp : a.eval p = .pointer (some ⟨g, 0, none⟩)) (hv : a.eval v = .agg #[.bool b, .slice A n c]) (X : Blk2 w g T u1 u2) (h : K (a.put o.dst undef) (put2 w g (.bool b) (.slice A n c))) : Oper.wp Try.prog o a w K Q := by
  have c0 := X.cell
  have c1 := X.cell1
  have f0 := X.free 0
  have f1 := X.free 1
  unfold Oper.wp execOp
  simp only [ho, hp, hv]
  go_simp
  exact h
theorem wp_store_z {w : World} {o : Oper} {a : Act} {K : Act → World → Prop} {Q : Exit → Act → World → Prop} (p v : Operand) (ho : o.op = Op.store 34 p v) {g T : Nat} {u1 u2 : Value} {b : Bool} {A : Option Addr} {n c : Nat}
    (hp : a.eval p = .pointer (some ⟨g, 0, none⟩)) (hv : a.eval v = .agg #[.bool b, .slice A n c]) (X : Blk2 w g T u1 u2) (h : K (a.put o.dst undef) (put2 w g (.bool b) (.slice A n c))) : Oper.wp Try.prog o a w K Q := by
  have c0 := X.cell
  have c1 := X.cell1
  have f0 := X.free 0
  have f1 := X.free 1
  unfold Oper.wp execOp
  simp only [ho, hp, hv]
  go_simp
  exact h
def RetInt (w : World) (z : Int) (e : Ending) (w' : World) : Prop := ∃ A n c, e = .returned (.agg #[.bool (bz z), .slice A n c]) ∧ NatAt w' A n c z.natAbs ∧ Below w.heap.size w w'
def RetZ (w : World) (z : Int) (e : Ending) (w' : World) : Prop := ∃ A n c, e = .returned (.agg #[.bool (bz z), .slice A n c]) ∧ NumAt .i64 65536 w' A n c z.natAbs ∧ Below w.heap.size w w'
theorem mk_int {ops : Array Oper} {Q : Exit → Act → World → Prop} {i d : Nat} {o : Oper} (hi : ops[i]? = some o) (hop : o.op = Op.alloc 29) (hd : o.dst = some d) (hg : o.guard = none) : MkRun Try.prog ops Q (i, d, 29, #[.bool false, .slice none 0 0]) := by
  intro a w K h
  refine wpOp_step hi (fun K' hK => ?_)
  have hw : Region.wanted o (yielded ops a.tmps) = true := by simp [Region.wanted, hg]
  rw [if_pos hw]
  have h2 := hK _ _ h
  unfold ptr at h2
  simp only at h2
  unfold Oper.wp execOp
  simp only [hop]
  go_simp
  exact h2
theorem mk_z {ops : Array Oper} {Q : Exit → Act → World → Prop} {i d : Nat} {o : Oper} (hi : ops[i]? = some o) (hop : o.op = Op.alloc 34) (hd : o.dst = some d) (hg : o.guard = none) : MkRun Try.prog ops Q (i, d, 34, #[.bool false, .slice none 0 0]) := by
  intro a w K h
  refine wpOp_step hi (fun K' hK => ?_)
  have hw : Region.wanted o (yielded ops a.tmps) = true := by simp [Region.wanted, hg]
  rw [if_pos hw]
  have h2 := hK _ _ h
  unfold ptr at h2
  simp only at h2
  unfold Oper.wp execOp
  simp only [hop]
  go_simp
  exact h2
end Go.Proofs.Ytihbpkljjmpkjaa
