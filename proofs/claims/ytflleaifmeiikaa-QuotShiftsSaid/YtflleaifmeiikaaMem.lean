/- Words for memory: a slice that reads as the digits of a number; a row of the call's own that does. No function of the program in sight. -/
import Derived.Test.YtflleaifmeiikaaNum
import Derived.WalkKit
import Derived.Below
import Derived.Laws.OwnMore
import Derived.OwnWalk
import Derived.Deep.Draws
import Derived.Deep.AppendLies
import Derived.Maps.AppendAt
import Derived.Laws.Rows
import Derived.Lib.Hide
namespace Go.Proofs.Ytflleaifmeiikaa
open Go.RowKit

/-! ### a callee that leaves the world alone, met in a region that draws its order -/
theorem quietL {P : Program} {f : FuncId} {args : Array Value} {w : World} {n : Nat} {v : Value}
    (h : Calls P f args (w.drewN n) fun e w' => e = .returned v ∧ w.drewN n = w') : Calls P f args (w.drewN n) fun e w'' => e = .returned v ∧ ∃ m, w'' = w.drewN m :=
  h.mono fun _ _ ⟨he, hm⟩ => ⟨he, n, hm.symm⟩
theorem quietD {P : Program} {f : FuncId} {args : Array Value} {w : World} {n : Nat} {v : Value}
    (h : Calls P f args (w.drewN n) fun e w' => e = .returned v ∧ ∃ m, w' = (w.drewN n).drewN m) : Calls P f args (w.drewN n) fun e w'' => e = .returned v ∧ ∃ m, w'' = w.drewN m :=
  h.mono fun _ _ ⟨he, m, hm⟩ => ⟨he, n + m, by rw [hm, World.drewN_drewN]⟩
theorem quietDD {P : Program} {f : FuncId} {args : Array Value} {w : World} {a n : Nat} {v : Value}
    (h : Calls P f args (w.drewN (a + n)) fun e w' => e = .returned v ∧ ∃ m, w' = (w.drewN (a + n)).drewN m) :
    Calls P f args (w.drewN (a + n)) fun e w'' => e = .returned v ∧ ∃ m, w'' = w.drewN (a + m) :=
  h.mono fun _ _ ⟨he, m, hm⟩ => ⟨he, n + m, by rw [hm, World.drewN_drewN, Nat.add_assoc]⟩
theorem quietDL {P : Program} {f : FuncId} {args : Array Value} {w : World} {a n : Nat} {v : Value}
    (h : Calls P f args (w.drewN (a + n)) fun e w' => e = .returned v ∧ w.drewN (a + n) = w') : Calls P f args (w.drewN (a + n)) fun e w'' => e = .returned v ∧ ∃ m, w'' = w.drewN (a + m) :=
  h.mono fun _ _ ⟨he, hm⟩ => ⟨he, n, hm.symm⟩

/-! ### draws -/
theorem below_drewN {B : Nat} {a w : World} (h : Below B a w) (n : Nat) : Below B a (w.drewN n) := ⟨h.os, h.tape, h.output, h.size, h.block⟩
/-- one step behind another: 'nothing that was there has turned' -/
theorem nx {a b c : World} (h : Below a.heap.size a b) (k : Below b.heap.size b c) : Below a.heap.size a c := h.trans (k.mono h.size)
theorem nxd {a b : World} (h : Below a.heap.size a b) (n : Nat) : Below a.heap.size a (b.drewN n) := below_drewN h n
theorem nxa {a b : World} (h : Below a.heap.size a b) (o : Obj) : Below a.heap.size a (b.alloc o) := h.alloc h.size o
theorem below_of_none {w w' : World} (h : w.grownBy w' none) : Below w.heap.size w w' := ⟨h.os, h.tape, h.output, h.size, fun k hk => h.block k hk (by simp)⟩
theorem own_drewN {w : World} {base : Nat} {e : TypeId} {size : Nat} {v : Value} {n : Nat} {xs : List Value} (h : w.ownsRow base e size v n xs) (m : Nat) : (w.drewN m).ownsRow base e size v n xs := h
theorem below_of_grown {B : Nat} {a w w' : World} {row : Option Nat} (h : Below B a w) (hg : w.grownBy w' row) (hB : B ≤ w.heap.size) (hr : ∀ k, row = some k → B ≤ k) : Below B a w' := h.grown hg hB hr

theorem grownBy_of_below {w w' : World} {row : Option Nat} (h : Below w.heap.size w w') : w.grownBy w' row := ⟨h.os, h.tape, h.output, h.size, fun k hk _ => h.block k hk⟩
theorem own_below {w w' : World} {base : Nat} {e : TypeId} {size : Nat} {v : Value} {n : Nat} {xs : List Value} (h : w.ownsRow base e size v n xs) (hb : Below w.heap.size w w') : w'.ownsRow base e size v n xs :=
  h.kept (grownBy_of_below (row := none) hb) (by cases v.ownBlock <;> simp)
/-! ### a slice that reads as a number's digits -/
def Dig (k : IntKind) (b : Nat) (w : World) (A : Option Addr) (n c x : Nat) : Prop :=
  x < b ^ n ∧ n ≤ c ∧ c ≤ 9223372036854775807 ∧ (0 < n → ∃ g o, A = some ⟨g, o, none⟩ ∧ g < w.heap.size ∧ ∀ j, j < n → w.cell? ⟨g, o + j, none⟩ = some (.int k (dg b j x : Nat)))
section
variable {k : IntKind} {b : Nat} {w w' : World} {A : Option Addr} {n c x : Nat}
theorem Dig.lt (h : Dig k b w A n c x) : x < b ^ n := h.1
theorem Dig.cap (h : Dig k b w A n c x) : n ≤ c := h.2.1
theorem Dig.max (h : Dig k b w A n c x) : c ≤ 9223372036854775807 := h.2.2.1
theorem Dig.at_ (h : Dig k b w A n c x) (hn : 0 < n) : ∃ g o, A = some ⟨g, o, none⟩ ∧ g < w.heap.size ∧ ∀ j, j < n → w.cell? ⟨g, o + j, none⟩ = some (.int k (dg b j x : Nat)) := h.2.2.2 hn
theorem Dig.zero (h : Dig k b w A 0 c x) : x = 0 := by have := h.1; simpa using this
theorem Dig.keep {B : Nat} (h : Dig k b w A n c x) (hs : w.heap.size ≤ w'.heap.size) (hB : w.heap.size ≤ B) (hk : ∀ p : Addr, p.block < B → w'.cell? p = w.cell? p) : Dig k b w' A n c x := by
  refine ⟨h.1, h.2.1, h.2.2.1, fun hn => ?_⟩
  obtain ⟨g, o, e, hg, hc⟩ := h.2.2.2 hn
  exact ⟨g, o, e, by omega, fun j hj => (hk ⟨g, o + j, none⟩ (by show g < B; omega)).trans (hc j hj)⟩
theorem Dig.below {B : Nat} (h : Dig k b w A n c x) (hb : Below B w w') (hB : w.heap.size ≤ B) : Dig k b w' A n c x := h.keep hb.size hB fun _ hp => hb.cell hp
theorem Dig.drewN (h : Dig k b w A n c x) (m : Nat) : Dig k b (w.drewN m) A n c x := h
theorem Dig.drew (h : Dig k b w A n c x) : Dig k b w.drew A n c x := h
theorem Dig.alloc (h : Dig k b w A n c x) (o : Obj) : Dig k b (w.alloc o) A n c x := h.below ((Below.refl w.heap.size w).alloc (Nat.le_refl _) o) (Nat.le_refl _)
theorem Dig.far (h : Dig k b w A n c x) {p : Addr} (hp : ∀ a, A = some a → a.block ≠ p.block) (u : Value) : Dig k b (w.setCell p u) A n c x := by
  refine ⟨h.1, h.2.1, h.2.2.1, fun hn => ?_⟩
  obtain ⟨g, o, e, hg, hc⟩ := h.2.2.2 hn
  exact ⟨g, o, e, by simpa [World.setCell] using hg, fun j hj => (World.cell?_setCell_other w p ⟨g, o + j, none⟩ u (fun e' => hp _ e (by rw [e']))).trans (hc j hj)⟩
theorem Dig.nil (k : IntKind) (b : Nat) (w : World) (A : Option Addr) {c : Nat} (hc : c ≤ 9223372036854775807) : Dig k b w A 0 c 0 := ⟨by simp, Nat.zero_le _, hc, fun h => absurd h (by omega)⟩
end

/-! ### a row of the call's own -/
def dl (k : IntKind) (b n x : Nat) : List Value := (List.range n).map fun j => Value.int k (dg b j x : Nat)
theorem dl_length (k : IntKind) (b n x : Nat) : (dl k b n x).length = n := by simp [dl]
theorem dl_zero (k : IntKind) (b x : Nat) : dl k b 0 x = [] := rfl
theorem dl_get (k : IntKind) (b n x j : Nat) (hj : j < n) : (dl k b n x)[j]? = some (.int k (dg b j x : Nat)) := by simp [dl, hj]
theorem dl_one (k : IntKind) (b n x : Nat) : ∀ u ∈ dl k b n x, u.oneCell' = true := by
  intro u hu
  obtain ⟨_, _, rfl⟩ := List.mem_map.1 hu
  rfl
theorem dl_congr {k : IntKind} {b n x y : Nat} (h : ∀ j, j < n → dg b j x = dg b j y) : dl k b n x = dl k b n y :=
  List.map_congr_left fun j hj => by rw [h j (List.mem_range.1 hj)]
theorem dl_snoc {k : IntKind} {b n x d : Nat} (hb : 0 < b) (hx : x < b ^ n) (hd : d < b) : dl k b n x ++ [.int k (d : Nat)] = dl k b (n + 1) (x + d * b ^ n) := by
  unfold dl
  rw [List.range_succ, List.map_append, List.map_cons, List.map_nil, dg_add_at hx hd]
  congr 1
  exact List.map_congr_left fun j hj => by rw [dg_add_hi hb (List.mem_range.1 hj)]
theorem dl_append {k : IntKind} {b n m x y : Nat} (hb : 0 < b) (hx : x < b ^ n) : dl k b n x ++ dl k b m y = dl k b (n + m) (x + y * b ^ n) := by
  apply List.ext_getElem?
  intro j
  by_cases h1 : j < n
  · rw [List.getElem?_append_left (by rw [dl_length]; exact h1), dl_get _ _ _ _ _ h1, dl_get _ _ _ _ _ (by omega), dg_add_hi hb h1]
  · by_cases h2 : j < n + m
    · rw [List.getElem?_append_right (by rw [dl_length]; omega), dl_length, dl_get _ _ _ _ _ (by omega), dl_get _ _ _ _ _ h2]
      congr 3
      unfold dg
      obtain ⟨i, rfl⟩ : ∃ i, j = n + i := ⟨j - n, by omega⟩
      rw [show n + i - n = i by omega, Nat.pow_add, ← Nat.div_div_eq_div_mul, Nat.add_mul_div_right _ _ (Nat.pow_pos hb), Nat.div_eq_of_lt hx, Nat.zero_add]
    · rw [List.getElem?_eq_none (by simp [dl_length]; omega), List.getElem?_eq_none (by rw [dl_length]; omega)]
theorem dl_zeros (k : IntKind) (b n : Nat) : dl k b n 0 = List.replicate n (.int k 0) := by
  apply List.ext_getElem?
  intro j
  by_cases h : j < n
  · rw [dl_get _ _ _ _ _ h, dg_zero]; simp [h]
  · rw [List.getElem?_eq_none (by rw [dl_length]; omega), List.getElem?_eq_none (by simp; omega)]
theorem dl_set {k : IntKind} {b n x i d : Nat} (hb : 0 < b) (hi : i < n) (hd : d < b) : (dl k b n x).set i (.int k (d : Nat)) = dl k b n (put b i x d) := by
  apply List.ext_getElem?
  intro j
  by_cases h : j < n
  · rw [List.getElem?_set, dl_get _ _ _ _ _ h, dl_get _ _ _ _ _ h, dg_put hb hd]
    by_cases e : i = j
    · subst e; rw [if_pos rfl, if_pos (by rw [dl_length]; exact hi), if_pos rfl]
    · rw [if_neg e, if_neg (fun h => e h.symm)]
  · rw [List.getElem?_eq_none (by simp [dl_length]; omega), List.getElem?_eq_none (by rw [dl_length]; omega)]

section
variable {k : IntKind} {b : Nat} {w w' : World} {base : Nat} {e : TypeId} {v : Value} {n x : Nat}
/-- an owned row's shape -/
theorem own_form (h : w.ownsRow base e 1 v n (dl k b n x)) (hx : x < b ^ n) : ∃ A c, v = .slice A n c ∧ Dig k b w A n c x ∧ ∀ a, A = some a → base ≤ a.block := by
  rcases h.2 with ⟨rfl, rfl⟩ | ⟨g, cap, cur, rfl, hb, hg, hnc, hcm, hcs, htake⟩
  · refine ⟨none, 0, rfl, ⟨hx, Nat.le_refl _, by omega, fun h => absurd h (by omega)⟩, fun a ha => by cases ha⟩
  · refine ⟨_, cap, rfl, ⟨hx, hnc, hcm, fun hn => ⟨g, 0, rfl, (Array.getElem?_eq_some_iff.1 hg).1, fun j hj => ?_⟩⟩, fun a ha => by cases ha; exact hb⟩
    rw [Nat.zero_add, h.cellAt j (by omega)]
    exact dl_get _ _ _ _ _ hj
/-- the same where it lies, for a row that is not empty -/
theorem own_lies (h : w.ownsRow base e 1 v n (dl k b n x)) (hn : 0 < n) : ∃ g c, v = .slice (some ⟨g, 0, none⟩) n c ∧ base ≤ g ∧ g < w.heap.size ∧ n ≤ c ∧ c ≤ 9223372036854775807 ∧ (∀ j, j < n → w.cell? ⟨g, j, none⟩ = some (.int k (dg b j x : Nat))) ∧ ∀ j, w.frozen? ⟨g, j, none⟩ = false := by
  rcases h.2 with ⟨rfl, rfl⟩ | ⟨g, cap, cur, rfl, hb, hg, hnc, hcm, hcs, htake⟩
  · omega
  · exact ⟨g, cap, rfl, hb, (Array.getElem?_eq_some_iff.1 hg).1, hnc, hcm, fun j hj => by rw [h.cellAt j (by omega)]; exact dl_get _ _ _ _ _ hj, fun j => h.frozenAt j⟩
theorem made_dl (k : IntKind) (b n : Nat) : (madeCells #[Value.int k 0] n).toList = dl k b n 0 := by rw [toList_madeCells_one, dl_zeros]
theorem own_nil (w : World) (base : Nat) (e : TypeId) (k : IntKind) (b : Nat) : w.ownsRow base e 1 (.slice none 0 0) 0 (dl k b 0 0) := World.ownsRow_nil w base e 1
/-- one more digit: the cell that append lays for its one new element -/
theorem news_one (w : World) (u : Value) (e : TypeId) : ∀ j v, [u][j]? = some v → (w.alloc (.cells #[u] e)).cell? ((⟨w.heap.size, 0, none⟩ : Addr).add j) = some v := by
  intro j v hj
  match j, hj with
  | 0, hj => simp at hj; subst hj; simp [Addr.add]
theorem one_one (k : IntKind) (d : Int) : ∀ u ∈ [Value.int k d], u.oneCell' = true := by
  intro u hu; simp at hu; subst hu; rfl
/-- what a source reads as, for an append of many -/
theorem Dig.news {A : Option Addr} {c : Nat} (h : Dig k b w A n c x) : ∀ ad, A = some ad → ∀ j u, (dl k b n x)[j]? = some u → w.cell? (ad.add j) = some u := by
  intro ad had j u hu
  have hj : j < n := by
    have := (List.getElem?_eq_some_iff.1 hu).1
    rwa [dl_length] at this
  obtain ⟨g, o, e, _, hc⟩ := h.at_ (by omega)
  rw [had] at e
  obtain rfl := Option.some.inj e
  rw [Addr.add_lit, hc j hj]
  rw [dl_get _ _ _ _ _ hj] at hu
  exact hu
/-- a cut of a slice that reads as digits: from a place on -/
theorem Dig.from_ {A : Option Addr} {c : Nat} (h : Dig k b w A n c x) {i : Nat} (hi : i ≤ n) {A' : Option Addr} (hA : ∀ g o, A = some ⟨g, o, none⟩ → ¬ c = i → A' = some ⟨g, o + i, none⟩) : Dig k b w A' (n - i) (c - i) (x / b ^ i) := by
  have hc := h.cap
  refine ⟨?_, by omega, by have := h.max; omega, fun hn => ?_⟩
  · apply Nat.div_lt_of_lt_mul
    rw [← Nat.pow_add, show i + (n - i) = n by omega]; exact h.1
  · obtain ⟨g, o, e, hg, hcell⟩ := h.at_ (by omega)
    refine ⟨g, o + i, hA g o e (by omega), hg, fun j hj => ?_⟩
    rw [Nat.add_assoc, hcell (i + j) (by omega)]
    congr 3
    unfold dg
    rw [Nat.pow_add, ← Nat.div_div_eq_div_mul]
theorem Dig.shrink {A : Option Addr} {c m : Nat} (h : Dig k b w A n c x) (hm : m ≤ n) (hx : x < b ^ m) : Dig k b w A m c x := by
  have hc := h.cap
  refine ⟨hx, by omega, h.max, fun hn => ?_⟩
  obtain ⟨g, o, e, hg, hcell⟩ := h.at_ (by omega)
  exact ⟨g, o, e, hg, fun j hj => hcell j (by omega)⟩
/-- a cut: up to a place -/
theorem Dig.upto {A : Option Addr} {c : Nat} (hb : 0 < b) (h : Dig k b w A n c x) {i : Nat} (hi : i ≤ n) : Dig k b w A i c (x % b ^ i) := by
  have hc := h.cap
  refine ⟨Nat.mod_lt _ (Nat.pow_pos hb), by omega, h.max, fun hn => ?_⟩
  obtain ⟨g, o, e, hg, hcell⟩ := h.at_ (by omega)
  exact ⟨g, o, e, hg, fun j hj => by rw [hcell j (by omega), dg_mod hb hj]⟩
end

/-! ### append of many to a row of the call's own, the source nil, empty or not -/
section
variable {P : Program} (w : World)
theorem run_append_of_nil (base : Nat) (t ty e : TypeId) (i : TypeInfo) (size : Nat) (ht : P.underlying t = some (.slice e)) (hi : P.info? e = some i)
    (v : Value) (n : Nat) (xs : List Value) (hown : w.ownsRow base e size v n xs) (c : Nat) : (Builtin.append_ #[t, t] ty #[v, .slice none 0 c]).run P w = .ok v w := by
  rcases hown.2 with ⟨rfl, rfl⟩ | ⟨g, cap, cur, rfl, _, _, hnc, _⟩
  · simp [Builtin.append_, run_underlying ht, sizeOf, typeInfo, hi, Builtin.lenOf, Builtin.firstCells]
  · simp [Builtin.append_, run_underlying ht, sizeOf, typeInfo, hi, Builtin.lenOf, Builtin.firstCells, hnc, storeCells]
theorem wpList_append_dig {ops : Array Oper} {rest : List Oper} {o : Oper} {a : Act} {Q : Exit → Act → World → Prop} (hgd : o.guard = none) (s x : Operand) (t : TypeId)
    (ho : o.op = .call { callee := .builtin .append, args := #[s, x], argTypes := #[t, t] })
    (base : Nat) (e : TypeId) (i : TypeInfo) (z : Value) (bytes : Nat) (ht : P.underlying t = some (.slice e)) (hi : P.info? e = some i) (hz : i.zero = some z)
    (hsize : i.size = 1) (hby : i.bytes = bytes) (hzs : z.cells.size = 1) (k : IntKind) (b : Nat)
    (v : Value) (n X : Nat) (hs : a.eval s = v) (hown : w.ownsRow base e 1 v n (dl k b n X)) (A : Option Addr) (m c Y : Nat) (hx : a.eval x = .slice A m c) (hd : Dig k b w A m c Y)
    (h63 : n + m ≤ maxLen) (hbytes : (n + m) * bytes ≤ 140737488355328) (hbase : base ≤ w.heap.size) (hb : 0 < b) (hX : X < b ^ n)
    (h : ∀ v' w', w'.ownsRow base e 1 v' (n + m) (dl k b (n + m) (X + Y * b ^ n)) → w.grownBy w' v.ownBlock → wpList P ops Q rest (a.put o.dst v') w') : wpList P ops Q (o :: rest) a w := by
  rw [← dl_append hb hX] at h
  rcases A with _ | ad
  · have hm : m = 0 := by
      rcases Nat.eq_zero_or_pos m with h0 | h0
      · exact h0
      · obtain ⟨g, o, h, _⟩ := hd.at_ h0
        cases h
    subst hm
    refine wpList_plain hgd fun K hK => ?_
    have hrun := run_append_of_nil (P := P) w base t o.type e i 1 ht hi v n _ hown c
    unfold Oper.wp execOp
    simp only [ho, resolve, invoke, builtin, Sem.run_bind, Sem.run_pure, Result.andThen_ok, List.map_toArray, List.map_cons, List.map_nil, hs, hx, hrun]
    refine hK _ _ (h v w ?_ (World.grownBy.refl w _))
    rw [dl_zero, List.append_nil]; exact hown
  · refine wpList_append_own w hgd s x t ho base e i z 1 bytes ht hi hz hsize hby hzs (by decide) v n _ hs hown ad m c (dl k b m Y) hx (by rw [dl_length]; omega) (hd.news ad rfl) (dl_one _ _ _ _) h63 hbytes hbase ?_
    intro v' w' h1 h2 _
    exact h v' w' h1 h2
end

/-! ### a block of one cell (a struct's box, a result's variable) -/
def Blk1 (w : World) (g : Nat) (t : TypeId) (v : Value) : Prop := w.heap[g]? = some (.cells #[v] t (0, 0))
section
variable {w w' : World} {g : Nat} {t : TypeId} {v : Value}
theorem Blk1.lt (h : Blk1 w g t v) : g < w.heap.size := by
  rcases Nat.lt_or_ge g w.heap.size with hlt | hge
  · exact hlt
  · unfold Blk1 at h; rw [Array.getElem?_eq_none hge] at h; cases h
theorem Blk1.cell (h : Blk1 w g t v) : w.cell? ⟨g, 0, none⟩ = some v := cell_of_row w g 0 _ t (0, 0) h
theorem Blk1.free (h : Blk1 w g t v) : w.frozen? ⟨g, 0, none⟩ = false := by
  unfold Blk1 at h
  simp [World.frozen?, h]
theorem Blk1.new (w : World) (t : TypeId) (v : Value) : Blk1 (w.alloc (.cells #[v] t)) w.heap.size t v := heap_alloc_new w _
theorem Blk1.grown {row : Option Nat} (h : Blk1 w g t v) (hg : w.grownBy w' row) (hr : some g ≠ row) : Blk1 w' g t v := (hg.block g h.lt hr).trans h
theorem Blk1.to (h : Blk1 w g t v) (hb : Below w.heap.size w w') : Blk1 w' g t v := (hb.block g h.lt).trans h
theorem Blk1.drew (h : Blk1 w g t v) : Blk1 w.drew g t v := h
theorem Blk1.drewN (h : Blk1 w g t v) (n : Nat) : Blk1 (w.drewN n) g t v := h
theorem Blk1.alloc (h : Blk1 w g t v) (o : Obj) : Blk1 (w.alloc o) g t v := (Below.heap_alloc w o g h.lt).trans h
theorem Blk1.far (h : Blk1 w g t v) {p : Addr} (hp : g ≠ p.block) (u : Value) : Blk1 (w.setCell p u) g t v := (Below.heap_setCell w p u g hp).trans h
theorem Blk1.below {B : Nat} (h : Blk1 w g t v) (hb : Below B w w') (hg : g < B) : Blk1 w' g t v := (hb.block g hg).trans h
end
/-- a store over a cell that holds no number touches no digits -/
theorem Dig.put_ {k : IntKind} {b : Nat} {w : World} {A : Option Addr} {n c x : Nat} (h : Dig k b w A n c x) {p : Addr} {v : Value} (hp : w.cell? p = some v) (hv : ∀ k i, v ≠ .int k i) (u : Value) : Dig k b (w.setCell p u) A n c x := by
  refine ⟨h.1, h.2.1, h.2.2.1, fun hn => ?_⟩
  obtain ⟨g, o, e, hg, hc⟩ := h.2.2.2 hn
  refine ⟨g, o, e, by simpa [World.setCell] using hg, fun j hj => (World.cell?_setCell_other w p ⟨g, o + j, none⟩ u (fun e' => ?_)).trans (hc j hj)⟩
  have := hc j hj
  rw [← e', hp] at this
  exact hv _ _ (Option.some.inj this)

/-! ### what a function hands back -/
def Fresh (B : Nat) (A : Option Addr) : Prop := ∀ a, A = some a → B ≤ a.block
theorem Fresh.mono {B B' : Nat} {A : Option Addr} (h : Fresh B A) (hB : B' ≤ B) : Fresh B' A := fun a ha => Nat.le_trans hB (h a ha)
def RetDig (k : IntKind) (b : Nat) (w : World) (n x : Nat) (e : Ending) (w' : World) : Prop := ∃ A c, e = .returned (.slice A n c) ∧ Dig k b w' A n c x ∧ Below w.heap.size w w' ∧ Fresh w.heap.size A
def Ret (w : World) (v : Value) (e : Ending) (w' : World) : Prop := e = .returned v ∧ Below w.heap.size w w'
theorem Ret.of_drewN {w w' : World} {e : Ending} {v : Value} (h : e = .returned v ∧ ∃ n, w' = w.drewN n) : Ret w v e w' := by
  obtain ⟨h1, n, rfl⟩ := h
  exact ⟨h1, below_drewN (Below.refl _ _) n⟩
end Go.Proofs.Ytflleaifmeiikaa
