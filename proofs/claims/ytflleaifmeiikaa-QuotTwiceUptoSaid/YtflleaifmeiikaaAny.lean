/- A region that draws its order, whose last operations (the list tl) may write what its loads read: behind those the condition S on the world is not asked any more. Laws on regions; no program in sight. -/
import Derived.Test.YtflleaifmeiikaaNatKit
import Derived.Deep.RegionHeld3
set_option linter.unusedVariables false
namespace Go.Proofs.Ytflleaifmeiikaa
open Go.RowKit
section
variable {P : Program} {ops : Array Oper} {Q : Exit → Act → World → Prop} {md : Region.Mode} {S : World → Prop} {tl : List Nat}
/-- whatever order: S behind each operation that is not one of the tail's -/
def anyT (P : Program) (md : Region.Mode) (ops : Array Oper) (Q : Exit → Act → World → Prop) (S : World → Prop) (tl : List Nat) : Nat → Array Bool → Act → World → Prop
  | 0, listed, a, w => Region.ready md ops listed = [] ∧ Q .normal a w
  | fuel + 1, listed, a, w =>
    (Region.ready md ops listed = [] → Q .normal a w) ∧
    ∀ i ∈ Region.ready md ops listed, wpOp P ops Q i (fun a' w' => (tl.contains i = false → S w') ∧ anyT P md ops Q S tl fuel (listed.setIfInBounds i true) a' w') a w
theorem anyT_any : ∀ (fuel : Nat) (listed : Array Bool) (a : Act) (w : World), anyT P md ops Q S tl fuel listed a w → wpAny P md ops Q fuel listed a w
  | 0, _, _, _, h => h
  | fuel + 1, _, _, _, h => ⟨h.1, fun i hi => wpOp_mono (fun a' w' h' => anyT_any fuel _ a' w' h'.2) (h.2 i hi)⟩
/-- every operation of the tail waits for number i -/
def waits (md : Region.Mode) (ops : Array Oper) (tl : List Nat) (i : Nat) : Bool :=
  !tl.contains i && tl.all fun j => match ops[j]? with
    | some o => o.after.any fun e => Region.binds md e && decide (e.on = i)
    | none => true
theorem waits_spec {i : Nat} (h : waits md ops tl i = true) : tl.contains i = false ∧ ∀ j oj, tl.contains j = true → ops[j]? = some oj → ∃ e ∈ oj.after, Region.binds md e = true ∧ e.on = i := by
  unfold waits at h
  rw [Bool.and_eq_true] at h
  refine ⟨by simpa using h.1, fun j oj hj ho => ?_⟩
  have h2 := List.all_eq_true.1 h.2 j (by simpa using hj)
  rw [ho] at h2
  obtain ⟨k, hk, he⟩ := Array.any_eq_true.1 h2
  rw [Bool.and_eq_true] at he
  exact ⟨oj.after[k], Array.getElem_mem hk, he.1, of_decide_eq_true he.2⟩
theorem anyT_first {i : Nat} {oi : Oper} {v : Value} (hi : ops[i]? = some oi) (hsel : ∀ (j : Nat) (o : Oper) cs b, ops[j]? = some o → o.op ≠ .select cs b)
    (hQ : ∀ c a w, Q (.panic c) (a.put oi.dst v) w → Q (.panic c) a w) (hw : waits md ops tl i = true) :
    ∀ (fuel : Nat) (listed : Array Bool) (a : Act) (w : World),
      (∀ j oj, ops[j]? = some oj → j ≠ i → listed.getD j true = false → (∀ e ∈ oj.after, Region.binds md e = true → e.on ≠ i) → oi.apart ops oj = true) →
      i ∈ Region.ready md ops listed → YieldsIf P ops S oi v a → S w →
      anyT P md ops Q S tl fuel (listed.setIfInBounds i true) (a.put oi.dst v) w → anyT P md ops Q S tl (fuel + 1) listed a w := by
  obtain ⟨hti, htl⟩ := waits_spec hw
  intro fuel
  induction fuel with
  | zero =>
    intro listed a w _ hr hy hS H
    refine ⟨fun h => (by rw [h] at hr; cases hr), fun j hj => ?_⟩
    by_cases hji : j = i
    · subst hji; exact hy.wpOp hi hS ⟨fun _ => hS, H⟩
    · have := ready_mono hj hji
      rw [H.1] at this
      cases this
  | succ fuel ih =>
    intro listed a w hfree hr hy hS H
    refine ⟨fun h => (by rw [h] at hr; cases hr), fun j hj => ?_⟩
    by_cases hji : j = i
    · subst hji; exact hy.wpOp hi hS ⟨fun _ => hS, H⟩
    · have h1 := H.2 j (ready_mono hj hji)
      obtain ⟨hjun, oj, hoj, hall⟩ := mem_ready.1 hj
      have hnot : ∀ e ∈ oj.after, Region.binds md e = true → e.on ≠ i := fun e he hb heq => by
        have h1 := hall e he hb
        have h0 := (mem_ready.1 hr).1
        rw [heq] at h1
        rcases Nat.lt_or_ge i listed.size with h' | h'
        · simp [h'] at h0 h1; rw [h0] at h1; cases h1
        · simp [Array.getElem?_eq_none h'] at h1
      have htj : tl.contains j = false := by
        rcases Bool.eq_false_or_eq_true (tl.contains j) with h | h
        · obtain ⟨e, he, hb, heq⟩ := htl j oj h hoj
          exact absurd heq (hnot e he hb)
        · exact h
      have h2 := wpOp_putIf hoj (hfree j oj hoj hji hjun hnot) (fun cs b => hsel i oi cs b hi) (fun cs b => hsel j oj cs b hoj) hQ hy h1
      have hfree' : ∀ k ok, ops[k]? = some ok → k ≠ i → (listed.setIfInBounds j true).getD k true = false →
          (∀ e ∈ ok.after, Region.binds md e = true → e.on ≠ i) → oi.apart ops ok = true := fun k ok hk hki hun hno => by
        refine hfree k ok hk hki ?_ hno
        by_cases hjk : j = k
        · subst hjk; exact hjun
        · rw [getD_set_ne true hjk] at hun; exact hun
      refine wpOp_mono (fun a' w' h3 => ⟨fun _ => h3.2.1 htj, ih (listed.setIfInBounds j true) a' w' hfree' (ready_mono hr (Ne.symm hji)) h3.1 (h3.2.1 htj) ?_⟩) h2
      rw [Array.setIfInBounds_comm _ _ hji]
      exact h3.2.2
/-- number i is taken first -/
theorem anyT_take {i : Nat} {oi : Oper} {v : Value} {fuel : Nat} {listed : Array Bool} {a : Act} {w : World} (hi : ops[i]? = some oi)
    (hs : Region.noSelect ops = true) (hf : Region.free md ops listed i = true) (hr : (Region.ready md ops listed).contains i = true) (hw : waits md ops tl i = true)
    (hQ : ∀ c a w, Q (.panic c) (a.put oi.dst v) w → Q (.panic c) a w) (hy : YieldsIf P ops S oi v a) (hS : S w)
    (h : anyT P md ops Q S tl fuel (listed.setIfInBounds i true) (a.put oi.dst v) w) : anyT P md ops Q S tl (fuel + 1) listed a w :=
  anyT_first hi (Region.noSelect_spec hs) hQ hw fuel listed a w (Region.free_spec hi hf) (by simpa using hr) hy hS h
/-- each of those that may come up: behind it S is to be shown, but behind the tail's -/
def ReadyT (P : Program) (md : Region.Mode) (ops : Array Oper) (Q : Exit → Act → World → Prop) (S : World → Prop) (tl : List Nat) (fuel : Nat) (listed : Array Bool) (a : Act) (w : World) (rs : List Nat) : Prop :=
  ∀ i ∈ rs, wpOp P ops Q i (fun a' w' => (tl.contains i = false → S w') ∧ anyT P md ops Q S tl fuel (listed.setIfInBounds i true) a' w') a w
theorem ReadyT.nil {fuel : Nat} {listed : Array Bool} {a : Act} {w : World} : ReadyT P md ops Q S tl fuel listed a w [] := fun _ h => by cases h
theorem ReadyT.cons {fuel : Nat} {listed : Array Bool} {a : Act} {w : World} {i : Nat} {o : Oper} {rs : List Nat} (ho : ops[i]? = some o)
    (h : ∀ K' : Act → World → Prop, Shut (∀ a w, S w → (S w → anyT P md ops Q S tl fuel (listed.setIfInBounds i true) a w) → K' a w) → if Region.wanted o (yielded ops a.tmps) = true then Oper.wp P o a w K' Q else K' (a.put o.dst undef) w)
    (hs : ReadyT P md ops Q S tl fuel listed a w rs) : ReadyT P md ops Q S tl fuel listed a w (i :: rs) := fun j hj => by
  rcases List.mem_cons.1 hj with rfl | hj
  · exact wpOp_step ho (fun K' hK => h K' (fun a w hS hW => hK a w ⟨fun _ => hS, hW hS⟩))
  · exact hs j hj
/-- one of the tail's -/
theorem ReadyT.last {fuel : Nat} {listed : Array Bool} {a : Act} {w : World} {i : Nat} {o : Oper} (ho : ops[i]? = some o) (ht : tl.contains i = true)
    (h : ∀ K' : Act → World → Prop, Shut (∀ a w, anyT P md ops Q S tl fuel (listed.setIfInBounds i true) a w → K' a w) → if Region.wanted o (yielded ops a.tmps) = true then Oper.wp P o a w K' Q else K' (a.put o.dst undef) w) :
    ReadyT P md ops Q S tl fuel listed a w [i] := fun j hj => by
  obtain rfl : j = i := by simpa using hj
  exact wpOp_step ho (fun K' hK => h K' (fun a w hW => hK a w ⟨(fun h => by rw [ht] at h; cases h), hW⟩))
theorem anyT_ready {rs : List Nat} {fuel : Nat} {listed : Array Bool} {a : Act} {w : World} (hr : Region.ready md ops listed = rs) (hne : rs ≠ [])
    (h : ReadyT P md ops Q S tl fuel listed a w rs) : anyT P md ops Q S tl (fuel + 1) listed a w := ⟨fun h0 => absurd (hr ▸ h0) hne, hr ▸ h⟩
theorem anyT_done {listed : Array Bool} {a : Act} {w : World} (hr : Region.ready md ops listed = []) (h : Q .normal a w) : ∀ fuel, anyT P md ops Q S tl fuel listed a w
  | 0 => ⟨hr, h⟩
  | _ + 1 => ⟨fun _ => h, by rw [hr]; simp⟩
theorem wp_regionT {id : Nat} {a : Act} {w : World} (tl : List Nat) (hm : P.follows .mixedOrders = true) (hS : S w.drew)
    (h : S w.drew → anyT P .any ops Q S tl ops.size (Array.replicate ops.size false) a w.drew) : (Code.region id ops true).wp P Q a w :=
  wp_region_any hm (anyT_any _ _ _ _ (h hS))
end
/-! ### make and append, met in a region that draws its order -/
theorem wp_make {P : Program} {w : World} {o : Oper} {a : Act} {K : Act → World → Prop} {Q : Exit → Act → World → Prop} (l c : Operand) (t : TypeId) (hop : o.op = Op.makeSlice t l c)
    (base : Nat) (e : TypeId) (i : TypeInfo) (z : Value) (h1 : P.underlying t = some (.slice e)) (h2 : P.info? e = some i) (h3 : i.zero = some z) (h4 : i.size = 1)
    (kl kc : IntKind) (L C : Int) (n : Nat) (hl : a.eval l = .int kl L) (hc : a.eval c = .int kc C) (hL : L = (n : Int)) (hC : C = (n : Int)) (b2 : i.bytes * n ≤ 281474976710656) (b3 : n ≤ maxLen) (b4 : base ≤ w.heap.size)
    (hK : ∀ w', w'.ownsRow base e 1 (.slice (some ⟨w.heap.size, 0, none⟩) n n) n (madeCells z.cells n).toList → w.grownBy w' none → K (a.put o.dst (.slice (some ⟨w.heap.size, 0, none⟩) n n)) w') :
    Oper.wp P o a w K Q := by
  obtain ⟨w', hrun, r1, r2⟩ := run_make_full (P := P) w base t e i z 1 h1 h2 h3 h4 kl kc n b2 b3 b4
  subst hL
  subst hC
  unfold Oper.wp
  simp [execOp, hop, hl, hc, hrun, Result.andThen]
  rw [Nat.mul_one] at r1
  exact hK w' r1 r2
theorem wp_append {P : Program} {w : World} {o : Oper} {a : Act} {K : Act → World → Prop} {Q : Exit → Act → World → Prop} (s x : Operand) (t : TypeId)
    (ho : o.op = .call { callee := .builtin .append, args := #[s, x], argTypes := #[t, t] })
    (base : Nat) (e : TypeId) (i : TypeInfo) (z : Value) (bytes : Nat) (ht : P.underlying t = some (.slice e)) (hi : P.info? e = some i) (hz : i.zero = some z)
    (hsize : i.size = 1) (hby : i.bytes = bytes) (hzs : z.cells.size = 1) (k : IntKind) (b : Nat)
    (v : Value) (n X : Nat) (hs : a.eval s = v) (hown : w.ownsRow base e 1 v n (dl k b n X)) (A : Option Addr) (m c Y : Nat) (hx : a.eval x = .slice A m c) (hd : Dig k b w A m c Y)
    (h63 : n + m ≤ maxLen) (hbytes : (n + m) * bytes ≤ 140737488355328) (hbase : base ≤ w.heap.size) (hb : 0 < b) (hX : X < b ^ n)
    (h : ∀ v' w', w'.ownsRow base e 1 v' (n + m) (dl k b (n + m) (X + Y * b ^ n)) → w.grownBy w' v.ownBlock → K (a.put o.dst v') w') : Oper.wp P o a w K Q := by
  rw [← dl_append hb hX] at h
  rcases A with _ | ad
  · have hm : m = 0 := by
      rcases Nat.eq_zero_or_pos m with h0 | h0
      · exact h0
      · obtain ⟨g, o, h, _⟩ := hd.at_ h0
        cases h
    subst hm
    have hrun := run_append_of_nil (P := P) w base t o.type e i 1 ht hi v n _ hown c
    unfold Oper.wp execOp
    simp only [ho, resolve, invoke, builtin, Sem.run_bind, Sem.run_pure, Result.andThen_ok, List.map_toArray, List.map_cons, List.map_nil, hs, hx, hrun]
    refine h v w ?_ (World.grownBy.refl w _)
    rw [dl_zero, List.append_nil]; exact hown
  · obtain ⟨v', w', hr, h2, h3, h4, h5⟩ := run_append_own_at (P := P) w base t o.type e i z 1 bytes ht hi hz hsize hby hzs (by decide) v n _ hown ad m c (dl k b m Y) (by rw [dl_length]; omega) (hd.news ad rfl) (dl_one _ _ _ _) h63 hbytes hbase
    unfold Oper.wp execOp
    simp only [ho, resolve, invoke, builtin, Sem.run_bind, Sem.run_pure, Result.andThen_ok, List.map_toArray, List.map_cons, List.map_nil, hs, hx, hr]
    exact h v' w' h2 h3
/-- a number stored into its variable, met in a region that draws its order -/
theorem wp_store_nat {w : World} {o : Oper} {a : Act} {K : Act → World → Prop} {Q : Exit → Act → World → Prop} (p v : Operand) (ho : o.op = Op.store 25 p v) {g T : Nat} {u : Value} {A : Option Addr} {n c : Nat}
    (hp : a.eval p = .pointer (some ⟨g, 0, none⟩)) (hv : a.eval v = .agg #[.slice A n c]) (X : Blk1 w g T u) (h : K (a.put o.dst undef) (w.setCell ⟨g, 0, none⟩ (.slice A n c))) : Oper.wp Try.prog o a w K Q := by
  have c0 := X.cell
  have f0 := X.free
  unfold Oper.wp execOp
  simp only [ho, hp, hv]
  go_simp
  exact h
/-! ### a local number: its variable's block, and what lies there -/
theorem Blk1.set {w : World} {g : Nat} {t : TypeId} {u : Value} (h : Blk1 w g t u) (v : Value) : Blk1 (w.setCell ⟨g, 0, none⟩ v) g t v := by
  have := heap_setCell_same w g 0 #[u] t v h
  simpa [Blk1] using this
theorem nxs {a b : World} (h : Below a.heap.size a b) {p : Addr} (hp : a.heap.size ≤ p.block) (v : Value) : Below a.heap.size a (b.setCell p v) := h.setCell hp v
/-- a store into a block that is younger than w0 -/
theorem Blk1.young {w0 w : World} {g : Nat} {t : TypeId} {u : Value} (h : Blk1 w0 g t u) (hb : Below w0.heap.size w0 w) {p : Addr} (hp : w0.heap.size ≤ p.block) (v : Value) : Blk1 (w.setCell p v) g t u := h.to (nxs hb hp v)
theorem Blk1.size {w : World} {g : Nat} {t : TypeId} {u : Value} (h : Blk1 w g t u) {w' : World} (hb : Below w.heap.size w w') : g < w'.heap.size := (h.to hb).lt
/-- the variable's block g holds a number that reads as x -/
def Loc (w : World) (g A' : Nat) (A : Option Addr) (n c x : Nat) : Prop := Blk1 w g A' (.slice A n c) ∧ NatAt w A n c x
theorem Loc.to {w w' : World} {g T : Nat} {A : Option Addr} {n c x : Nat} (h : Loc w g T A n c x) (hb : Below w.heap.size w w') : Loc w' g T A n c x := ⟨h.1.to hb, h.2.to hb⟩
theorem store1 {w0 w : World} {g T : Nat} {a : Option Addr} {m d : Nat} {A : Option Addr} {n c x : Nat} (hb : Below w0.heap.size w0 w) (hg : w0.heap.size ≤ g) (X : Blk1 w g T (.slice a m d)) (h : NatAt w A n c x) :
    Loc (w.setCell ⟨g, 0, none⟩ (.slice A n c)) g T A n c x ∧ Below w0.heap.size w0 (w.setCell ⟨g, 0, none⟩ (.slice A n c)) :=
  ⟨⟨X.set _, h.put_ X.cell _⟩, hb.setCell hg _⟩
theorem store2 {w0 w : World} {g T : Nat} {a : Option Addr} {m d : Nat} {A : Option Addr} {n c x : Nat} {g' : Nat} {a' : Option Addr} {m' d' : Nat} {A' : Option Addr} {n' c' x' : Nat}
    (hb : Below w0.heap.size w0 w) (hg : w0.heap.size ≤ g) (hg' : w0.heap.size ≤ g') (hne : g ≠ g') (X : Blk1 w g T (.slice a m d)) (X' : Blk1 w g' T (.slice a' m' d')) (h : NatAt w A n c x) (h' : NatAt w A' n' c' x') :
    Loc ((w.setCell ⟨g, 0, none⟩ (.slice A n c)).setCell ⟨g', 0, none⟩ (.slice A' n' c')) g T A n c x ∧ Loc ((w.setCell ⟨g, 0, none⟩ (.slice A n c)).setCell ⟨g', 0, none⟩ (.slice A' n' c')) g' T A' n' c' x' ∧
    Below w0.heap.size w0 ((w.setCell ⟨g, 0, none⟩ (.slice A n c)).setCell ⟨g', 0, none⟩ (.slice A' n' c')) := by
  have Y' := X'.far (p := ⟨g, 0, none⟩) (Ne.symm hne) (.slice A n c)
  obtain ⟨l1, b1⟩ := store1 hb hg X h
  obtain ⟨l2, b2⟩ := store1 b1 hg' Y' (h'.put_ X.cell (.slice A n c))
  exact ⟨⟨l1.1.far hne _, l1.2.put_ Y'.cell _⟩, l2, b2⟩
end Go.Proofs.Ytflleaifmeiikaa
