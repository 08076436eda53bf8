/- A region that draws its order, whose last operations (the list tl) may write what its loads read: behind those the condition S on the world is not asked any more. Laws on regions; no program in sight.
   A region that draws its order, some of whose operations (the list tl: stores) write what its loads read: S on the world is asked as long as none of them has come up; plain operations may come behind them. Laws on regions; no program in sight.
   A region that draws its order and makes local variables: whenever those are made, one order of the other operations is enough. Laws on regions; no program in sight.
   What laws made by auto.py share: a literal of one word that is no numeral; the number 0. -/
import Derived.Deep.RegionHeld3
import Derived.Deep.DeepCutAuto
import Derived.Test.YtflleaifmeiikaaKB
import Derived.Test.YtflleaifmeiikaaKC
set_option linter.unusedVariables false
namespace Go.Proofs.Ytflleaifmeiikaa
open Go.RowKit
section
variable {P : Program} {ops : Array Oper} {Q : Exit → Act → World → Prop} {md : Region.Mode} {S : World → Prop} {tl : List Nat}
/-- whatever order: S behind each operation that is not one of the tail's -/
def anyT (P : Program) (md : Region.Mode) (ops : Array Oper) (Q : Exit → Act → World → Prop) (S : World → Prop) (tl : List Nat) : Nat → Array Bool → Act → World → Prop
  | 0, listed, a, w => Region.ready md ops listed = [] ∧ Q .normal a w
  | fuel + 1, listed, a, w =>
    (Region.ready md ops listed = [] → Q .normal a w) ∧
    ∀ i ∈ Region.ready md ops listed, wpOp P ops Q i (fun a' w' => (tl.contains i = false → S w') ∧ anyT P md ops Q S tl fuel (listed.setIfInBounds i true) a' w') a w
theorem anyT_any : ∀ (fuel : Nat) (listed : Array Bool) (a : Act) (w : World), anyT P md ops Q S tl fuel listed a w → wpAny P md ops Q fuel listed a w
  | 0, _, _, _, h => h
  | fuel + 1, _, _, _, h => ⟨h.1, fun i hi => wpOp_mono (fun a' w' h' => anyT_any fuel _ a' w' h'.2) (h.2 i hi)⟩
/-- every operation of the tail waits for number i -/
def waits (md : Region.Mode) (ops : Array Oper) (tl : List Nat) (i : Nat) : Bool :=
  !tl.contains i && tl.all fun j => match ops[j]? with
    | some o => o.after.any fun e => Region.binds md e && decide (e.on = i)
    | none => true
theorem waits_spec {i : Nat} (h : waits md ops tl i = true) : tl.contains i = false ∧ ∀ j oj, tl.contains j = true → ops[j]? = some oj → ∃ e ∈ oj.after, Region.binds md e = true ∧ e.on = i := by
  unfold waits at h
  rw [Bool.and_eq_true] at h
  refine ⟨by simpa using h.1, fun j oj hj ho => ?_⟩
  have h2 := List.all_eq_true.1 h.2 j (by simpa using hj)
  rw [ho] at h2
  obtain ⟨k, hk, he⟩ := Array.any_eq_true.1 h2
  rw [Bool.and_eq_true] at he
  exact ⟨oj.after[k], Array.getElem_mem hk, he.1, of_decide_eq_true he.2⟩
theorem anyT_first {i : Nat} {oi : Oper} {v : Value} (hi : ops[i]? = some oi) (hsel : ∀ (j : Nat) (o : Oper) cs b, ops[j]? = some o → o.op ≠ .select cs b)
    (hQ : ∀ c a w, Q (.panic c) (a.put oi.dst v) w → Q (.panic c) a w) (hw : waits md ops tl i = true) :
    ∀ (fuel : Nat) (listed : Array Bool) (a : Act) (w : World),
      (∀ j oj, ops[j]? = some oj → j ≠ i → listed.getD j true = false → (∀ e ∈ oj.after, Region.binds md e = true → e.on ≠ i) → oi.apart ops oj = true) →
      i ∈ Region.ready md ops listed → YieldsIf P ops S oi v a → S w →
      anyT P md ops Q S tl fuel (listed.setIfInBounds i true) (a.put oi.dst v) w → anyT P md ops Q S tl (fuel + 1) listed a w := by
  obtain ⟨hti, htl⟩ := waits_spec hw
  intro fuel
  induction fuel with
  | zero =>
    intro listed a w _ hr hy hS H
    refine ⟨fun h => (by rw [h] at hr; cases hr), fun j hj => ?_⟩
    by_cases hji : j = i
    · subst hji; exact hy.wpOp hi hS ⟨fun _ => hS, H⟩
    · have := ready_mono hj hji
      rw [H.1] at this
      cases this
  | succ fuel ih =>
    intro listed a w hfree hr hy hS H
    refine ⟨fun h => (by rw [h] at hr; cases hr), fun j hj => ?_⟩
    by_cases hji : j = i
    · subst hji; exact hy.wpOp hi hS ⟨fun _ => hS, H⟩
    · have h1 := H.2 j (ready_mono hj hji)
      obtain ⟨hjun, oj, hoj, hall⟩ := mem_ready.1 hj
      have hnot : ∀ e ∈ oj.after, Region.binds md e = true → e.on ≠ i := fun e he hb heq => by
        have h1 := hall e he hb
        have h0 := (mem_ready.1 hr).1
        rw [heq] at h1
        rcases Nat.lt_or_ge i listed.size with h' | h'
        · simp [h'] at h0 h1; rw [h0] at h1; cases h1
        · simp [Array.getElem?_eq_none h'] at h1
      have htj : tl.contains j = false := by
        rcases Bool.eq_false_or_eq_true (tl.contains j) with h | h
        · obtain ⟨e, he, hb, heq⟩ := htl j oj h hoj
          exact absurd heq (hnot e he hb)
        · exact h
      have h2 := wpOp_putIf hoj (hfree j oj hoj hji hjun hnot) (fun cs b => hsel i oi cs b hi) (fun cs b => hsel j oj cs b hoj) hQ hy h1
      have hfree' : ∀ k ok, ops[k]? = some ok → k ≠ i → (listed.setIfInBounds j true).getD k true = false →
          (∀ e ∈ ok.after, Region.binds md e = true → e.on ≠ i) → oi.apart ops ok = true := fun k ok hk hki hun hno => by
        refine hfree k ok hk hki ?_ hno
        by_cases hjk : j = k
        · subst hjk; exact hjun
        · rw [getD_set_ne true hjk] at hun; exact hun
      refine wpOp_mono (fun a' w' h3 => ⟨fun _ => h3.2.1 htj, ih (listed.setIfInBounds j true) a' w' hfree' (ready_mono hr (Ne.symm hji)) h3.1 (h3.2.1 htj) ?_⟩) h2
      rw [Array.setIfInBounds_comm _ _ hji]
      exact h3.2.2
/-- number i is taken first -/
theorem anyT_take {i : Nat} {oi : Oper} {v : Value} {fuel : Nat} {listed : Array Bool} {a : Act} {w : World} (hi : ops[i]? = some oi)
    (hs : Region.noSelect ops = true) (hf : Region.free md ops listed i = true) (hr : (Region.ready md ops listed).contains i = true) (hw : waits md ops tl i = true)
    (hQ : ∀ c a w, Q (.panic c) (a.put oi.dst v) w → Q (.panic c) a w) (hy : YieldsIf P ops S oi v a) (hS : S w)
    (h : anyT P md ops Q S tl fuel (listed.setIfInBounds i true) (a.put oi.dst v) w) : anyT P md ops Q S tl (fuel + 1) listed a w :=
  anyT_first hi (Region.noSelect_spec hs) hQ hw fuel listed a w (Region.free_spec hi hf) (by simpa using hr) hy hS h
/-- each of those that may come up: behind it S is to be shown, but behind the tail's -/
def ReadyT (P : Program) (md : Region.Mode) (ops : Array Oper) (Q : Exit → Act → World → Prop) (S : World → Prop) (tl : List Nat) (fuel : Nat) (listed : Array Bool) (a : Act) (w : World) (rs : List Nat) : Prop :=
  ∀ i ∈ rs, wpOp P ops Q i (fun a' w' => (tl.contains i = false → S w') ∧ anyT P md ops Q S tl fuel (listed.setIfInBounds i true) a' w') a w
theorem ReadyT.nil {fuel : Nat} {listed : Array Bool} {a : Act} {w : World} : ReadyT P md ops Q S tl fuel listed a w [] := fun _ h => by cases h
theorem ReadyT.cons {fuel : Nat} {listed : Array Bool} {a : Act} {w : World} {i : Nat} {o : Oper} {rs : List Nat} (ho : ops[i]? = some o)
    (h : ∀ K' : Act → World → Prop, Shut (∀ a w, S w → (S w → anyT P md ops Q S tl fuel (listed.setIfInBounds i true) a w) → K' a w) → if Region.wanted o (yielded ops a.tmps) = true then Oper.wp P o a w K' Q else K' (a.put o.dst undef) w)
    (hs : ReadyT P md ops Q S tl fuel listed a w rs) : ReadyT P md ops Q S tl fuel listed a w (i :: rs) := fun j hj => by
  rcases List.mem_cons.1 hj with rfl | hj
  · exact wpOp_step ho (fun K' hK => h K' (fun a w hS hW => hK a w ⟨fun _ => hS, hW hS⟩))
  · exact hs j hj
/-- one of the tail's -/
theorem ReadyT.last {fuel : Nat} {listed : Array Bool} {a : Act} {w : World} {i : Nat} {o : Oper} (ho : ops[i]? = some o) (ht : tl.contains i = true)
    (h : ∀ K' : Act → World → Prop, Shut (∀ a w, anyT P md ops Q S tl fuel (listed.setIfInBounds i true) a w → K' a w) → if Region.wanted o (yielded ops a.tmps) = true then Oper.wp P o a w K' Q else K' (a.put o.dst undef) w) :
    ReadyT P md ops Q S tl fuel listed a w [i] := fun j hj => by
  obtain rfl : j = i := by simpa using hj
  exact wpOp_step ho (fun K' hK => h K' (fun a w hW => hK a w ⟨(fun h => by rw [ht] at h; cases h), hW⟩))
theorem anyT_ready {rs : List Nat} {fuel : Nat} {listed : Array Bool} {a : Act} {w : World} (hr : Region.ready md ops listed = rs) (hne : rs ≠ [])
    (h : ReadyT P md ops Q S tl fuel listed a w rs) : anyT P md ops Q S tl (fuel + 1) listed a w := ⟨fun h0 => absurd (hr ▸ h0) hne, hr ▸ h⟩
theorem anyT_done {listed : Array Bool} {a : Act} {w : World} (hr : Region.ready md ops listed = []) (h : Q .normal a w) : ∀ fuel, anyT P md ops Q S tl fuel listed a w
  | 0 => ⟨hr, h⟩
  | _ + 1 => ⟨fun _ => h, by rw [hr]; simp⟩
theorem wp_regionT {id : Nat} {a : Act} {w : World} (tl : List Nat) (hm : P.follows .mixedOrders = true) (hS : S w.drew)
    (h : S w.drew → anyT P .any ops Q S tl ops.size (Array.replicate ops.size false) a w.drew) : (Code.region id ops true).wp P Q a w :=
  wp_region_any hm (anyT_any _ _ _ _ (h hS))
end
/-! ### make and append, met in a region that draws its order -/
theorem wp_make {P : Program} {w : World} {o : Oper} {a : Act} {K : Act → World → Prop} {Q : Exit → Act → World → Prop} (l c : Operand) (t : TypeId) (hop : o.op = Op.makeSlice t l c)
    (base : Nat) (e : TypeId) (i : TypeInfo) (z : Value) (h1 : P.underlying t = some (.slice e)) (h2 : P.info? e = some i) (h3 : i.zero = some z) (h4 : i.size = 1)
    (kl kc : IntKind) (L C : Int) (n : Nat) (hl : a.eval l = .int kl L) (hc : a.eval c = .int kc C) (hL : L = (n : Int)) (hC : C = (n : Int)) (b2 : i.bytes * n ≤ 281474976710656) (b3 : n ≤ maxLen) (b4 : base ≤ w.heap.size)
    (hK : ∀ w', w'.ownsRow base e 1 (.slice (some ⟨w.heap.size, 0, none⟩) n n) n (madeCells z.cells n).toList → w.grownBy w' none → K (a.put o.dst (.slice (some ⟨w.heap.size, 0, none⟩) n n)) w') :
    Oper.wp P o a w K Q := by
  obtain ⟨w', hrun, r1, r2⟩ := run_make_full (P := P) w base t e i z 1 h1 h2 h3 h4 kl kc n b2 b3 b4
  subst hL
  subst hC
  unfold Oper.wp
  simp [execOp, hop, hl, hc, hrun, Result.andThen]
  rw [Nat.mul_one] at r1
  exact hK w' r1 r2
theorem wp_append {P : Program} {w : World} {o : Oper} {a : Act} {K : Act → World → Prop} {Q : Exit → Act → World → Prop} (s x : Operand) (t : TypeId)
    (ho : o.op = .call { callee := .builtin .append, args := #[s, x], argTypes := #[t, t] })
    (base : Nat) (e : TypeId) (i : TypeInfo) (z : Value) (bytes : Nat) (ht : P.underlying t = some (.slice e)) (hi : P.info? e = some i) (hz : i.zero = some z)
    (hsize : i.size = 1) (hby : i.bytes = bytes) (hzs : z.cells.size = 1) (k : IntKind) (b : Nat)
    (v : Value) (n X : Nat) (hs : a.eval s = v) (hown : w.ownsRow base e 1 v n (dl k b n X)) (A : Option Addr) (m c Y : Nat) (hx : a.eval x = .slice A m c) (hd : Dig k b w A m c Y)
    (h63 : n + m ≤ maxLen) (hbytes : (n + m) * bytes ≤ 140737488355328) (hbase : base ≤ w.heap.size) (hb : 0 < b) (hX : X < b ^ n)
    (h : ∀ v' w', w'.ownsRow base e 1 v' (n + m) (dl k b (n + m) (X + Y * b ^ n)) → w.grownBy w' v.ownBlock → K (a.put o.dst v') w') : Oper.wp P o a w K Q := by
  rw [← dl_append hb hX] at h
  rcases A with _ | ad
  · have hm : m = 0 := by
      rcases Nat.eq_zero_or_pos m with h0 | h0
      · exact h0
      · obtain ⟨g, o, h, _⟩ := hd.at_ h0
        cases h
    subst hm
    have hrun := run_append_of_nil (P := P) w base t o.type e i 1 ht hi v n _ hown c
    unfold Oper.wp execOp
    simp only [ho, resolve, invoke, builtin, Sem.run_bind, Sem.run_pure, Result.andThen_ok, List.map_toArray, List.map_cons, List.map_nil, hs, hx, hrun]
    refine h v w ?_ (World.grownBy.refl w _)
    rw [dl_zero, List.append_nil]; exact hown
  · obtain ⟨v', w', hr, h2, h3, h4, h5⟩ := run_append_own_at (P := P) w base t o.type e i z 1 bytes ht hi hz hsize hby hzs (by decide) v n _ hown ad m c (dl k b m Y) (by rw [dl_length]; omega) (hd.news ad rfl) (dl_one _ _ _ _) h63 hbytes hbase
    unfold Oper.wp execOp
    simp only [ho, resolve, invoke, builtin, Sem.run_bind, Sem.run_pure, Result.andThen_ok, List.map_toArray, List.map_cons, List.map_nil, hs, hx, hr]
    exact h v' w' h2 h3
/-- a number stored into its variable, met in a region that draws its order -/
theorem wp_store_nat {w : World} {o : Oper} {a : Act} {K : Act → World → Prop} {Q : Exit → Act → World → Prop} (p v : Operand) (ho : o.op = Op.store 25 p v) {g T : Nat} {u : Value} {A : Option Addr} {n c : Nat}
    (hp : a.eval p = .pointer (some ⟨g, 0, none⟩)) (hv : a.eval v = .agg #[.slice A n c]) (X : Blk1 w g T u) (h : K (a.put o.dst undef) (w.setCell ⟨g, 0, none⟩ (.slice A n c))) : Oper.wp Try.prog o a w K Q := by
  have c0 := X.cell
  have f0 := X.free
  unfold Oper.wp execOp
  simp only [ho, hp, hv]
  go_simp
  exact h
/-! ### a local number: its variable's block, and what lies there -/
theorem Blk1.set {w : World} {g : Nat} {t : TypeId} {u : Value} (h : Blk1 w g t u) (v : Value) : Blk1 (w.setCell ⟨g, 0, none⟩ v) g t v := by
  have := heap_setCell_same w g 0 #[u] t v h
  simpa [Blk1] using this
theorem nxs {a b : World} (h : Below a.heap.size a b) {p : Addr} (hp : a.heap.size ≤ p.block) (v : Value) : Below a.heap.size a (b.setCell p v) := h.setCell hp v
/-- a store into a block that is younger than w0 -/
theorem Blk1.young {w0 w : World} {g : Nat} {t : TypeId} {u : Value} (h : Blk1 w0 g t u) (hb : Below w0.heap.size w0 w) {p : Addr} (hp : w0.heap.size ≤ p.block) (v : Value) : Blk1 (w.setCell p v) g t u := h.to (nxs hb hp v)
theorem Blk1.size {w : World} {g : Nat} {t : TypeId} {u : Value} (h : Blk1 w g t u) {w' : World} (hb : Below w.heap.size w w') : g < w'.heap.size := (h.to hb).lt
/-- the variable's block g holds a number that reads as x -/
def Loc (w : World) (g A' : Nat) (A : Option Addr) (n c x : Nat) : Prop := Blk1 w g A' (.slice A n c) ∧ NatAt w A n c x
theorem Loc.to {w w' : World} {g T : Nat} {A : Option Addr} {n c x : Nat} (h : Loc w g T A n c x) (hb : Below w.heap.size w w') : Loc w' g T A n c x := ⟨h.1.to hb, h.2.to hb⟩
theorem store1 {w0 w : World} {g T : Nat} {a : Option Addr} {m d : Nat} {A : Option Addr} {n c x : Nat} (hb : Below w0.heap.size w0 w) (hg : w0.heap.size ≤ g) (X : Blk1 w g T (.slice a m d)) (h : NatAt w A n c x) :
    Loc (w.setCell ⟨g, 0, none⟩ (.slice A n c)) g T A n c x ∧ Below w0.heap.size w0 (w.setCell ⟨g, 0, none⟩ (.slice A n c)) :=
  ⟨⟨X.set _, h.put_ X.cell _⟩, hb.setCell hg _⟩
theorem store2 {w0 w : World} {g T : Nat} {a : Option Addr} {m d : Nat} {A : Option Addr} {n c x : Nat} {g' : Nat} {a' : Option Addr} {m' d' : Nat} {A' : Option Addr} {n' c' x' : Nat}
    (hb : Below w0.heap.size w0 w) (hg : w0.heap.size ≤ g) (hg' : w0.heap.size ≤ g') (hne : g ≠ g') (X : Blk1 w g T (.slice a m d)) (X' : Blk1 w g' T (.slice a' m' d')) (h : NatAt w A n c x) (h' : NatAt w A' n' c' x') :
    Loc ((w.setCell ⟨g, 0, none⟩ (.slice A n c)).setCell ⟨g', 0, none⟩ (.slice A' n' c')) g T A n c x ∧ Loc ((w.setCell ⟨g, 0, none⟩ (.slice A n c)).setCell ⟨g', 0, none⟩ (.slice A' n' c')) g' T A' n' c' x' ∧
    Below w0.heap.size w0 ((w.setCell ⟨g, 0, none⟩ (.slice A n c)).setCell ⟨g', 0, none⟩ (.slice A' n' c')) := by
  have Y' := X'.far (p := ⟨g, 0, none⟩) (Ne.symm hne) (.slice A n c)
  obtain ⟨l1, b1⟩ := store1 hb hg X h
  obtain ⟨l2, b2⟩ := store1 b1 hg' Y' (h'.put_ X.cell (.slice A n c))
  exact ⟨⟨l1.1.far hne _, l1.2.put_ Y'.cell _⟩, l2, b2⟩
end Go.Proofs.Ytflleaifmeiikaa
set_option linter.unusedVariables false
namespace Go.Proofs.Ytflleaifmeiikaa
open Go.RowKit
section
variable {P : Program} {ops : Array Oper} {Q : Exit → Act → World → Prop} {md : Region.Mode} {S : World → Prop} {tl : List Nat}
/-- none of the tail's has come up -/
def clean (tl : List Nat) (listed : Array Bool) : Bool := tl.all fun j => !listed.getD j true
def anyS (P : Program) (md : Region.Mode) (ops : Array Oper) (Q : Exit → Act → World → Prop) (S : World → Prop) (tl : List Nat) : Nat → Array Bool → Act → World → Prop
  | 0, listed, a, w => Region.ready md ops listed = [] ∧ Q .normal a w
  | fuel + 1, listed, a, w =>
    (Region.ready md ops listed = [] → Q .normal a w) ∧
    ∀ i ∈ Region.ready md ops listed, wpOp P ops Q i (fun a' w' => (clean tl (listed.setIfInBounds i true) = true → S w') ∧ anyS P md ops Q S tl fuel (listed.setIfInBounds i true) a' w') a w
theorem anyS_any : ∀ (fuel : Nat) (listed : Array Bool) (a : Act) (w : World), anyS P md ops Q S tl fuel listed a w → wpAny P md ops Q fuel listed a w
  | 0, _, _, _, h => h
  | fuel + 1, _, _, _, h => ⟨h.1, fun i hi => wpOp_mono (fun a' w' h' => anyS_any fuel _ a' w' h'.2) (h.2 i hi)⟩
theorem not_listed {i : Nat} {listed : Array Bool} (hr : i ∈ Region.ready md ops listed) {j : Nat} {oj : Oper} (hj : j ∈ Region.ready md ops listed) (hoj : ops[j]? = some oj) : ∀ e ∈ oj.after, Region.binds md e = true → e.on ≠ i := fun e he hb heq => by
  obtain ⟨_, oj', hoj', hall⟩ := mem_ready.1 hj
  rw [hoj] at hoj'
  obtain rfl := Option.some.inj hoj'
  have h1 := hall e he hb
  have h0 := (mem_ready.1 hr).1
  rw [heq] at h1
  rcases Nat.lt_or_ge i listed.size with h' | h'
  · simp [h'] at h0 h1; rw [h0] at h1; cases h1
  · simp [Array.getElem?_eq_none h'] at h1
/-- behind an operation that is not one of the tail's the tail is as clean as before -/
theorem clean_of {j : Nat} {listed : Array Bool} (h : clean tl (listed.setIfInBounds j true) = true) : clean tl listed = true := by
  unfold clean at *
  rw [List.all_eq_true] at *
  intro k hk
  have := h k hk
  by_cases hjk : j = k
  · subst hjk
    rcases Nat.lt_or_ge j listed.size with h' | h'
    · simp [h'] at this
    · simpa [Array.setIfInBounds_eq_of_size_le h'] using this
  · rwa [getD_set_ne true hjk] at this
theorem clean_set {j : Nat} {listed : Array Bool} (h : clean tl listed = true) (hj : tl.contains j = false) : clean tl (listed.setIfInBounds j true) = true := by
  unfold clean at *
  rw [List.all_eq_true] at *
  intro k hk
  have hjk : j ≠ k := fun e => by subst e; rw [List.contains_iff_mem.2 hk] at hj; cases hj
  rw [getD_set_ne true hjk]
  exact h k hk
/-- number i, which loads, is taken first: every operation of the tail waits for it -/
theorem anyS_first {i : Nat} {oi : Oper} {v : Value} (hi : ops[i]? = some oi) (hsel : ∀ (j : Nat) (o : Oper) cs b, ops[j]? = some o → o.op ≠ .select cs b)
    (hQ : ∀ c a w, Q (.panic c) (a.put oi.dst v) w → Q (.panic c) a w) (hw : waits md ops tl i = true) :
    ∀ (fuel : Nat) (listed : Array Bool) (a : Act) (w : World), clean tl listed = true →
      (∀ j oj, ops[j]? = some oj → j ≠ i → listed.getD j true = false → (∀ e ∈ oj.after, Region.binds md e = true → e.on ≠ i) → oi.apart ops oj = true) →
      i ∈ Region.ready md ops listed → YieldsIf P ops S oi v a → S w →
      anyS P md ops Q S tl fuel (listed.setIfInBounds i true) (a.put oi.dst v) w → anyS P md ops Q S tl (fuel + 1) listed a w := by
  obtain ⟨hti, htl⟩ := waits_spec hw
  intro fuel
  induction fuel with
  | zero =>
    intro listed a w _ _ hr hy hS H
    refine ⟨fun h => (by rw [h] at hr; cases hr), fun j hj => ?_⟩
    by_cases hji : j = i
    · subst hji; exact hy.wpOp hi hS ⟨fun _ => hS, H⟩
    · have := ready_mono hj hji
      rw [H.1] at this
      cases this
  | succ fuel ih =>
    intro listed a w hcl hfree hr hy hS H
    refine ⟨fun h => (by rw [h] at hr; cases hr), fun j hj => ?_⟩
    by_cases hji : j = i
    · subst hji; exact hy.wpOp hi hS ⟨fun _ => hS, H⟩
    · have h1 := H.2 j (ready_mono hj hji)
      obtain ⟨hjun, oj, hoj, hall⟩ := mem_ready.1 hj
      have hnot := not_listed hr hj hoj
      have htj : tl.contains j = false := by
        rcases Bool.eq_false_or_eq_true (tl.contains j) with h | h
        · obtain ⟨e, he, hb, heq⟩ := htl j oj h hoj
          exact absurd heq (hnot e he hb)
        · exact h
      have hcj := clean_set hcl htj
      have hcij := clean_set (clean_set hcl hti) htj
      have h2 := wpOp_putIf hoj (hfree j oj hoj hji hjun hnot) (fun cs b => hsel i oi cs b hi) (fun cs b => hsel j oj cs b hoj) hQ hy h1
      have hfree' : ∀ k ok, ops[k]? = some ok → k ≠ i → (listed.setIfInBounds j true).getD k true = false →
          (∀ e ∈ ok.after, Region.binds md e = true → e.on ≠ i) → oi.apart ops ok = true := fun k ok hk hki hun hno => by
        refine hfree k ok hk hki ?_ hno
        by_cases hjk : j = k
        · subst hjk; exact hjun
        · rw [getD_set_ne true hjk] at hun; exact hun
      refine wpOp_mono (fun a' w' h3 => ⟨fun _ => h3.2.1 hcij, ih (listed.setIfInBounds j true) a' w' hcj hfree' (ready_mono hr (Ne.symm hji)) h3.1 (h3.2.1 hcij) ?_⟩) h2
      rw [Array.setIfInBounds_comm _ _ hji]
      exact h3.2.2
/-- number i, which yields the same in whatever world, is taken first -/
theorem anyS_first0 {i : Nat} {oi : Oper} {v : Value} (hi : ops[i]? = some oi) (hsel : ∀ (j : Nat) (o : Oper) cs b, ops[j]? = some o → o.op ≠ .select cs b)
    (hQ : ∀ c a w, Q (.panic c) (a.put oi.dst v) w → Q (.panic c) a w) (hti : tl.contains i = false) :
    ∀ (fuel : Nat) (listed : Array Bool) (a : Act) (w : World), (clean tl listed = true → S w) →
      (∀ j oj, ops[j]? = some oj → j ≠ i → listed.getD j true = false → (∀ e ∈ oj.after, Region.binds md e = true → e.on ≠ i) → oi.apart ops oj = true) →
      i ∈ Region.ready md ops listed → YieldsIf P ops (fun _ => True) oi v a →
      anyS P md ops Q S tl fuel (listed.setIfInBounds i true) (a.put oi.dst v) w → anyS P md ops Q S tl (fuel + 1) listed a w := by
  intro fuel
  induction fuel with
  | zero =>
    intro listed a w hS _ hr hy H
    refine ⟨fun h => (by rw [h] at hr; cases hr), fun j hj => ?_⟩
    by_cases hji : j = i
    · subst hji; exact hy.wpOp hi trivial ⟨fun h => hS (clean_of h), H⟩
    · have := ready_mono hj hji
      rw [H.1] at this
      cases this
  | succ fuel ih =>
    intro listed a w hS hfree hr hy H
    refine ⟨fun h => (by rw [h] at hr; cases hr), fun j hj => ?_⟩
    by_cases hji : j = i
    · subst hji; exact hy.wpOp hi trivial ⟨fun h => hS (clean_of h), H⟩
    · have h1 := H.2 j (ready_mono hj hji)
      obtain ⟨hjun, oj, hoj, hall⟩ := mem_ready.1 hj
      have hnot := not_listed hr hj hoj
      have h2 := wpOp_putIf hoj (hfree j oj hoj hji hjun hnot) (fun cs b => hsel i oi cs b hi) (fun cs b => hsel j oj cs b hoj) hQ hy h1
      have hfree' : ∀ k ok, ops[k]? = some ok → k ≠ i → (listed.setIfInBounds j true).getD k true = false →
          (∀ e ∈ ok.after, Region.binds md e = true → e.on ≠ i) → oi.apart ops ok = true := fun k ok hk hki hun hno => by
        refine hfree k ok hk hki ?_ hno
        by_cases hjk : j = k
        · subst hjk; exact hjun
        · rw [getD_set_ne true hjk] at hun; exact hun
      have hcc : clean tl (listed.setIfInBounds j true) = true → clean tl ((listed.setIfInBounds i true).setIfInBounds j true) = true := fun h => by
        rw [Array.setIfInBounds_comm _ _ (Ne.symm hji)]
        exact clean_set h hti
      refine wpOp_mono (fun a' w' h3 => ⟨fun h => h3.2.1 (hcc h), ih (listed.setIfInBounds j true) a' w' (fun h => h3.2.1 (hcc h)) hfree' (ready_mono hr (Ne.symm hji)) h3.1 ?_⟩) h2
      rw [Array.setIfInBounds_comm _ _ hji]
      exact h3.2.2
theorem anyS_take {i : Nat} {oi : Oper} {v : Value} {fuel : Nat} {listed : Array Bool} {a : Act} {w : World} (hi : ops[i]? = some oi)
    (hs : Region.noSelect ops = true) (hf : Region.free md ops listed i = true) (hr : (Region.ready md ops listed).contains i = true) (hw : waits md ops tl i = true) (hc : clean tl listed = true)
    (hQ : ∀ c a w, Q (.panic c) (a.put oi.dst v) w → Q (.panic c) a w) (hy : YieldsIf P ops S oi v a) (hS : S w)
    (h : anyS P md ops Q S tl fuel (listed.setIfInBounds i true) (a.put oi.dst v) w) : anyS P md ops Q S tl (fuel + 1) listed a w :=
  anyS_first hi (Region.noSelect_spec hs) hQ hw fuel listed a w hc (Region.free_spec hi hf) (by simpa using hr) hy hS h
theorem anyS_take0 {i : Nat} {oi : Oper} {v : Value} {fuel : Nat} {listed : Array Bool} {a : Act} {w : World} (hi : ops[i]? = some oi)
    (hs : Region.noSelect ops = true) (hf : Region.free md ops listed i = true) (hr : (Region.ready md ops listed).contains i = true) (hw : tl.contains i = false)
    (hQ : ∀ c a w, Q (.panic c) (a.put oi.dst v) w → Q (.panic c) a w) (hy : YieldsIf P ops (fun _ => True) oi v a) (hS : clean tl listed = true → S w)
    (h : anyS P md ops Q S tl fuel (listed.setIfInBounds i true) (a.put oi.dst v) w) : anyS P md ops Q S tl (fuel + 1) listed a w :=
  anyS_first0 hi (Region.noSelect_spec hs) hQ hw fuel listed a w hS (Region.free_spec hi hf) (by simpa using hr) hy h
/-- the same behind the tail -/
theorem anyS_take1 {i : Nat} {oi : Oper} {v : Value} {fuel : Nat} {listed : Array Bool} {a : Act} {w : World} (hi : ops[i]? = some oi)
    (hs : Region.noSelect ops = true) (hf : Region.free md ops listed i = true) (hr : (Region.ready md ops listed).contains i = true) (hw : tl.contains i = false) (hc : clean tl listed = false)
    (hQ : ∀ c a w, Q (.panic c) (a.put oi.dst v) w → Q (.panic c) a w) (hy : YieldsIf P ops (fun _ => True) oi v a)
    (h : anyS P md ops Q S tl fuel (listed.setIfInBounds i true) (a.put oi.dst v) w) : anyS P md ops Q S tl (fuel + 1) listed a w :=
  anyS_first0 hi (Region.noSelect_spec hs) hQ hw fuel listed a w (fun h => by rw [hc] at h; cases h) (Region.free_spec hi hf) (by simpa using hr) hy h
def ReadyS (P : Program) (md : Region.Mode) (ops : Array Oper) (Q : Exit → Act → World → Prop) (S : World → Prop) (tl : List Nat) (fuel : Nat) (listed : Array Bool) (a : Act) (w : World) (rs : List Nat) : Prop :=
  ∀ i ∈ rs, wpOp P ops Q i (fun a' w' => (clean tl (listed.setIfInBounds i true) = true → S w') ∧ anyS P md ops Q S tl fuel (listed.setIfInBounds i true) a' w') a w
theorem ReadyS.nil {fuel : Nat} {listed : Array Bool} {a : Act} {w : World} : ReadyS P md ops Q S tl fuel listed a w [] := fun _ h => by cases h
theorem ReadyS.cons {fuel : Nat} {listed : Array Bool} {a : Act} {w : World} {i : Nat} {o : Oper} {rs : List Nat} (ho : ops[i]? = some o)
    (h : ∀ K' : Act → World → Prop, Shut (∀ a w, S w → (S w → anyS P md ops Q S tl fuel (listed.setIfInBounds i true) a w) → K' a w) → if Region.wanted o (yielded ops a.tmps) = true then Oper.wp P o a w K' Q else K' (a.put o.dst undef) w)
    (hs : ReadyS P md ops Q S tl fuel listed a w rs) : ReadyS P md ops Q S tl fuel listed a w (i :: rs) := fun j hj => by
  rcases List.mem_cons.1 hj with rfl | hj
  · exact wpOp_step ho (fun K' hK => h K' (fun a w hS hW => hK a w ⟨fun _ => hS, hW hS⟩))
  · exact hs j hj
/-- one of the tail's, or one behind it -/
theorem ReadyS.last {fuel : Nat} {listed : Array Bool} {a : Act} {w : World} {i : Nat} {o : Oper} (ho : ops[i]? = some o) (ht : clean tl (listed.setIfInBounds i true) = false)
    (h : ∀ K' : Act → World → Prop, Shut (∀ a w, anyS P md ops Q S tl fuel (listed.setIfInBounds i true) a w → K' a w) → if Region.wanted o (yielded ops a.tmps) = true then Oper.wp P o a w K' Q else K' (a.put o.dst undef) w) :
    ReadyS P md ops Q S tl fuel listed a w [i] := fun j hj => by
  obtain rfl : j = i := by simpa using hj
  exact wpOp_step ho (fun K' hK => h K' (fun a w hW => hK a w ⟨(fun h => by rw [ht] at h; cases h), hW⟩))
theorem anyS_ready {rs : List Nat} {fuel : Nat} {listed : Array Bool} {a : Act} {w : World} (hr : Region.ready md ops listed = rs) (hne : rs ≠ [])
    (h : ReadyS P md ops Q S tl fuel listed a w rs) : anyS P md ops Q S tl (fuel + 1) listed a w := ⟨fun h0 => absurd (hr ▸ h0) hne, hr ▸ h⟩
theorem anyS_done {listed : Array Bool} {a : Act} {w : World} (hr : Region.ready md ops listed = []) (h : Q .normal a w) : ∀ fuel, anyS P md ops Q S tl fuel listed a w
  | 0 => ⟨hr, h⟩
  | _ + 1 => ⟨fun _ => h, by rw [hr]; simp⟩
theorem wp_regionS {id : Nat} {a : Act} {w : World} (tl : List Nat) (hm : P.follows .mixedOrders = true) (hS : S w.drew)
    (h : S w.drew → anyS P .any ops Q S tl ops.size (Array.replicate ops.size false) a w.drew) : (Code.region id ops true).wp P Q a w :=
  wp_region_any hm (anyS_any _ _ _ _ (h hS))
end
end Go.Proofs.Ytflleaifmeiikaa
set_option linter.unusedVariables false
set_option linter.unusedSimpArgs false
namespace Go.Proofs.Ytflleaifmeiikaa
open Go.RowKit
/-- an operation that makes a local variable: its number, its temporary, its type, its first value -/
abbrev Mk := Nat × Nat × Nat × Array Value
/-- a block of cells -/
def BlkN (w : World) (g : Nat) (t : TypeId) (cs : Array Value) : Prop := w.heap[g]? = some (.cells cs t (0, 0))
theorem BlkN.lt {w : World} {g : Nat} {t : TypeId} {cs : Array Value} (h : BlkN w g t cs) : g < w.heap.size := by
  rcases Nat.lt_or_ge g w.heap.size with hlt | hge
  · exact hlt
  · unfold BlkN at h; rw [Array.getElem?_eq_none hge] at h; cases h
theorem BlkN.to {w w' : World} {g : Nat} {t : TypeId} {cs : Array Value} (h : BlkN w g t cs) (hb : Below w.heap.size w w') : BlkN w' g t cs := (hb.block g h.lt).trans h
theorem BlkN.alloc {w : World} {g : Nat} {t : TypeId} {cs : Array Value} (h : BlkN w g t cs) (o : Obj) : BlkN (w.alloc o) g t cs := (Below.heap_alloc w o g h.lt).trans h
theorem BlkN.new (w : World) (t : TypeId) (cs : Array Value) : BlkN (w.alloc (.cells cs t)) w.heap.size t cs := heap_alloc_new w _
section
variable {P : Program} {ops : Array Oper} {Q : Exit → Act → World → Prop} {md : Region.Mode} {W0 : World} {D : List Mk}
def ptr (g : Nat) : Value := .pointer (some ⟨g, 0, none⟩)
def inD (D : List Mk) (i : Nat) : Bool := D.any fun e => e.1 == i
/-- all local variables are made; then the rest -/
def FinD (P : Program) (md : Region.Mode) (ops : Array Oper) (Q : Exit → Act → World → Prop) (W0 : World) (f : Nat) : List Mk → List Nat → Array Bool → Act → World → Prop
  | [], _, l, a, w => wpAny P md ops Q f l a w
  | (i, d, T, z) :: D, used, l, a, w => ∀ g, BlkN w g T z → W0.heap.size ≤ g → g ∉ used → FinD P md ops Q W0 f D (g :: used) (l.setIfInBounds i true) (a.put (some d) (ptr g)) w
/-- whatever order of the others, whatever is made meanwhile -/
def anyE (P : Program) (md : Region.Mode) (ops : Array Oper) (Q : Exit → Act → World → Prop) (W0 : World) (D : List Mk) : Nat → Array Bool → Act → World → Prop
  | 0, l, a, w => (∀ i ∈ Region.ready md ops l, inD D i = true) ∧ ∀ w1, Below w.heap.size w w1 → FinD P md ops Q W0 0 D [] l a w1
  | f + 1, l, a, w =>
    ((∀ i ∈ Region.ready md ops l, inD D i = true) → ∀ w1, Below w.heap.size w w1 → FinD P md ops Q W0 (f + 1) D [] l a w1) ∧
    ∀ i ∈ Region.ready md ops l, inD D i = false → ∀ w1, Below w.heap.size w w1 → wpOp P ops Q i (fun a' w' => Below w1.heap.size w1 w' ∧ anyE P md ops Q W0 D f (l.setIfInBounds i true) a' w') a w1
theorem anyE_fin : ∀ {f : Nat} {l : Array Bool} {a : Act} {w : World}, anyE P md ops Q W0 D f l a w → (∀ i ∈ Region.ready md ops l, inD D i = true) → ∀ w1, Below w.heap.size w w1 → FinD P md ops Q W0 f D [] l a w1
  | 0, _, _, _, h, _ => h.2
  | _ + 1, _, _, _, h, hr => h.1 hr
theorem anyE_mono {l : Array Bool} {a : Act} {w w1 : World} : ∀ {f : Nat}, anyE P md ops Q W0 D f l a w → Below w.heap.size w w1 → anyE P md ops Q W0 D f l a w1
  | 0, h, hb => ⟨h.1, fun w2 hb2 => h.2 w2 (nx hb hb2)⟩
  | _ + 1, h, hb => ⟨fun hr w2 hb2 => h.1 hr w2 (nx hb hb2), fun i hi hd w2 hb2 => h.2 i hi hd w2 (nx hb hb2)⟩
theorem unl {l : Array Bool} {i : Nat} (hr : i ∈ Region.ready md ops l) : l.getD i true = false := (mem_ready.1 hr).1
theorem unl' {l : Array Bool} {i : Nat} (hr : i ∈ Region.ready md ops l) : l.getD i false = false := by
  have h := unl hr
  rcases Nat.lt_or_ge i l.size with h' | h'
  · simpa [h'] using h
  · simp [Array.getElem?_eq_none h'] at h
theorem no_wait {i j : Nat} {oj : Oper} {l : Array Bool} (hj : j ∈ Region.ready md ops l) (hoj : ops[j]? = some oj) (hi : l.getD i false = false) : ∀ e ∈ oj.after, Region.binds md e = true → e.on ≠ i := fun e he hb heq => by
  obtain ⟨_, oj', ho', hall⟩ := mem_ready.1 hj
  rw [hoj] at ho'
  obtain rfl := Option.some.inj ho'
  have := hall e he hb
  rw [heq, hi] at this
  cases this
/-- number i is taken first: it yields in every world behind W1 -/
theorem anyE_first {W1 : World} {i : Nat} {oi : Oper} {v : Value} (hi : ops[i]? = some oi) (hsel : ∀ (j : Nat) (o : Oper) cs b, ops[j]? = some o → o.op ≠ .select cs b)
    (hQ : ∀ c a w, Q (.panic c) (a.put oi.dst v) w → Q (.panic c) a w) (hiD : inD D i = false) :
    ∀ (f : Nat) (l : Array Bool) (a : Act) (w : World),
      (∀ j oj, ops[j]? = some oj → j ≠ i → l.getD j true = false → (∀ e ∈ oj.after, Region.binds md e = true → e.on ≠ i) → oi.apart ops oj = true) →
      i ∈ Region.ready md ops l → YieldsIf P ops (fun w => Below W1.heap.size W1 w) oi v a → Below W1.heap.size W1 w →
      anyE P md ops Q W0 D f (l.setIfInBounds i true) (a.put oi.dst v) w → anyE P md ops Q W0 D (f + 1) l a w := by
  intro f
  induction f with
  | zero =>
    intro l a w _ hr hy hS H
    refine ⟨fun h => (by rw [h i hr] at hiD; cases hiD), fun j hj hjD w1 hb => ?_⟩
    by_cases hji : j = i
    · subst hji; exact hy.wpOp hi (nx hS hb) ⟨Below.refl _ _, anyE_mono H hb⟩
    · have := H.1 j (ready_mono hj hji)
      rw [hjD] at this; cases this
  | succ f ih =>
    intro l a w hfree hr hy hS H
    refine ⟨fun h => (by rw [h i hr] at hiD; cases hiD), fun j hj hjD w1 hb => ?_⟩
    by_cases hji : j = i
    · subst hji; exact hy.wpOp hi (nx hS hb) ⟨Below.refl _ _, anyE_mono H hb⟩
    · have h1 := H.2 j (ready_mono hj hji) hjD w1 hb
      obtain ⟨hjun, oj, hoj, hall⟩ := mem_ready.1 hj
      have hnot := no_wait hj hoj (unl' hr)
      have h2 := wpOp_putIf hoj (hfree j oj hoj hji hjun hnot) (fun cs b => hsel i oi cs b hi) (fun cs b => hsel j oj cs b hoj) hQ hy h1
      have hfree' : ∀ k ok, ops[k]? = some ok → k ≠ i → (l.setIfInBounds j true).getD k true = false →
          (∀ e ∈ ok.after, Region.binds md e = true → e.on ≠ i) → oi.apart ops ok = true := fun k ok hk hki hun hno => by
        refine hfree k ok hk hki ?_ hno
        by_cases hjk : j = k
        · subst hjk; exact hjun
        · rw [getD_set_ne true hjk] at hun; exact hun
      refine wpOp_mono (fun a' w' h3 => ⟨h3.2.1, ih (l.setIfInBounds j true) a' w' hfree' (ready_mono hr (Ne.symm hji)) h3.1 (nx (nx hS hb) h3.2.1) ?_⟩) h2
      rw [Array.setIfInBounds_comm _ _ hji]
      exact h3.2.2
def takeOK (md : Region.Mode) (ops : Array Oper) (D : List Mk) (l : Array Bool) (i : Nat) : Bool := Region.noSelect ops && Region.free md ops l i && (Region.ready md ops l).contains i && !inD D i
theorem anyE_take {W1 : World} {i : Nat} {oi : Oper} {v : Value} {f : Nat} {l : Array Bool} {a : Act} {w : World} (hi : ops[i]? = some oi) (hk : takeOK md ops D l i = true)
    (hQ : ∀ c a w, Q (.panic c) (a.put oi.dst v) w → Q (.panic c) a w) (hy : YieldsIf P ops (fun w => Below W1.heap.size W1 w) oi v a) (hS : Below W1.heap.size W1 w)
    (h : anyE P md ops Q W0 D f (l.setIfInBounds i true) (a.put oi.dst v) w) : anyE P md ops Q W0 D (f + 1) l a w := by
  unfold takeOK at hk
  simp only [Bool.and_eq_true, Bool.not_eq_true'] at hk
  exact anyE_first hi (Region.noSelect_spec hk.1.1.1) hQ hk.2 f l a w (Region.free_spec hi hk.1.1.2) (by simpa using hk.1.2) hy hS h
/-- the one that may come up, beside the making of local variables -/
theorem anyE_one {i : Nat} {o : Oper} {f : Nat} {l : Array Bool} {a : Act} {w : World} (ho : ops[i]? = some o) (hr : ((Region.ready md ops l).filter fun i => !inD D i) = [i])
    (h : ∀ w1, Below w.heap.size w w1 → ∀ K' : Act → World → Prop, Shut (∀ a' w', Below w1.heap.size w1 w' → anyE P md ops Q W0 D f (l.setIfInBounds i true) a' w' → K' a' w') → if Region.wanted o (yielded ops a.tmps) = true then Oper.wp P o a w1 K' Q else K' (a.put o.dst undef) w1) :
    anyE P md ops Q W0 D (f + 1) l a w := by
  have mem : ∀ j, j ∈ Region.ready md ops l → inD D j = false → j = i := fun j hj hd => by
    have : j ∈ (Region.ready md ops l).filter fun i => !inD D i := List.mem_filter.2 ⟨hj, by rw [hd]; rfl⟩
    rw [hr] at this; simpa using this
  have hi : i ∈ Region.ready md ops l ∧ inD D i = false := by
    have : i ∈ (Region.ready md ops l).filter fun i => !inD D i := by rw [hr]; simp
    have := List.mem_filter.1 this
    exact ⟨this.1, by simpa using this.2⟩
  refine ⟨fun hd => (by rw [hd i hi.1] at hi; cases hi.2), fun j hj hd w1 hb => ?_⟩
  obtain rfl := mem j hj hd
  exact wpOp_step ho (fun K' hK => h w1 hb K' (fun a w h1 h2 => hK a w ⟨h1, h2⟩))
theorem anyE_done {f : Nat} {l : Array Bool} {a : Act} {w : World} (hr : ((Region.ready md ops l).all fun i => inD D i) = true) (h : ∀ w1, Below w.heap.size w w1 → FinD P md ops Q W0 f D [] l a w1) : anyE P md ops Q W0 D f l a w := by
  have hr' : ∀ i ∈ Region.ready md ops l, inD D i = true := List.all_eq_true.1 hr
  cases f with
  | zero => exact ⟨hr', h⟩
  | succ f => exact ⟨fun _ => h, fun i hi hd => by rw [hr' i hi] at hd; cases hd⟩
/-! ### it is a 'wpAny' -/
/-- the listed ones, with those of D that have been made -/
def lD : List Mk → (Nat → Option Nat) → Array Bool → Array Bool
  | [], _, l => l
  | (i, _, _, _) :: D, γ, l => match γ i with
    | some _ => lD D γ (l.setIfInBounds i true)
    | none => lD D γ l
def aD : List Mk → (Nat → Option Nat) → Act → Act
  | [], _, a => a
  | (i, d, _, _) :: D, γ, a => match γ i with
    | some g => aD D γ (a.put (some d) (ptr g))
    | none => aD D γ a
def undone : List Mk → (Nat → Option Nat) → Nat
  | [], _ => 0
  | (i, _, _, _) :: D, γ => (match γ i with | some _ => 0 | none => 1) + undone D γ
/-- different numbers, different temporaries -/
def Apart : List Mk → Prop
  | [] => True
  | (i, d, _, _) :: D => (∀ e ∈ D, e.1 ≠ i ∧ e.2.1 ≠ d) ∧ Apart D
def setγ (γ : Nat → Option Nat) (i g : Nat) : Nat → Option Nat := fun j => if j = i then some g else γ j
theorem lD_set {γ : Nat → Option Nat} (j : Nat) : ∀ (D : List Mk) (l : Array Bool), lD D γ (l.setIfInBounds j true) = (lD D γ l).setIfInBounds j true
  | [], _ => rfl
  | (i, d, T, z) :: D, l => by
    have comm : (l.setIfInBounds j true).setIfInBounds i true = (l.setIfInBounds i true).setIfInBounds j true := by
      by_cases h : j = i
      · rw [h]
      · exact Array.setIfInBounds_comm _ _ h
    unfold lD
    cases γ i with
    | none => exact lD_set j D l
    | some g => simp only [comm]; exact lD_set j D _
theorem aD_put {γ : Nat → Option Nat} (x : Option Tmp) (v : Value) : ∀ (D : List Mk) (a : Act), (∀ e ∈ D, x ≠ some e.2.1) → aD D γ (a.put x v) = (aD D γ a).put x v
  | [], _, _ => rfl
  | (i, d, T, z) :: D, a, h => by
    have h1 : ∀ e ∈ D, x ≠ some e.2.1 := fun e he => h e (List.mem_cons_of_mem _ he)
    have h2 : x ≠ some d := h _ (List.mem_cons_self)
    unfold aD
    cases γ i with
    | none => exact aD_put x v D a h1
    | some g =>
      have comm : (a.put x v).put (some d) (ptr g) = (a.put (some d) (ptr g)).put x v := Act.put_comm a v _ (fun y hy e => h2 (hy.trans e.symm))
      simp only [comm]
      exact aD_put x v D _ h1
theorem aD_defers {γ : Nat → Option Nat} (x : Deferred) : ∀ (D : List Mk) (a : Act), aD D γ { a with defers := x :: a.defers } = { aD D γ a with defers := x :: (aD D γ a).defers }
  | [], _ => rfl
  | (i, d, T, z) :: D, a => by
    unfold aD
    cases γ i with
    | none => exact aD_defers x D a
    | some g => exact aD_defers x D (a.put (some d) (ptr g))
theorem setγ_ne {γ : Nat → Option Nat} {i g j : Nat} (h : j ≠ i) : setγ γ i g j = γ j := if_neg h
theorem setγ_eq {γ : Nat → Option Nat} {i g : Nat} : setγ γ i g i = some g := if_pos rfl
theorem lD_off {γ : Nat → Option Nat} {i g : Nat} : ∀ (D : List Mk) (l : Array Bool), (∀ e ∈ D, e.1 ≠ i) → lD D (setγ γ i g) l = lD D γ l
  | [], _, _ => rfl
  | (j, d, T, z) :: D, l, h => by
    have hj : j ≠ i := h _ (List.mem_cons_self)
    have h1 : ∀ e ∈ D, e.1 ≠ i := fun e he => h e (List.mem_cons_of_mem _ he)
    unfold lD
    rw [setγ_ne hj]
    cases γ j with
    | none => exact lD_off D l h1
    | some _ => exact lD_off D _ h1
theorem aD_off {γ : Nat → Option Nat} {i g : Nat} : ∀ (D : List Mk) (a : Act), (∀ e ∈ D, e.1 ≠ i) → aD D (setγ γ i g) a = aD D γ a
  | [], _, _ => rfl
  | (j, d, T, z) :: D, a, h => by
    have hj : j ≠ i := h _ (List.mem_cons_self)
    have h1 : ∀ e ∈ D, e.1 ≠ i := fun e he => h e (List.mem_cons_of_mem _ he)
    unfold aD
    rw [setγ_ne hj]
    cases γ j with
    | none => exact aD_off D a h1
    | some _ => exact aD_off D _ h1
theorem undone_off {γ : Nat → Option Nat} {i g : Nat} : ∀ (D : List Mk), (∀ e ∈ D, e.1 ≠ i) → undone D (setγ γ i g) = undone D γ
  | [], _ => rfl
  | (j, d, T, z) :: D, h => by
    have hj : j ≠ i := h _ (List.mem_cons_self)
    have h1 : ∀ e ∈ D, e.1 ≠ i := fun e he => h e (List.mem_cons_of_mem _ he)
    unfold undone
    rw [setγ_ne hj, undone_off D h1]
theorem made_one {γ : Nat → Option Nat} {i d T g : Nat} {z : Array Value} (hγ : γ i = none) : ∀ (D : List Mk) (l : Array Bool) (a : Act), Apart D → (i, d, T, z) ∈ D →
    lD D (setγ γ i g) l = (lD D γ l).setIfInBounds i true ∧ aD D (setγ γ i g) a = (aD D γ a).put (some d) (ptr g) ∧ undone D (setγ γ i g) + 1 = undone D γ
  | [], _, _, _, hm => by cases hm
  | (j, d', T', z') :: D, l, a, hA, hm => by
    obtain ⟨hA1, hA2⟩ := hA
    rcases List.mem_cons.1 hm with e | hm
    · cases e
      have off : ∀ e ∈ D, e.1 ≠ i := fun e he => (hA1 e he).1
      have offd : ∀ e ∈ D, (some d : Option Tmp) ≠ some e.2.1 := fun e he h => (hA1 e he).2 (Option.some.inj h).symm
      unfold lD aD undone
      rw [setγ_eq, hγ]
      simp only [lD_off D _ off, aD_off D _ off, undone_off D off, lD_set, aD_put _ _ D _ offd]
      exact ⟨trivial, trivial, by omega⟩
    · have hj : j ≠ i := fun e => (hA1 _ hm).1 e.symm
      unfold lD aD undone
      rw [setγ_ne hj]
      cases γ j with
      | none =>
        obtain ⟨h1, h2, h3⟩ := made_one hγ D l a hA2 hm
        exact ⟨h1, h2, by omega⟩
      | some g' =>
        obtain ⟨h1, h2, h3⟩ := made_one hγ D (l.setIfInBounds j true) (a.put (some d') (ptr g')) hA2 hm
        exact ⟨h1, h2, by omega⟩
/-- the blocks that have been made: as they were made, young, and different -/
def okD (W0 : World) (D : List Mk) (γ : Nat → Option Nat) (w : World) : Prop :=
  (∀ e ∈ D, ∀ g, γ e.1 = some g → BlkN w g e.2.2.1 e.2.2.2 ∧ W0.heap.size ≤ g) ∧ ∀ e ∈ D, ∀ e' ∈ D, ∀ g, γ e.1 = some g → γ e'.1 = some g → e.1 = e'.1
theorem okD.to {γ : Nat → Option Nat} {w w' : World} (h : okD W0 D γ w) (hb : Below w.heap.size w w') : okD W0 D γ w' :=
  ⟨fun e he g hg => ⟨(h.1 e he g hg).1.to hb, (h.1 e he g hg).2⟩, h.2⟩
theorem fin_all {γ : Nat → Option Nat} {w : World} {f : Nat} : ∀ (D D0 : List Mk) (used : List Nat) (l : Array Bool) (a : Act), (∀ e ∈ D, e ∈ D0) → Apart D → undone D γ = 0 → okD W0 D0 γ w →
    (∀ u ∈ used, ∃ e0 ∈ D0, γ e0.1 = some u ∧ ∀ e ∈ D, e.1 ≠ e0.1) → FinD P md ops Q W0 f D used l a w → wpAny P md ops Q f (lD D γ l) (aD D γ a) w
  | [], _, _, _, _, _, _, _, _, _, h => h
  | (i, d, T, z) :: D, D0, used, l, a, hin, hA, hu, hok, hused, h => by
    have hm : (i, d, T, z) ∈ D0 := hin _ (List.mem_cons_self)
    obtain ⟨hA1, hA2⟩ := hA
    unfold lD aD
    unfold undone at hu
    cases hγ : γ i with
    | none => rw [hγ] at hu; simp at hu
    | some g =>
      rw [hγ] at hu
      obtain ⟨hB, hg⟩ := hok.1 _ hm g hγ
      have hn : g ∉ used := fun hmem => by
        obtain ⟨e0, he0, h0, hne⟩ := hused g hmem
        exact hne _ (List.mem_cons_self) (hok.2 _ hm _ he0 g hγ h0)
      refine fin_all D D0 (g :: used) _ _ (fun e he => hin e (List.mem_cons_of_mem _ he)) hA2 (by simpa using hu) hok ?_ (h g hB hg hn)
      intro u hu'
      rcases List.mem_cons.1 hu' with rfl | hu'
      · exact ⟨_, hm, hγ, fun e he => (hA1 e he).1⟩
      · obtain ⟨e0, he0, h0, hne⟩ := hused u hu'
        exact ⟨e0, he0, h0, fun e he => hne e (List.mem_cons_of_mem _ he)⟩
/-- what reads no world: a copy, a part of a tuple -/
def plainK (o : Oper) : Bool := match o.op with | .move _ => true | .assign _ => true | .extract _ _ => true | _ => false
theorem plain_yields {i : Nat} {o : Oper} {a : Act} {w : World} {K : Act → World → Prop} (hi : ops[i]? = some o) (hp : plainK o = true) (hK : wpOp P ops Q i K a w) :
    ∃ v, Yields P ops o v a ∧ K (a.put o.dst v) w := by
  unfold wpOp at hK
  rw [hi] at hK
  simp only at hK
  split at hK
  · rename_i hw
    obtain ⟨dst, op, type, pos, after, guard⟩ := o
    cases op <;> (first | (simp [plainK] at hp; done) | skip)
    case move x =>
      rcases hK with h | ⟨h, _⟩
      · exact ⟨_, .inl ⟨hw, fun w => rfl⟩, h⟩
      · exact absurd (show noRoomEvent ∈ (#[] : Array Event) from h.1) (by simp)
    case assign x =>
      rcases hK with h | ⟨h, _⟩
      · exact ⟨_, .inl ⟨hw, fun w => rfl⟩, h⟩
      · exact absurd (show noRoomEvent ∈ (#[] : Array Event) from h.1) (by simp)
    case extract x k =>
      rcases hK with h | ⟨h, _⟩
      · unfold Oper.wp at h
        simp only [execOp, Instr.extract] at h
        split at h
        · rename_i vs hx
          split at h
          · rename_i v hv
            exact ⟨v, .inl ⟨hw, fun w => by simp only [execOp, Instr.extract, hx, hv]; rfl⟩, h⟩
          · exact absurd h (fun h => h)
        · exact absurd h (fun h => h)
      · exfalso
        have h1 := h.1
        simp only [execOp, Instr.extract] at h1
        split at h1
        · split at h1
          · exact absurd (show noRoomEvent ∈ (#[] : Array Event) from h1) (by simp)
          · exact absurd (show noRoomEvent ∈ (#[] : Array Event) from h1) (by simp)
        · exact absurd (show noRoomEvent ∈ (#[] : Array Event) from h1) (by simp)
  · rename_i hw
    exact ⟨undef, .inr ⟨by simpa using hw, rfl⟩, hK⟩
/-- an operation that looks at no local variable of D: what has been made meanwhile makes no difference to it -/
theorem wpOp_aD {j : Nat} {oj : Oper} (hj : ops[j]? = some oj) (hs : ∀ cs b, oj.op ≠ .select cs b) (hQ : ∀ c a (d : Tmp) v w, Q (.panic c) a w → Q (.panic c) (a.put (some d) v) w) {γ : Nat → Option Nat} {w : World} {K : Act → World → Prop} :
    ∀ (D : List Mk) (a : Act), (∀ e ∈ D, e.2.1 ∉ oj.looksAt ops ∧ oj.dst ≠ some e.2.1) → wpOp P ops Q j (fun a' w' => K (aD D γ a') w') a w → wpOp P ops Q j K (aD D γ a) w
  | [], _, _, h => h
  | (i, d, T, z) :: D, a, hap, h => by
    have hap' : ∀ e ∈ D, e.2.1 ∉ oj.looksAt ops ∧ oj.dst ≠ some e.2.1 := fun e he => hap e (List.mem_cons_of_mem _ he)
    obtain ⟨n1, n2⟩ := hap _ (List.mem_cons_self)
    unfold aD at h ⊢
    cases hγ : γ i with
    | none => rw [hγ] at h; exact wpOp_aD hj hs hQ D a hap' h
    | some g =>
      rw [hγ] at h
      refine wpOp_aD hj hs hQ D _ hap' ?_
      have k1 : ∀ d', (some d : Option Tmp) = some d' → d' ∉ oj.looksAt ops := fun d' e => by cases e; exact n1
      have k2 : ∀ d', (some d : Option Tmp) = some d' → oj.dst ≠ some d' := fun d' e => by cases e; exact n2
      unfold wpOp at *
      simp only [hj] at *
      rw [wanted_put oj a (some d) (ptr g) k1]
      split
      · rename_i hw
        simp only [hw, if_true] at h
        rcases h with h | ⟨h1, h2⟩
        · refine .inl ?_
          unfold Oper.wp at *
          rw [execOp_put oj hs a (some d) (ptr g) k1]
          generalize (execOp a.eval oj).run P w = r at *
          cases r with
          | ok n w' =>
            cases n <;> simp only [Oper.upon] at h ⊢
            case value u => rw [Act.put_comm a _ u k2]; exact h
            case skip => rw [Act.put_comm a _ undef k2]; exact h
            case defer x => rw [Act.put_defers, Act.put_comm _ _ undef k2]; exact h
            case enter f args =>
              refine Calls.mono h fun e w'' he => ?_
              cases e with
              | returned u => show K _ _; rw [Act.put_comm a _ u k2]; exact he
              | panicked c => exact hQ _ _ _ _ _ he
              | outgrown => exact he
            case row row args => exact Rows.mono h fun u w'' he => (by rw [Act.put_comm a _ u k2]; exact he)
          | halt x w' =>
            cases x <;> simp only [Oper.upon] at h ⊢
            case panic u => exact hQ _ _ _ _ _ h
        · refine .inr ⟨?_, h2⟩
          unfold Oper.asks at *
          rw [execOp_put oj hs a (some d) (ptr g) k1]
          exact h1
      · rename_i hw
        simp only [hw] at h
        show K _ _
        rw [Act.put_comm a _ undef k2]
        exact h
theorem execOp_aD {oj : Oper} (hs : ∀ cs b, oj.op ≠ .select cs b) {γ : Nat → Option Nat} : ∀ (D : List Mk) (a : Act), (∀ e ∈ D, e.2.1 ∉ oj.looksAt ops ∧ oj.dst ≠ some e.2.1) → execOp (aD D γ a).eval oj = execOp a.eval oj ∧ Region.wanted oj (yielded ops (aD D γ a).tmps) = Region.wanted oj (yielded ops a.tmps)
  | [], _, _ => ⟨rfl, rfl⟩
  | (i, d, T, z) :: D, a, hap => by
    have hap' : ∀ e ∈ D, e.2.1 ∉ oj.looksAt ops ∧ oj.dst ≠ some e.2.1 := fun e he => hap e (List.mem_cons_of_mem _ he)
    obtain ⟨n1, n2⟩ := hap _ (List.mem_cons_self)
    have k1 : ∀ d', (some d : Option Tmp) = some d' → d' ∉ oj.looksAt ops := fun d' e => by cases e; exact n1
    unfold aD
    cases γ i with
    | none => exact execOp_aD hs D a hap'
    | some g =>
      obtain ⟨h1, h2⟩ := execOp_aD hs D (a.put (some d) (ptr g)) hap'
      exact ⟨h1.trans (execOp_put oj hs a (some d) (ptr g) k1), h2.trans (wanted_put oj a (some d) (ptr g) k1)⟩
theorem inD_iff {D : List Mk} {i : Nat} : inD D i = true ↔ ∃ e ∈ D, e.1 = i := by
  unfold inD
  rw [List.any_eq_true]
  exact ⟨fun ⟨e, he, h⟩ => ⟨e, he, by simpa using h⟩, fun ⟨e, he, h⟩ => ⟨e, he, by simpa using h⟩⟩
theorem lD_size {γ : Nat → Option Nat} : ∀ (D : List Mk) (l : Array Bool), (lD D γ l).size = l.size
  | [], _ => rfl
  | (i, d, T, z) :: D, l => by
    unfold lD
    cases γ i with
    | none => exact lD_size D l
    | some g => simp only [lD_size D, Array.size_setIfInBounds]
theorem lD_get {γ : Nat → Option Nat} {j : Nat} (b : Bool) : ∀ (D : List Mk) (l : Array Bool), (∀ e ∈ D, e.1 = j → γ j = none) → (lD D γ l).getD j b = l.getD j b
  | [], _, _ => rfl
  | (i, d, T, z) :: D, l, h => by
    have h' : ∀ e ∈ D, e.1 = j → γ j = none := fun e he => h e (List.mem_cons_of_mem _ he)
    unfold lD
    cases hγ : γ i with
    | none => exact lD_get b D l h'
    | some g =>
      have hne : i ≠ j := fun e => by have := h _ (List.mem_cons_self) e; rw [← e, hγ] at this; cases this
      exact (lD_get b D _ h').trans (getD_set_ne b hne)
theorem lD_done {γ : Nat → Option Nat} {b : Bool} : ∀ (D : List Mk) (l : Array Bool) (e : Mk), e ∈ D → (γ e.1).isSome = true → e.1 < l.size → (lD D γ l).getD e.1 b = true
  | (i, d, T, z) :: D, l, e, hm, hγ, hl => by
    have keep : ∀ (D : List Mk) (l : Array Bool), e.1 < l.size → l.getD e.1 b = true → (lD D γ l).getD e.1 b = true := by
      intro D
      induction D with
      | nil => intro l _ h; exact h
      | cons x D ih =>
        obtain ⟨i, d, T, z⟩ := x
        intro l hs h
        unfold lD
        cases γ i with
        | none => exact ih l hs h
        | some g =>
          refine ih _ (by simpa using hs) ?_
          by_cases hi : i = e.1
          · subst hi; simp [hs]
          · rw [getD_set_ne b hi]; exact h
    unfold lD
    rcases List.mem_cons.1 hm with he | hm
    · subst he
      cases hg : γ i with
      | none => simp only at hγ; rw [hg] at hγ; cases hγ
      | some g => exact keep D _ (by simpa using hl) (by simp only at hl; simp [hl])
    · cases γ i with
      | none => exact lD_done D l e hm hγ hl
      | some g => exact lD_done D _ e hm hγ (by simpa using hl)
theorem undone_pos {γ : Nat → Option Nat} : ∀ (D : List Mk), 0 < undone D γ → ∃ e ∈ D, γ e.1 = none
  | (i, d, T, z) :: D, h => by
    unfold undone at h
    cases hγ : γ i with
    | none => exact ⟨_, List.mem_cons_self, hγ⟩
    | some g =>
      rw [hγ] at h
      obtain ⟨e, he, h'⟩ := undone_pos D (by simpa using h)
      exact ⟨e, List.mem_cons_of_mem _ he, h'⟩
theorem undone_zero {γ : Nat → Option Nat} : ∀ (D : List Mk), (∀ e ∈ D, (γ e.1).isSome = true) → undone D γ = 0
  | [], _ => rfl
  | (i, d, T, z) :: D, h => by
    unfold undone
    have h0 := h _ (List.mem_cons_self)
    simp only at h0
    cases hγ : γ i with
    | none => rw [hγ] at h0; cases h0
    | some g => simp only; rw [undone_zero D (fun e he => h e (List.mem_cons_of_mem _ he))]
/-! ### the conditions on the region, for the kernel to reckon -/
def waitsOn (md : Region.Mode) (ops : Array Oper) (j i : Nat) : Bool := match ops[j]? with
  | some o => o.after.any fun e => Region.binds md e && e.on == i
  | none => false
theorem waitsOn_iff {i j : Nat} {oj : Oper} (hj : ops[j]? = some oj) : waitsOn md ops j i = true ↔ ∃ e ∈ oj.after, Region.binds md e = true ∧ e.on = i := by
  unfold waitsOn
  rw [hj]
  simp only [Array.any_eq_true', Bool.and_eq_true, beq_iff_eq]
def lateB (md : Region.Mode) (ops : Array Oper) (D : List Mk) (j : Nat) : Bool := D.any fun e => waitsOn md ops j e.1
def apartB : List Mk → Bool
  | [] => true
  | (i, d, _, _) :: D => (D.all fun e => e.1 != i && e.2.1 != d) && apartB D
theorem apartB_spec : ∀ {D : List Mk}, apartB D = true → Apart D
  | [], _ => trivial
  | (i, d, _, _) :: D, h => by
    unfold apartB at h
    rw [Bool.and_eq_true, List.all_eq_true] at h
    exact ⟨fun e he => by have := h.1 e he; simpa using this, apartB_spec h.2⟩
def freeB (md : Region.Mode) (ops : Array Oper) (j : Nat) (oj : Oper) : Bool := (List.range ops.size).all fun k => k == j || match ops[k]? with
  | some ok => waitsOn md ops k j || waitsOn md ops j k || oj.apart ops ok
  | none => true
/-- k waits for i, or for one that waits for i, and so on -/
def reachL (md : Region.Mode) (ops : Array Oper) : Nat → Nat → Nat → Bool
  | 0, k, i => waitsOn md ops k i
  | f + 1, k, i => waitsOn md ops k i || (List.range ops.size).any fun m => waitsOn md ops k m && reachL md ops f m i
/-- j waits for i, or for one that waits for i, and so on -/
def behind (md : Region.Mode) (ops : Array Oper) (D : List Mk) (j i : Nat) : Bool := waitsOn md ops j i || (List.range ops.size).any fun k => !inD D k && waitsOn md ops j k && reachL md ops 3 k i
def lateOK (md : Region.Mode) (ops : Array Oper) (D : List Mk) (j : Nat) : Bool := (D.all fun e => waitsOn md ops j e.1) && (List.range ops.size).all fun i => inD D i || lateB md ops D i || ((ops[i]?).map plainK).getD true || behind md ops D j i
def earlyOK (md : Region.Mode) (ops : Array Oper) (D : List Mk) (j : Nat) (oj : Oper) : Bool := (D.all fun e => !(oj.looksAt ops).contains e.2.1 && oj.dst != some e.2.1) && (!plainK oj || freeB md ops j oj)
def opOK (md : Region.Mode) (ops : Array Oper) (D : List Mk) (j : Nat) : Bool := inD D j || match ops[j]? with
  | none => true
  | some oj => if lateB md ops D j then lateOK md ops D j else earlyOK md ops D j oj
def mkOK (md : Region.Mode) (ops : Array Oper) (e : Mk) : Bool := match ops[e.1]? with
  | some o => o.after.all fun x => !Region.binds md x
  | none => false
def deferOK (md : Region.Mode) (ops : Array Oper) (D : List Mk) : Bool := Region.noSelect ops && apartB D && D.all (mkOK md ops) && (List.range ops.size).all (opOK md ops D)
/-- the making of a local variable, run -/
def MkRun (P : Program) (ops : Array Oper) (Q : Exit → Act → World → Prop) (e : Mk) : Prop :=
  ∀ (a : Act) (w : World) (K : Act → World → Prop), K (a.put (some e.2.1) (ptr w.heap.size)) (w.alloc (.cells e.2.2.2 e.2.2.1)) → wpOp P ops Q e.1 K a w
theorem early_spec (hok : deferOK md ops D = true) {j : Nat} {oj : Oper} (hj : ops[j]? = some oj) (hjD : inD D j = false) (hl : lateB md ops D j = false) :
    (∀ e ∈ D, e.2.1 ∉ oj.looksAt ops ∧ oj.dst ≠ some e.2.1) ∧ (plainK oj = true → ∀ k ok, ops[k]? = some ok → k ≠ j → waitsOn md ops k j = true ∨ waitsOn md ops j k = true ∨ oj.apart ops ok = true) := by
  unfold deferOK at hok
  simp only [Bool.and_eq_true, List.all_eq_true, List.mem_range] at hok
  have h := hok.2 j (Array.getElem?_eq_some_iff.1 hj).1
  unfold opOK at h
  rw [hjD, hj] at h
  simp only [hl, Bool.false_or] at h
  unfold earlyOK at h
  simp only [Bool.false_eq_true, if_false, Bool.and_eq_true, List.all_eq_true] at h
  refine ⟨fun e he => by have := h.1 e he; simpa using this, fun hp k ok hk hkj => ?_⟩
  have h2 := h.2
  rw [hp] at h2
  simp only [Bool.not_true, Bool.false_or] at h2
  unfold freeB at h2
  rw [List.all_eq_true] at h2
  have := h2 k (List.mem_range.2 (Array.getElem?_eq_some_iff.1 hk).1)
  rw [hk] at this
  simp only [Bool.or_eq_true, beq_iff_eq, hkj, false_or] at this
  rcases this with (h | h) | h
  · exact .inl h
  · exact .inr (.inl h)
  · exact .inr (.inr h)
theorem late_spec (hok : deferOK md ops D = true) {j : Nat} {oj : Oper} (hj : ops[j]? = some oj) (hjD : inD D j = false) (hl : lateB md ops D j = true) :
    (∀ e ∈ D, waitsOn md ops j e.1 = true) ∧ ∀ i oi, ops[i]? = some oi → inD D i = false → lateB md ops D i = false → plainK oi = false → behind md ops D j i = true := by
  unfold deferOK at hok
  simp only [Bool.and_eq_true, List.all_eq_true, List.mem_range] at hok
  have h := hok.2 j (Array.getElem?_eq_some_iff.1 hj).1
  unfold opOK at h
  rw [hjD, hj] at h
  simp only [hl, Bool.false_or, if_true] at h
  unfold lateOK at h
  simp only [Bool.and_eq_true, List.all_eq_true, List.mem_range] at h
  refine ⟨h.1, fun i oi hi hiD hil hp => ?_⟩
  have := h.2 i (Array.getElem?_eq_some_iff.1 hi).1
  rw [hiD, hil, hi] at this
  simpa [hp] using this
/-- what is listed, all that it waits for is listed -/
def Closed (md : Region.Mode) (ops : Array Oper) (l : Array Bool) : Prop := ∀ k ok, ops[k]? = some ok → l.getD k false = true → ∀ e ∈ ok.after, Region.binds md e = true → l.getD e.on false = true
theorem Closed.reach {l : Array Bool} (h : Closed md ops l) : ∀ {f k i : Nat}, l.getD k false = true → reachL md ops f k i = true → l.getD i false = true := by
  have one : ∀ {k i : Nat}, l.getD k false = true → waitsOn md ops k i = true → l.getD i false = true := by
    intro k i hk hw
    cases hok' : ops[k]? with
    | none => unfold waitsOn at hw; rw [hok'] at hw; cases hw
    | some ok =>
      obtain ⟨x, hx, hxb, hxo⟩ := (waitsOn_iff hok').1 hw
      rw [← hxo]; exact h k ok hok' hk x hx hxb
  intro f
  induction f with
  | zero => intro k i hk hr; exact one hk hr
  | succ f ih =>
    intro k i hk hr
    unfold reachL at hr
    rcases Bool.or_eq_true_iff.1 hr with h1 | h1
    · exact one hk h1
    · obtain ⟨m, _, hm⟩ := List.any_eq_true.1 h1
      rw [Bool.and_eq_true] at hm
      exact ih (one hk hm.1) hm.2
theorem Closed.set {l : Array Bool} {i : Nat} (h : Closed md ops l) (hi : i ∈ Region.ready md ops l) : Closed md ops (l.setIfInBounds i true) := by
  intro k ok hk hl e he hb
  by_cases hki : i = k
  · subst hki
    obtain ⟨_, o, ho, hall⟩ := mem_ready.1 hi
    rw [hk] at ho
    obtain rfl := Option.some.inj ho
    exact getD_set_true (hall e he hb)
  · rw [getD_set_ne false hki] at hl
    exact getD_set_true (h k ok hk hl e he hb)
theorem anyE_any (hok : deferOK md ops D = true) (hal : ∀ e ∈ D, MkRun P ops Q e) (hQ1 : ∀ c a (d : Tmp) v w, Q (.panic c) (a.put (some d) v) w → Q (.panic c) a w) (hQ2 : ∀ c a (d : Tmp) v w, Q (.panic c) a w → Q (.panic c) (a.put (some d) v) w) :
    ∀ (n f : Nat) (l : Array Bool) (a : Act) (w wa : World) (γ : Nat → Option Nat), anyE P md ops Q W0 D f l a w → Below w.heap.size w wa → Below W0.heap.size W0 wa → okD W0 D γ wa →
      (∀ e ∈ D, l.getD e.1 false = false ∧ e.1 < l.size) → Closed md ops l → n = f + undone D γ → wpAny P md ops Q n (lD D γ l) (aD D γ a) wa := by
  have hk := hok
  unfold deferOK at hk
  simp only [Bool.and_eq_true] at hk
  have hsel := Region.noSelect_spec hk.1.1.1
  have hA := apartB_spec hk.1.1.2
  have hmk : ∀ e ∈ D, mkOK md ops e = true := List.all_eq_true.1 hk.1.2
  intro n
  induction n with
  | zero =>
    intro f l a w wa γ h hb hb0 hg hl hcl hn
    obtain ⟨rfl, hu⟩ : f = 0 ∧ undone D γ = 0 := by omega
    exact fin_all D D [] l a (fun _ h => h) hA hu hg (fun u hu => by cases hu) (anyE_fin h h.1 wa hb)
  | succ n ih =>
    intro f l a w wa γ h hb hb0 hg hl hcl hn
    have early : ∀ i, i ∈ Region.ready md ops l → inD D i = false → lateB md ops D i = false := by
      intro i hi hiD
      rcases Bool.eq_false_or_eq_true (lateB md ops D i) with h1 | h1
      · obtain ⟨_, oi, hoi, _⟩ := mem_ready.1 hi
        obtain ⟨e, he, hw⟩ := List.any_eq_true.1 h1
        obtain ⟨x, hx, hxb, hxo⟩ := (waitsOn_iff hoi).1 hw
        exact absurd hxo (no_wait hi hoi (hl e he).1 x hx hxb)
      · exact h1
    have notD : ∀ j, inD D j = false → ∀ b, (lD D γ l).getD j b = l.getD j b := fun j hj b => lD_get b D l (fun e he hej => by rw [inD_iff.2 ⟨e, he, hej⟩] at hj; cases hj)
    have r1 : ∀ i, i ∈ Region.ready md ops l → inD D i = false → i ∈ Region.ready md ops (lD D γ l) := by
      intro i hi hiD
      obtain ⟨h1, oi, hoi, hall⟩ := mem_ready.1 hi
      refine mem_ready.2 ⟨by rw [notD i hiD]; exact h1, oi, hoi, fun x hx hxb => ?_⟩
      have := hall x hx hxb
      rcases Bool.eq_false_or_eq_true (inD D x.on) with h2 | h2
      · obtain ⟨e, he, hex⟩ := inD_iff.1 h2
        rw [← hex, (hl e he).1] at this; cases this
      · rw [notD x.on h2]; exact this
    have r2 : ∀ j, j ∈ Region.ready md ops (lD D γ l) → inD D j = false → lateB md ops D j = false → j ∈ Region.ready md ops l := by
      intro j hj hjD hjl
      obtain ⟨h1, oj, hoj, hall⟩ := mem_ready.1 hj
      refine mem_ready.2 ⟨by rw [← notD j hjD]; exact h1, oj, hoj, fun x hx hxb => ?_⟩
      have := hall x hx hxb
      rcases Bool.eq_false_or_eq_true (inD D x.on) with h2 | h2
      · obtain ⟨e, he, hex⟩ := inD_iff.1 h2
        have : lateB md ops D j = true := List.any_eq_true.2 ⟨e, he, (waitsOn_iff hoj).2 ⟨x, hx, hxb, hex.symm⟩⟩
        rw [hjl] at this; cases this
      · rw [← notD x.on h2]; exact this
    have r3 : ∀ e ∈ D, γ e.1 = none → e.1 ∈ Region.ready md ops (lD D γ l) := by
      intro e he hγ
      have h1 := hmk e he
      unfold mkOK at h1
      cases ho : ops[e.1]? with
      | none => rw [ho] at h1; cases h1
      | some o =>
        rw [ho] at h1
        refine mem_ready.2 ⟨?_, o, ho, fun x hx hxb => ?_⟩
        · rw [lD_get true D l (fun _ _ _ => hγ)]
          have h2 := (hl e he).2
          have h3 := (hl e he).1
          simpa [h2] using h3
        · have := Array.all_eq_true_iff_forall_mem.1 h1 x hx
          rw [hxb] at this; cases this
    by_cases hP : ∃ i oi, i ∈ Region.ready md ops l ∧ inD D i = false ∧ ops[i]? = some oi ∧ plainK oi = true
    · obtain ⟨i, oi, hi, hiD, hoi, hp⟩ := hP
      obtain ⟨es1, es2⟩ := early_spec hok hoi hiD (early i hi hiD)
      cases f with
      | zero => have := h.1 i hi; rw [hiD] at this; cases this
      | succ f =>
        obtain ⟨v, hy, _, hv⟩ := plain_yields hoi hp (h.2 i hi hiD wa hb)
        have H := ih f (l.setIfInBounds i true) (a.put oi.dst v) wa wa γ hv (Below.refl _ _) hb0 hg (fun e he => by
          have hne : i ≠ e.1 := fun e' => by rw [inD_iff.2 ⟨e, he, e'.symm⟩] at hiD; cases hiD
          exact ⟨by rw [getD_set_ne false hne]; exact (hl e he).1, by simpa using (hl e he).2⟩) (hcl.set hi) (by omega)
        rw [lD_set, aD_put _ _ D a (fun e he => (es1 e he).2)] at H
        obtain ⟨x1, x2⟩ := execOp_aD (γ := γ) (fun cs b => hsel i oi cs b hoi) D a es1
        refine wpAny_first hoi hsel (fun c a w h => by cases hd : oi.dst with | none => rw [hd] at h; exact h | some d => rw [hd] at h; exact hQ1 c a d _ w h) n (lD D γ l) (aD D γ a) wa ?_ (r1 i hi hiD) (hy.of_same x1 x2) H
        intro k ok hk hki hun hno
        rcases es2 hp k ok hk hki with h1 | h1 | h1
        · obtain ⟨x, hx, hxb, hxo⟩ := (waitsOn_iff hk).1 h1
          exact absurd hxo (hno x hx hxb)
        · obtain ⟨x, hx, hxb, hxo⟩ := (waitsOn_iff hoi).1 h1
          obtain ⟨_, oi', hoi', hall⟩ := mem_ready.1 (r1 i hi hiD)
          rw [hoi] at hoi'
          obtain rfl := Option.some.inj hoi'
          have := hall x hx hxb
          rw [hxo] at this
          rcases Nat.lt_or_ge k (lD D γ l).size with h' | h'
          · simp [h'] at this hun; rw [this] at hun; cases hun
          · simp [Array.getElem?_eq_none h'] at this
        · exact h1
    · by_cases hB : (∀ i ∈ Region.ready md ops l, inD D i = true) ∧ undone D γ = 0
      · have := fin_all D D [] l a (fun _ h => h) hA hB.2 hg (fun u hu => by cases hu) (anyE_fin h hB.1 wa hb)
        rw [hn, hB.2]; exact this
      · have some_ready : undone D γ = 0 → ∃ i, i ∈ Region.ready md ops l ∧ inD D i = false := by
          intro hu
          apply Classical.byContradiction
          intro hno
          apply hB
          refine ⟨fun i hi => ?_, hu⟩
          rcases Bool.eq_false_or_eq_true (inD D i) with h1 | h1
          · exact h1
          · exact absurd ⟨i, hi, h1⟩ hno
        refine ⟨fun hnil => ?_, fun j hj => ?_⟩
        · exfalso
          rcases Nat.eq_zero_or_pos (undone D γ) with hu | hu
          · obtain ⟨i, hi, hiD⟩ := some_ready hu
            have := r1 i hi hiD
            rw [hnil] at this; cases this
          · obtain ⟨e, he, hγ⟩ := undone_pos D hu
            have := r3 e he hγ
            rw [hnil] at this; cases this
        · rcases Bool.eq_false_or_eq_true (inD D j) with hjD | hjD
          · obtain ⟨e, he, rfl⟩ := inD_iff.1 hjD
            have hγ : γ e.1 = none := by
              cases hg' : γ e.1 with
              | none => rfl
              | some g =>
                have := lD_done (γ := γ) (b := true) D l e he (by rw [hg']; rfl) (hl e he).2
                rw [(mem_ready.1 hj).1] at this; cases this
            refine hal e he _ _ _ ?_
            obtain ⟨i, d, T, z⟩ := e
            obtain ⟨m1, m2, m3⟩ := made_one (γ := γ) (g := wa.heap.size) hγ D l a hA he
            simp only at m3
            have m4 : undone D (setγ γ i wa.heap.size) + 1 = undone D γ := m3
            rw [← m1, ← m2]
            refine ih f l a w _ (setγ γ i wa.heap.size) h (nxa hb _) (nxa hb0 _) ⟨fun e' he' g hg' => ?_, fun e1 he1 e2 he2 g hg1 hg2 => ?_⟩ hl hcl (by omega)
            · by_cases hei : e'.1 = i
              · rw [hei, setγ_eq] at hg'
                obtain rfl := Option.some.inj hg'
                have hee : e' = (i, d, T, z) := by
                  apply Classical.byContradiction
                  intro hne
                  have : ∀ (D : List Mk), Apart D → ∀ x ∈ D, ∀ y ∈ D, x.1 = y.1 → x = y := by
                    intro D
                    induction D with
                    | nil => intro _ x hx; cases hx
                    | cons z D ih =>
                      obtain ⟨i, d, T, z⟩ := z
                      intro hA x hx y hy hxy
                      rcases List.mem_cons.1 hx with rfl | hx
                      · rcases List.mem_cons.1 hy with rfl | hy
                        · rfl
                        · exact absurd hxy.symm (hA.1 y hy).1
                      · rcases List.mem_cons.1 hy with rfl | hy
                        · exact absurd hxy (hA.1 x hx).1
                        · exact ih hA.2 x hx y hy hxy
                  exact hne (this D hA e' he' _ he hei)
                subst hee
                exact ⟨BlkN.new wa T z, hb0.size⟩
              · rw [setγ_ne hei] at hg'
                obtain ⟨b1, b2⟩ := hg.1 e' he' g hg'
                exact ⟨b1.alloc _, b2⟩
            · by_cases h1 : e1.1 = i
              · by_cases h2 : e2.1 = i
                · rw [h1, h2]
                · rw [h1, setγ_eq] at hg1
                  rw [setγ_ne h2] at hg2
                  obtain rfl := Option.some.inj hg1
                  have := (hg.1 e2 he2 _ hg2).1.lt
                  omega
              · by_cases h2 : e2.1 = i
                · rw [h2, setγ_eq] at hg2
                  rw [setγ_ne h1] at hg1
                  obtain rfl := Option.some.inj hg2
                  have := (hg.1 e1 he1 _ hg1).1.lt
                  omega
                · rw [setγ_ne h1] at hg1
                  rw [setγ_ne h2] at hg2
                  exact hg.2 e1 he1 e2 he2 g hg1 hg2
          · obtain ⟨_, oj, hoj, hall⟩ := mem_ready.1 hj
            rcases Bool.eq_false_or_eq_true (lateB md ops D j) with hjl | hjl
            · exfalso
              obtain ⟨ls1, ls2⟩ := late_spec hok hoj hjD hjl
              have listed : ∀ i, waitsOn md ops j i = true → (lD D γ l).getD i false = true := fun i hi => by
                obtain ⟨x, hx, hxb, hxo⟩ := (waitsOn_iff hoj).1 hi
                rw [← hxo]; exact hall x hx hxb
              have hu : undone D γ = 0 := undone_zero D (fun e he => by
                cases hg' : γ e.1 with
                | some g => rfl
                | none =>
                  have h1 := listed e.1 (ls1 e he)
                  rw [lD_get false D l (fun _ _ _ => hg'), (hl e he).1] at h1; cases h1)
              obtain ⟨i, hi, hiD⟩ := some_ready hu
              obtain ⟨_, oi, hoi, _⟩ := mem_ready.1 hi
              have hp : plainK oi = false := by
                rcases Bool.eq_false_or_eq_true (plainK oi) with h1 | h1
                · exact absurd ⟨i, oi, hi, hiD, hoi, h1⟩ hP
                · exact h1
              have h0 := ls2 i oi hoi hiD (early i hi hiD) hp
              unfold behind at h0
              rcases Bool.or_eq_true_iff.1 h0 with h1 | h1
              · have h1 := listed i h1
                rw [notD i hiD, unl' hi] at h1; cases h1
              · obtain ⟨k, _, hk⟩ := List.any_eq_true.1 h1
                simp only [Bool.and_eq_true, Bool.not_eq_true'] at hk
                have h2 := listed k hk.1.2
                rw [notD k hk.1.1] at h2
                have h3 := hcl.reach h2 hk.2
                rw [unl' hi] at h3; cases h3
            · have hjr := r2 j hj hjD hjl
              obtain ⟨es1, _⟩ := early_spec hok hoj hjD hjl
              cases f with
              | zero => have := h.1 j hjr; rw [hjD] at this; cases this
              | succ f =>
                have h1 := h.2 j hjr hjD wa hb
                refine wpOp_aD hoj (fun cs b => hsel j oj cs b hoj) hQ2 D a es1 (wpOp_mono (fun a' w' ⟨hb', h2⟩ => ?_) h1)
                rw [← lD_set]
                exact ih f _ a' w' w' γ h2 (Below.refl _ _) (nx hb0 hb') (hg.to hb') (fun e he => by
                  have hne : j ≠ e.1 := fun e' => by rw [inD_iff.2 ⟨e, he, e'.symm⟩] at hjD; cases hjD
                  exact ⟨by rw [getD_set_ne false hne]; exact (hl e he).1, by simpa using (hl e he).2⟩) (hcl.set hjr) (by omega)
theorem lD_none : ∀ (D : List Mk) (l : Array Bool), lD D (fun _ => none) l = l
  | [], _ => rfl
  | (_, _, _, _) :: D, l => lD_none D l
theorem aD_none : ∀ (D : List Mk) (a : Act), aD D (fun _ => none) a = a
  | [], _ => rfl
  | (_, _, _, _) :: D, a => aD_none D a
theorem undone_none : ∀ (D : List Mk), undone D (fun _ => none) = D.length
  | [] => rfl
  | (_, _, _, _) :: D => by unfold undone; simp only [undone_none D, List.length_cons]; omega
/-- THE BEGINNING -/
theorem wp_regionE {id f : Nat} {a : Act} {w : World} (D : List Mk) (hm : P.follows .mixedOrders = true) (hok : deferOK .any ops D = true) (hal : ∀ e ∈ D, MkRun P ops Q e)
    (hQ1 : ∀ c a (d : Tmp) v w, Q (.panic c) (a.put (some d) v) w → Q (.panic c) a w) (hQ2 : ∀ c a (d : Tmp) v w, Q (.panic c) a w → Q (.panic c) (a.put (some d) v) w) (hf : ops.size = f + D.length)
    (h : anyE P .any ops Q w.drew D f (Array.replicate ops.size false) a w.drew) : (Code.region id ops true).wp P Q a w := by
  refine wp_region_any hm ?_
  have := anyE_any hok hal hQ1 hQ2 ops.size f (Array.replicate ops.size false) a w.drew w.drew (fun _ => none) h (Below.refl _ _) (Below.refl _ _)
    ⟨fun _ _ _ hg => (by cases hg), fun _ _ _ _ _ hg => (by cases hg)⟩ (fun e he => ⟨by simp [Array.getElem?_replicate]; split <;> rfl, ?_⟩) (fun k ok _ h => by have h2 : (Array.replicate ops.size false).getD k false = false := (by simp [Array.getElem?_replicate]; split <;> rfl); rw [h2] at h; cases h) (by rw [undone_none]; exact hf)
  · rwa [lD_none, aD_none] at this
  · have hk := hok
    unfold deferOK at hk
    simp only [Bool.and_eq_true] at hk
    have h1 := List.all_eq_true.1 hk.1.2 e he
    unfold mkOK at h1
    cases ho : ops[e.1]? with
    | none => rw [ho] at h1; cases h1
    | some o => simpa using (Array.getElem?_eq_some_iff.1 ho).1
theorem FinD_cons {f i d T : Nat} {z : Array Value} {D : List Mk} {used : List Nat} {l : Array Bool} {a : Act} {w : World}
    (h : ∀ g, BlkN w g T z → W0.heap.size ≤ g → g ∉ used → FinD P md ops Q W0 f D (g :: used) (l.setIfInBounds i true) (a.put (some d) (.pointer (some ⟨g, 0, none⟩))) w) : FinD P md ops Q W0 f ((i, d, T, z) :: D) used l a w := h
theorem FinD_nil {f : Nat} {used : List Nat} {l : Array Bool} {a : Act} {w : World} (h : anyT P md ops Q (fun _ => True) [] f l a w) : FinD P md ops Q W0 f [] used l a w := anyT_any _ _ _ _ h
theorem mk_nil : ∀ e ∈ ([] : List Mk), MkRun P ops Q e := fun _ h => by cases h
theorem mk_cons {e : Mk} {D : List Mk} (h : MkRun P ops Q e) (hs : ∀ e ∈ D, MkRun P ops Q e) : ∀ x ∈ e :: D, MkRun P ops Q x := fun x hx => by
  rcases List.mem_cons.1 hx with rfl | hx
  · exact h
  · exact hs x hx
end
theorem mk_nat {ops : Array Oper} {Q : Exit → Act → World → Prop} {i d : Nat} {o : Oper} (hi : ops[i]? = some o) (hop : o.op = Op.alloc 25) (hd : o.dst = some d) (hg : o.guard = none) : MkRun Try.prog ops Q (i, d, 25, #[.slice none 0 0]) := by
  intro a w K h
  refine wpOp_step hi (fun K' hK => ?_)
  have hw : Region.wanted o (yielded ops a.tmps) = true := by simp [Region.wanted, hg]
  rw [if_pos hw]
  have h2 := hK _ _ h
  unfold ptr at h2
  simp only at h2
  unfold Oper.wp execOp
  simp only [hop]
  go_simp
  exact h2
end Go.Proofs.Ytflleaifmeiikaa
set_option linter.unusedVariables false
set_option linter.unusedSimpArgs false
namespace Go.Proofs.Ytflleaifmeiikaa
open Go.RowKit
set_option maxRecDepth 100000
theorem shl_fit2 {x n k m : Nat} (hx : x < W ^ n) (hk : k < 64 * m) : x * 2 ^ k < W ^ (n + m) := by
  rw [Nat.pow_add]
  exact Nat.lt_of_le_of_lt (Nat.mul_le_mul_right _ (Nat.le_of_lt hx)) (Nat.mul_lt_mul_of_pos_left (by rw [W_pow]; exact Nat.pow_lt_pow_right (by decide) hk) (by omega))
theorem num_lit1 (w : World) (g : Nat) (e : TypeId) (d : Nat) (hg : w.heap.size = g) (hd : d < 65536) (h0 : 0 < d) : NumAt .i64 65536 (w.alloc (.cells #[.int .i64 (d : Nat)] e)) (some ⟨g, 0, none⟩) 1 1 d := by
  subst hg
  have hB := Blk1.new w e (.int .i64 (d : Nat))
  refine ⟨⟨by rw [Nat.pow_one]; exact hd, Nat.le_refl _, by omega, fun _ => ⟨w.heap.size, 0, rfl, hB.lt, fun j hj => ?_⟩⟩, fun _ => by simp; omega⟩
  obtain rfl : j = 0 := by omega
  have := hB.cell
  rw [Nat.add_zero, this]
  congr 3
  unfold dg
  rw [Nat.pow_zero, Nat.div_one, Nat.mod_eq_of_lt hd]
/-- a number and one of one digit, made on the spot -/
theorem ref2_Add_lit (d : Nat) (A : Option Addr) (n c x : Nat) (w : World) (g : Nat) (e : TypeId) (hg : w.heap.size = g) (h : NumAt .i64 65536 w A n c x) (hd : d < 65536) (h0 : 0 < d) (hn : n ≤ 4000000000) :
    Calls Try.prog 68 #[.slice A n c, .slice (some ⟨g, 0, none⟩) 1 1] (w.alloc (.cells #[.int .i64 (d : Nat)] e)) (RetRef 65536 w (x + d)) := by
  refine (ref2_Add A n c x _ 1 1 d _ (h.to (nxa (Below.refl _ _) _)) (num_lit1 w g e d hg hd h0) hn (by decide)).mono ?_
  rintro e' w' ⟨A', m, c', rfl, h', hb, hf⟩
  exact ⟨A', m, c', rfl, h', nx (nxa (Below.refl _ _) _) hb, hf.mono (by simp)⟩
/-- a local variable's pointer, and the number that lies there, of at most L words -/
def NumL (w : World) (T x L : Nat) (p : Value) : Prop := ∃ g A n c, p = .pointer (some ⟨g, 0, none⟩) ∧ Blk1 w g T (.slice A n c) ∧ NatAt w A n c x ∧ n ≤ L
theorem nat_Of_one (d : Nat) (w : World) (g : Nat) (e : TypeId) (hg : w.heap.size = g) (hd : d < W) :
    Calls Try.prog 13 #[.slice (some ⟨g, 0, none⟩) 1 1] (w.alloc (.cells #[.int .u64 (d : Nat)] e))
      fun e' w' => ∃ A m c, e' = .returned (.agg #[.slice A m c]) ∧ NatAt w' A m c d ∧ Below w.heap.size w w' ∧ m ≤ 1 := by
  refine (nat_Of _ 1 _ _ _ (dig_oneAt w g e d hg hd) (by decide)).mono ?_
  rintro e' w' ⟨A, m, c, rfl, h, hb, hm⟩
  exact ⟨A, m, c, rfl, h, nx (nxa (Below.refl _ _) _) hb, hm⟩
theorem ref2_Of_one (d : Nat) (w : World) (g : Nat) (e : TypeId) (hg : w.heap.size = g) (hd : d < W) :
    Calls Try.prog 14 #[.slice (some ⟨g, 0, none⟩) 1 1] (w.alloc (.cells #[.int .u64 (d : Nat)] e)) (RetRef 65536 w d) := by
  refine (ref2_Of _ 1 _ _ _ (dig_oneAt w g e d hg hd) (by decide)).mono ?_
  rintro e' w' ⟨A, m, c, rfl, h, hb, hf⟩
  exact ⟨A, m, c, rfl, h, nx (nxa (Below.refl _ _) _) hb, hf.mono (by simp)⟩
end Go.Proofs.Ytflleaifmeiikaa
