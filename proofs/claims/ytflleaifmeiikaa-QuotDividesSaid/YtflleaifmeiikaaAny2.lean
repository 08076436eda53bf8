/- A region that draws its order, some of whose operations (the list tl: stores) write what its loads read: S on the world is asked as long as none of them has come up; plain operations may come behind them. Laws on regions; no program in sight. -/
import Derived.Test.YtflleaifmeiikaaAny
set_option linter.unusedVariables false
namespace Go.Proofs.Ytflleaifmeiikaa
open Go.RowKit
section
variable {P : Program} {ops : Array Oper} {Q : Exit → Act → World → Prop} {md : Region.Mode} {S : World → Prop} {tl : List Nat}
/-- none of the tail's has come up -/
def clean (tl : List Nat) (listed : Array Bool) : Bool := tl.all fun j => !listed.getD j true
def anyS (P : Program) (md : Region.Mode) (ops : Array Oper) (Q : Exit → Act → World → Prop) (S : World → Prop) (tl : List Nat) : Nat → Array Bool → Act → World → Prop
  | 0, listed, a, w => Region.ready md ops listed = [] ∧ Q .normal a w
  | fuel + 1, listed, a, w =>
    (Region.ready md ops listed = [] → Q .normal a w) ∧
    ∀ i ∈ Region.ready md ops listed, wpOp P ops Q i (fun a' w' => (clean tl (listed.setIfInBounds i true) = true → S w') ∧ anyS P md ops Q S tl fuel (listed.setIfInBounds i true) a' w') a w
theorem anyS_any : ∀ (fuel : Nat) (listed : Array Bool) (a : Act) (w : World), anyS P md ops Q S tl fuel listed a w → wpAny P md ops Q fuel listed a w
  | 0, _, _, _, h => h
  | fuel + 1, _, _, _, h => ⟨h.1, fun i hi => wpOp_mono (fun a' w' h' => anyS_any fuel _ a' w' h'.2) (h.2 i hi)⟩
theorem not_listed {i : Nat} {listed : Array Bool} (hr : i ∈ Region.ready md ops listed) {j : Nat} {oj : Oper} (hj : j ∈ Region.ready md ops listed) (hoj : ops[j]? = some oj) : ∀ e ∈ oj.after, Region.binds md e = true → e.on ≠ i := fun e he hb heq => by
  obtain ⟨_, oj', hoj', hall⟩ := mem_ready.1 hj
  rw [hoj] at hoj'
  obtain rfl := Option.some.inj hoj'
  have h1 := hall e he hb
  have h0 := (mem_ready.1 hr).1
  rw [heq] at h1
  rcases Nat.lt_or_ge i listed.size with h' | h'
  · simp [h'] at h0 h1; rw [h0] at h1; cases h1
  · simp [Array.getElem?_eq_none h'] at h1
/-- behind an operation that is not one of the tail's the tail is as clean as before -/
theorem clean_of {j : Nat} {listed : Array Bool} (h : clean tl (listed.setIfInBounds j true) = true) : clean tl listed = true := by
  unfold clean at *
  rw [List.all_eq_true] at *
  intro k hk
  have := h k hk
  by_cases hjk : j = k
  · subst hjk
    rcases Nat.lt_or_ge j listed.size with h' | h'
    · simp [h'] at this
    · simpa [Array.setIfInBounds_eq_of_size_le h'] using this
  · rwa [getD_set_ne true hjk] at this
theorem clean_set {j : Nat} {listed : Array Bool} (h : clean tl listed = true) (hj : tl.contains j = false) : clean tl (listed.setIfInBounds j true) = true := by
  unfold clean at *
  rw [List.all_eq_true] at *
  intro k hk
  have hjk : j ≠ k := fun e => by subst e; rw [List.contains_iff_mem.2 hk] at hj; cases hj
  rw [getD_set_ne true hjk]
  exact h k hk
/-- number i, which loads, is taken first: every operation of the tail waits for it -/
theorem anyS_first {i : Nat} {oi : Oper} {v : Value} (hi : ops[i]? = some oi) (hsel : ∀ (j : Nat) (o : Oper) cs b, ops[j]? = some o → o.op ≠ .select cs b)
    (hQ : ∀ c a w, Q (.panic c) (a.put oi.dst v) w → Q (.panic c) a w) (hw : waits md ops tl i = true) :
    ∀ (fuel : Nat) (listed : Array Bool) (a : Act) (w : World), clean tl listed = true →
      (∀ j oj, ops[j]? = some oj → j ≠ i → listed.getD j true = false → (∀ e ∈ oj.after, Region.binds md e = true → e.on ≠ i) → oi.apart ops oj = true) →
      i ∈ Region.ready md ops listed → YieldsIf P ops S oi v a → S w →
      anyS P md ops Q S tl fuel (listed.setIfInBounds i true) (a.put oi.dst v) w → anyS P md ops Q S tl (fuel + 1) listed a w := by
  obtain ⟨hti, htl⟩ := waits_spec hw
  intro fuel
  induction fuel with
  | zero =>
    intro listed a w _ _ hr hy hS H
    refine ⟨fun h => (by rw [h] at hr; cases hr), fun j hj => ?_⟩
    by_cases hji : j = i
    · subst hji; exact hy.wpOp hi hS ⟨fun _ => hS, H⟩
    · have := ready_mono hj hji
      rw [H.1] at this
      cases this
  | succ fuel ih =>
    intro listed a w hcl hfree hr hy hS H
    refine ⟨fun h => (by rw [h] at hr; cases hr), fun j hj => ?_⟩
    by_cases hji : j = i
    · subst hji; exact hy.wpOp hi hS ⟨fun _ => hS, H⟩
    · have h1 := H.2 j (ready_mono hj hji)
      obtain ⟨hjun, oj, hoj, hall⟩ := mem_ready.1 hj
      have hnot := not_listed hr hj hoj
      have htj : tl.contains j = false := by
        rcases Bool.eq_false_or_eq_true (tl.contains j) with h | h
        · obtain ⟨e, he, hb, heq⟩ := htl j oj h hoj
          exact absurd heq (hnot e he hb)
        · exact h
      have hcj := clean_set hcl htj
      have hcij := clean_set (clean_set hcl hti) htj
      have h2 := wpOp_putIf hoj (hfree j oj hoj hji hjun hnot) (fun cs b => hsel i oi cs b hi) (fun cs b => hsel j oj cs b hoj) hQ hy h1
      have hfree' : ∀ k ok, ops[k]? = some ok → k ≠ i → (listed.setIfInBounds j true).getD k true = false →
          (∀ e ∈ ok.after, Region.binds md e = true → e.on ≠ i) → oi.apart ops ok = true := fun k ok hk hki hun hno => by
        refine hfree k ok hk hki ?_ hno
        by_cases hjk : j = k
        · subst hjk; exact hjun
        · rw [getD_set_ne true hjk] at hun; exact hun
      refine wpOp_mono (fun a' w' h3 => ⟨fun _ => h3.2.1 hcij, ih (listed.setIfInBounds j true) a' w' hcj hfree' (ready_mono hr (Ne.symm hji)) h3.1 (h3.2.1 hcij) ?_⟩) h2
      rw [Array.setIfInBounds_comm _ _ hji]
      exact h3.2.2
/-- number i, which yields the same in whatever world, is taken first -/
theorem anyS_first0 {i : Nat} {oi : Oper} {v : Value} (hi : ops[i]? = some oi) (hsel : ∀ (j : Nat) (o : Oper) cs b, ops[j]? = some o → o.op ≠ .select cs b)
    (hQ : ∀ c a w, Q (.panic c) (a.put oi.dst v) w → Q (.panic c) a w) (hti : tl.contains i = false) :
    ∀ (fuel : Nat) (listed : Array Bool) (a : Act) (w : World), (clean tl listed = true → S w) →
      (∀ j oj, ops[j]? = some oj → j ≠ i → listed.getD j true = false → (∀ e ∈ oj.after, Region.binds md e = true → e.on ≠ i) → oi.apart ops oj = true) →
      i ∈ Region.ready md ops listed → YieldsIf P ops (fun _ => True) oi v a →
      anyS P md ops Q S tl fuel (listed.setIfInBounds i true) (a.put oi.dst v) w → anyS P md ops Q S tl (fuel + 1) listed a w := by
  intro fuel
  induction fuel with
  | zero =>
    intro listed a w hS _ hr hy H
    refine ⟨fun h => (by rw [h] at hr; cases hr), fun j hj => ?_⟩
    by_cases hji : j = i
    · subst hji; exact hy.wpOp hi trivial ⟨fun h => hS (clean_of h), H⟩
    · have := ready_mono hj hji
      rw [H.1] at this
      cases this
  | succ fuel ih =>
    intro listed a w hS hfree hr hy H
    refine ⟨fun h => (by rw [h] at hr; cases hr), fun j hj => ?_⟩
    by_cases hji : j = i
    · subst hji; exact hy.wpOp hi trivial ⟨fun h => hS (clean_of h), H⟩
    · have h1 := H.2 j (ready_mono hj hji)
      obtain ⟨hjun, oj, hoj, hall⟩ := mem_ready.1 hj
      have hnot := not_listed hr hj hoj
      have h2 := wpOp_putIf hoj (hfree j oj hoj hji hjun hnot) (fun cs b => hsel i oi cs b hi) (fun cs b => hsel j oj cs b hoj) hQ hy h1
      have hfree' : ∀ k ok, ops[k]? = some ok → k ≠ i → (listed.setIfInBounds j true).getD k true = false →
          (∀ e ∈ ok.after, Region.binds md e = true → e.on ≠ i) → oi.apart ops ok = true := fun k ok hk hki hun hno => by
        refine hfree k ok hk hki ?_ hno
        by_cases hjk : j = k
        · subst hjk; exact hjun
        · rw [getD_set_ne true hjk] at hun; exact hun
      have hcc : clean tl (listed.setIfInBounds j true) = true → clean tl ((listed.setIfInBounds i true).setIfInBounds j true) = true := fun h => by
        rw [Array.setIfInBounds_comm _ _ (Ne.symm hji)]
        exact clean_set h hti
      refine wpOp_mono (fun a' w' h3 => ⟨fun h => h3.2.1 (hcc h), ih (listed.setIfInBounds j true) a' w' (fun h => h3.2.1 (hcc h)) hfree' (ready_mono hr (Ne.symm hji)) h3.1 ?_⟩) h2
      rw [Array.setIfInBounds_comm _ _ hji]
      exact h3.2.2
theorem anyS_take {i : Nat} {oi : Oper} {v : Value} {fuel : Nat} {listed : Array Bool} {a : Act} {w : World} (hi : ops[i]? = some oi)
    (hs : Region.noSelect ops = true) (hf : Region.free md ops listed i = true) (hr : (Region.ready md ops listed).contains i = true) (hw : waits md ops tl i = true) (hc : clean tl listed = true)
    (hQ : ∀ c a w, Q (.panic c) (a.put oi.dst v) w → Q (.panic c) a w) (hy : YieldsIf P ops S oi v a) (hS : S w)
    (h : anyS P md ops Q S tl fuel (listed.setIfInBounds i true) (a.put oi.dst v) w) : anyS P md ops Q S tl (fuel + 1) listed a w :=
  anyS_first hi (Region.noSelect_spec hs) hQ hw fuel listed a w hc (Region.free_spec hi hf) (by simpa using hr) hy hS h
theorem anyS_take0 {i : Nat} {oi : Oper} {v : Value} {fuel : Nat} {listed : Array Bool} {a : Act} {w : World} (hi : ops[i]? = some oi)
    (hs : Region.noSelect ops = true) (hf : Region.free md ops listed i = true) (hr : (Region.ready md ops listed).contains i = true) (hw : tl.contains i = false)
    (hQ : ∀ c a w, Q (.panic c) (a.put oi.dst v) w → Q (.panic c) a w) (hy : YieldsIf P ops (fun _ => True) oi v a) (hS : clean tl listed = true → S w)
    (h : anyS P md ops Q S tl fuel (listed.setIfInBounds i true) (a.put oi.dst v) w) : anyS P md ops Q S tl (fuel + 1) listed a w :=
  anyS_first0 hi (Region.noSelect_spec hs) hQ hw fuel listed a w hS (Region.free_spec hi hf) (by simpa using hr) hy h
/-- the same behind the tail -/
theorem anyS_take1 {i : Nat} {oi : Oper} {v : Value} {fuel : Nat} {listed : Array Bool} {a : Act} {w : World} (hi : ops[i]? = some oi)
    (hs : Region.noSelect ops = true) (hf : Region.free md ops listed i = true) (hr : (Region.ready md ops listed).contains i = true) (hw : tl.contains i = false) (hc : clean tl listed = false)
    (hQ : ∀ c a w, Q (.panic c) (a.put oi.dst v) w → Q (.panic c) a w) (hy : YieldsIf P ops (fun _ => True) oi v a)
    (h : anyS P md ops Q S tl fuel (listed.setIfInBounds i true) (a.put oi.dst v) w) : anyS P md ops Q S tl (fuel + 1) listed a w :=
  anyS_first0 hi (Region.noSelect_spec hs) hQ hw fuel listed a w (fun h => by rw [hc] at h; cases h) (Region.free_spec hi hf) (by simpa using hr) hy h
def ReadyS (P : Program) (md : Region.Mode) (ops : Array Oper) (Q : Exit → Act → World → Prop) (S : World → Prop) (tl : List Nat) (fuel : Nat) (listed : Array Bool) (a : Act) (w : World) (rs : List Nat) : Prop :=
  ∀ i ∈ rs, wpOp P ops Q i (fun a' w' => (clean tl (listed.setIfInBounds i true) = true → S w') ∧ anyS P md ops Q S tl fuel (listed.setIfInBounds i true) a' w') a w
theorem ReadyS.nil {fuel : Nat} {listed : Array Bool} {a : Act} {w : World} : ReadyS P md ops Q S tl fuel listed a w [] := fun _ h => by cases h
theorem ReadyS.cons {fuel : Nat} {listed : Array Bool} {a : Act} {w : World} {i : Nat} {o : Oper} {rs : List Nat} (ho : ops[i]? = some o)
    (h : ∀ K' : Act → World → Prop, Shut (∀ a w, S w → (S w → anyS P md ops Q S tl fuel (listed.setIfInBounds i true) a w) → K' a w) → if Region.wanted o (yielded ops a.tmps) = true then Oper.wp P o a w K' Q else K' (a.put o.dst undef) w)
    (hs : ReadyS P md ops Q S tl fuel listed a w rs) : ReadyS P md ops Q S tl fuel listed a w (i :: rs) := fun j hj => by
  rcases List.mem_cons.1 hj with rfl | hj
  · exact wpOp_step ho (fun K' hK => h K' (fun a w hS hW => hK a w ⟨fun _ => hS, hW hS⟩))
  · exact hs j hj
/-- one of the tail's, or one behind it -/
theorem ReadyS.last {fuel : Nat} {listed : Array Bool} {a : Act} {w : World} {i : Nat} {o : Oper} (ho : ops[i]? = some o) (ht : clean tl (listed.setIfInBounds i true) = false)
    (h : ∀ K' : Act → World → Prop, Shut (∀ a w, anyS P md ops Q S tl fuel (listed.setIfInBounds i true) a w → K' a w) → if Region.wanted o (yielded ops a.tmps) = true then Oper.wp P o a w K' Q else K' (a.put o.dst undef) w) :
    ReadyS P md ops Q S tl fuel listed a w [i] := fun j hj => by
  obtain rfl : j = i := by simpa using hj
  exact wpOp_step ho (fun K' hK => h K' (fun a w hW => hK a w ⟨(fun h => by rw [ht] at h; cases h), hW⟩))
theorem anyS_ready {rs : List Nat} {fuel : Nat} {listed : Array Bool} {a : Act} {w : World} (hr : Region.ready md ops listed = rs) (hne : rs ≠ [])
    (h : ReadyS P md ops Q S tl fuel listed a w rs) : anyS P md ops Q S tl (fuel + 1) listed a w := ⟨fun h0 => absurd (hr ▸ h0) hne, hr ▸ h⟩
theorem anyS_done {listed : Array Bool} {a : Act} {w : World} (hr : Region.ready md ops listed = []) (h : Q .normal a w) : ∀ fuel, anyS P md ops Q S tl fuel listed a w
  | 0 => ⟨hr, h⟩
  | _ + 1 => ⟨fun _ => h, by rw [hr]; simp⟩
theorem wp_regionS {id : Nat} {a : Act} {w : World} (tl : List Nat) (hm : P.follows .mixedOrders = true) (hS : S w.drew)
    (h : S w.drew → anyS P .any ops Q S tl ops.size (Array.replicate ops.size false) a w.drew) : (Code.region id ops true).wp P Q a w :=
  wp_region_any hm (anyS_any _ _ _ _ (h hS))
end
end Go.Proofs.Ytflleaifmeiikaa
