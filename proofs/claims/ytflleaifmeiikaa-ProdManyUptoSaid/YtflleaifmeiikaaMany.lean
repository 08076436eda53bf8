/- A row of numbers that grows: append of a number to a row of one's own; what else there was stays. -/
import Derived.Test.YtflleaifmeiikaaKF
import Derived.Test.YtflleaifmeiikaaKC
namespace Go.Proofs.Ytflleaifmeiikaa
open Go.RowKit
set_option linter.unusedVariables false
def isSl (u : Value) : Prop := ∃ A n c, u = .slice A n c
/-- an own row of numbers: the first n are X 0 .. X (n - 1) -/
def OwnN (w : World) (base : Nat) (e : TypeId) (v : Value) (n : Nat) (X : Nat → Nat) : Prop :=
  (v = .slice none 0 0 ∧ n = 0) ∨
  ∃ g cap cur, v = .slice (some ⟨g, 0, none⟩) n cap ∧ base ≤ g ∧ w.heap[g]? = some (.cells cur e (0, 0)) ∧ n ≤ cap ∧ cap ≤ maxLen ∧ cur.size = cap ∧ (∀ u ∈ cur.toList, isSl u) ∧
    ∀ j, j < n → ∃ A1 n1 c1, cur.toList[j]? = some (.slice A1 n1 c1) ∧ NatAt w A1 n1 c1 (X j)
/-- every number stays -/
def Kept (w w' : World) : Prop := ∀ A n c x, NatAt w A n c x → NatAt w' A n c x
theorem heap_lt {w : World} {g : Nat} {o : Obj} (h : w.heap[g]? = some o) : g < w.heap.size := (Array.getElem?_eq_some_iff.1 h).1
theorem OwnN.to {w w' : World} {base : Nat} {e : TypeId} {v : Value} {n : Nat} {X : Nat → Nat} (h : OwnN w base e v n X) (hb : Below w.heap.size w w') : OwnN w' base e v n X := by
  rcases h with h | ⟨g, cap, cur, hv, hg, hh, hn, hm, hs, hu, hj⟩
  · exact Or.inl h
  · refine Or.inr ⟨g, cap, cur, hv, hg, (hb.block g (heap_lt hh)).trans hh, hn, hm, hs, hu, fun j hlt => ?_⟩
    obtain ⟨A1, n1, c1, h1, h2⟩ := hj j hlt
    exact ⟨A1, n1, c1, h1, h2.to hb⟩
theorem cell_of_heap {w : World} {g : Nat} {cur : Array Value} {e : TypeId} {f : Nat × Nat} (h : w.heap[g]? = some (.cells cur e f)) (j : Nat) : w.cell? ⟨g, j, none⟩ = cur[j]? := by
  simp [World.cell?, h]
theorem OwnN.nums {w : World} {base : Nat} {e : TypeId} {v : Value} {n : Nat} {X : Nat → Nat} (h : OwnN w base e v n X) : ∃ A c, v = .slice A n c ∧ n ≤ c ∧ c ≤ 9223372036854775807 ∧ Nums w A n X := by
  rcases h with ⟨rfl, rfl⟩ | ⟨g, cap, cur, rfl, hg, hh, hn, hm, hs, hu, hj⟩
  · exact ⟨none, 0, rfl, Nat.le_refl _, by decide, fun h => absurd h (by omega)⟩
  · refine ⟨_, _, rfl, hn, by unfold maxLen at hm; omega, fun _ => ⟨g, 0, rfl, heap_lt hh, fun j hlt => ?_⟩⟩
    obtain ⟨A1, n1, c1, h1, h2⟩ := hj j hlt
    refine ⟨A1, n1, c1, ?_, h2⟩
    rw [Nat.zero_add, cell_of_heap hh, ← Array.getElem?_toList]
    exact h1
theorem NatAt.setRow {w : World} {A : Option Addr} {n c x : Nat} (h : NatAt w A n c x) {g : Nat} {cur : Array Value} {e : TypeId} {f : Nat × Nat} (hh : w.heap[g]? = some (.cells cur e f)) (hu : ∀ u ∈ cur.toList, isSl u) (cs : Array Value) : NatAt (w.setRow g cs) A n c x := by
  refine ⟨⟨h.1.1, h.1.2.1, h.1.2.2.1, fun hn => ?_⟩, h.2⟩
  obtain ⟨g2, o, e2, hg, hc⟩ := h.1.2.2.2 hn
  refine ⟨g2, o, e2, by simpa [World.setRow] using hg, fun j hj => ?_⟩
  have hne : g2 ≠ g := by
    intro e'
    subst e'
    have h1 := hc j hj
    rw [cell_of_heap hh, ← Array.getElem?_toList] at h1
    obtain ⟨A, n, c, h2⟩ := hu _ (List.mem_of_getElem? h1)
    cases h2
  exact (World.cell?_of_block (w := w) (a := ⟨g2, o + j, none⟩) (setRow_other w g g2 cs hne)).trans (hc j hj)
theorem zero_sl {z : Value} (hz : z.cells = #[.slice none 0 0]) (k : Nat) : ∀ u ∈ (Builtin.zeroCells z.cells k).toList, isSl u := by
  rw [hz]
  intro u hu
  simp only [Builtin.zeroCells, Array.toList_map, List.mem_map] at hu
  obtain ⟨i, _, rfl⟩ := hu
  refine ⟨none, 0, 0, ?_⟩
  simp [Nat.mod_one]
section
variable {P : Program}
theorem push_nat (w0 : World) (base : Nat) (t ty e : TypeId) (i : TypeInfo) (z : Value) (bytes : Nat) (ht : P.underlying t = some (.slice e)) (hi : P.info? e = some i) (hz : i.zero = some z)
    (hsize : i.size = 1) (hby : i.bytes = bytes) (hzs : z.cells = #[.slice none 0 0]) (v : Value) (n : Nat) (X : Nat → Nat) (hown : OwnN w0 base e v n X) (hbase : base ≤ w0.heap.size)
    (A1 : Option Addr) (n1 c1 : Nat) (hn : NatAt w0 A1 n1 c1 (X n)) (h63 : n + 1 ≤ maxLen) (hbytes : (n + 1) * bytes ≤ 140737488355328) :
    ∃ v' w1, (Builtin.append_ #[t, t] ty #[v, .slice (some ⟨w0.heap.size, 0, none⟩) 1 1]).run P (w0.alloc (.cells #[.slice A1 n1 c1] e)) = .ok v' w1 ∧ OwnN w1 base e v' (n + 1) X ∧ Below base w0 w1 ∧ Kept w0 w1 ∧ w0.grownBy w1 v.ownBlock := by
  have hzc : z.cells.size = 1 := by rw [hzs]; rfl
  have hsmall : n + 1 ≤ 9223372036854775807 := by simp only [maxLen] at h63; omega
  obtain ⟨w, hw⟩ : ∃ w, w = w0.alloc (.cells #[.slice A1 n1 c1] e) := ⟨_, rfl⟩
  have hnews : ∀ j u, [Value.slice A1 n1 c1][j]? = some u → w.cell? ((⟨w0.heap.size, 0, none⟩ : Addr).add j) = some u := by rw [hw]; exact cell_one_new w0 _ e
  have bw : Below w0.heap.size w0 w := by rw [hw]; exact nxa (Below.refl _ _) _
  have ow : OwnN w base e v n X := hown.to bw
  have kw : Kept w0 w := fun _ _ _ _ h => h.to bw
  have hbw : base ≤ w.heap.size := Nat.le_trans hbase bw.size
  rw [← hw]
  -- the growing arm
  have grow : ∀ (C : List Value) (old : Nat), C.length = n → old < n + 1 → (∀ u ∈ C, isSl u) → (∀ j, j < n → ∃ A2 n2 c2, C[j]? = some (.slice A2 n2 c2) ∧ NatAt w A2 n2 c2 (X j)) →
      OwnN (w.drew.alloc (.cells (C.toArray ++ [Value.slice A1 n1 c1].toArray ++ Builtin.zeroCells z.cells (grownCap w (n + 1) old e - (n + 1))) e)) base e (.slice (some ⟨w.heap.size, 0, none⟩) (n + 1) (grownCap w (n + 1) old e)) (n + 1) X ∧
      Below base w0 (w.drew.alloc (.cells (C.toArray ++ [Value.slice A1 n1 c1].toArray ++ Builtin.zeroCells z.cells (grownCap w (n + 1) old e - (n + 1))) e)) ∧
      Kept w0 (w.drew.alloc (.cells (C.toArray ++ [Value.slice A1 n1 c1].toArray ++ Builtin.zeroCells z.cells (grownCap w (n + 1) old e - (n + 1))) e)) ∧
      ∀ row, w0.grownBy (w.drew.alloc (.cells (C.toArray ++ [Value.slice A1 n1 c1].toArray ++ Builtin.zeroCells z.cells (grownCap w (n + 1) old e - (n + 1))) e)) row := by
    intro C old hC ho hCu hCn
    have hge := grownCap_ge w (n + 1) old e
    have hcm := grownCap_le_maxLen w (n + 1) old e h63
    have bg : Below w.heap.size w (w.drew.alloc (.cells (C.toArray ++ [Value.slice A1 n1 c1].toArray ++ Builtin.zeroCells z.cells (grownCap w (n + 1) old e - (n + 1))) e)) := nxa (nxw (Below.refl _ _)) _
    refine ⟨Or.inr ⟨w.heap.size, _, _, rfl, hbw, heap_alloc_new w.drew _, hge, hcm, ?_, ?_, ?_⟩, (nx bw bg).mono hbase, fun _ _ _ _ h => (kw _ _ _ _ h).to bg, fun row => ⟨(nx bw bg).os, (nx bw bg).tape, (nx bw bg).output, (nx bw bg).size, fun k hk _ => (nx bw bg).block k hk⟩⟩
    · simp only [Array.size_append, List.size_toArray, size_zeroCells, hzc, hC, List.length_cons, List.length_nil]
      omega
    · intro u hu
      simp only [Array.toList_append, List.mem_append, List.mem_cons, List.not_mem_nil, or_false] at hu
      rcases hu with (h | h) | h
      · exact hCu u h
      · exact ⟨_, _, _, h⟩
      · exact zero_sl hzs _ u h
    · intro j hj
      simp only [Array.toList_append]
      rcases Nat.lt_or_eq_of_le (Nat.le_of_lt_succ hj) with h | h
      · obtain ⟨A2, n2, c2, h1, h2⟩ := hCn j h
        refine ⟨A2, n2, c2, ?_, h2.to bg⟩
        rw [List.append_assoc, List.getElem?_append_left (by simpa [hC] using h)]
        exact h1
      · subst h
        refine ⟨A1, n1, c1, ?_, (hn.to bw).to bg⟩
        rw [List.append_assoc, List.getElem?_append_right (by simp [hC])]
        simp [hC]
  rcases ow with ⟨rfl, rfl⟩ | ⟨g, cap, cur, rfl, hbg, hg, hnc, hcm, hcs, hcu, hcn⟩
  · have hr := run_append_nil (P := P) w t ty e i z ht hi hz ⟨w0.heap.size, 0, none⟩ 1 1 [Value.slice A1 n1 c1] (by rw [hsize]; rfl) hnews (by omega) (by omega) (by rw [hby]; omega)
    have hgr := grow [] 0 rfl (by omega) (fun u hu => absurd hu (by simp)) (fun j hj => absurd hj (by omega))
    simp only [Nat.zero_add, Array.empty_append] at hgr
    exact ⟨_, _, hr, hgr.1, hgr.2.1, hgr.2.2.1, hgr.2.2.2 _⟩
  · by_cases hroom : n + 1 ≤ cap
    · have hr := run_append_room (P := P) w t ty e i ht hi g n cap cur hg ⟨w0.heap.size, 0, none⟩ 1 1 [Value.slice A1 n1 c1] (by rw [hsize]; rfl) hnews (fun u hu => by simp at hu; subst hu; rfl) hroom (by rw [hsize, hcs]; simp; omega)
      rw [hsize, Nat.mul_one] at hr
      have hlen : cur.toList.length = cap := by rw [Array.length_toList]; exact hcs
      have ks : Kept w (w.setRow g (cur.toList.take n ++ [Value.slice A1 n1 c1] ++ cur.toList.drop (n + [Value.slice A1 n1 c1].length)).toArray) := fun _ _ _ _ h => h.setRow hg hcu _
      have hBs : Below base w (w.setRow g (cur.toList.take n ++ [Value.slice A1 n1 c1] ++ cur.toList.drop (n + [Value.slice A1 n1 c1].length)).toArray) :=
        ⟨rfl, rfl, rfl, by simp [World.setRow], fun k hk => setRow_other w g k _ (by omega)⟩
      refine ⟨_, _, hr, Or.inr ⟨g, cap, _, rfl, hbg, setRow_heap w g cur _ e _ hg, hroom, hcm, ?_, ?_, ?_⟩, (bw.mono hbase).trans hBs, (fun _ _ _ _ h => ks _ _ _ _ (kw _ _ _ _ h)), ⟨bw.os, bw.tape, bw.output, by simpa [World.setRow] using bw.size, fun k hk hne => (setRow_other w g k _ (fun e' => hne (by rw [e']; rfl))).trans (bw.block k hk)⟩⟩
      · simp only [List.size_toArray, List.length_append, List.length_take, List.length_drop, hlen, List.length_cons, List.length_nil]
        omega
      · intro u hu
        simp only [List.mem_append, List.mem_cons, List.not_mem_nil, or_false] at hu
        rcases hu with (h | h) | h
        · exact hcu u (List.mem_of_mem_take h)
        · exact ⟨_, _, _, h⟩
        · exact hcu u (List.mem_of_mem_drop h)
      · intro j hj
        rcases Nat.lt_or_eq_of_le (Nat.le_of_lt_succ hj) with h | h
        · obtain ⟨A2, n2, c2, h1, h2⟩ := hcn j h
          refine ⟨A2, n2, c2, ?_, ks _ _ _ _ h2⟩
          show (cur.toList.take n ++ [Value.slice A1 n1 c1] ++ cur.toList.drop (n + [Value.slice A1 n1 c1].length))[j]? = _
          rw [List.append_assoc, List.getElem?_append_left (by rw [List.length_take]; omega), List.getElem?_take, if_pos h]
          exact h1
        · subst h
          refine ⟨A1, n1, c1, ?_, ks _ _ _ _ (hn.to bw)⟩
          show (cur.toList.take j ++ [Value.slice A1 n1 c1] ++ cur.toList.drop (j + [Value.slice A1 n1 c1].length))[j]? = _
          rw [List.append_assoc, List.getElem?_append_right (by rw [List.length_take]; omega), List.length_take, Nat.min_eq_left (by omega), Nat.sub_self]
          rfl
    · have holds : ∀ j u, (cur.toList.take n)[j]? = some u → w.cell? ((⟨g, 0, none⟩ : Addr).add j) = some u := by
        intro j u hj
        have hjn : j < n := by
          have := (List.getElem?_eq_some_iff.1 hj).1
          rw [List.length_take] at this
          omega
        rw [List.getElem?_take, if_pos hjn] at hj
        rw [show ((⟨g, 0, none⟩ : Addr).add j) = ⟨g, j, none⟩ from by unfold Addr.add; split <;> simp_all, cell_of_heap hg, ← Array.getElem?_toList]
        exact hj
      have hlen : (cur.toList.take n).length = n := by rw [List.length_take, Array.length_toList]; omega
      have hr := run_append_grow (P := P) w t ty e i z ht hi hz ⟨g, 0, none⟩ n cap (cur.toList.take n) (by rw [hsize, Nat.mul_one]; exact hlen) holds ⟨w0.heap.size, 0, none⟩ 1 1 [Value.slice A1 n1 c1] (by rw [hsize]; rfl) hnews (by omega) (by omega) (growslice_fits (by omega) (by rw [hby]; exact hbytes))
      have hgr := grow (cur.toList.take n) cap hlen (by omega) (fun u hu => hcu u (List.mem_of_mem_take hu)) (fun j hj => by
        obtain ⟨A2, n2, c2, h1, h2⟩ := hcn j hj
        exact ⟨A2, n2, c2, by rw [List.getElem?_take, if_pos hj]; exact h1, h2⟩)
      exact ⟨_, _, hr, hgr.1, hgr.2.1, hgr.2.2.1, hgr.2.2.2 _⟩
/-- the same at the operation, for the walk -/
theorem wpList_push_nat {ops : Array Oper} {rest : List Oper} {o : Oper} {a : Act} {Q : Exit → Act → World → Prop} {wn : World} (hgd : o.guard = none) (s x : Operand) (t : TypeId)
    (ho : o.op = .call { callee := .builtin .append, args := #[s, x], argTypes := #[t, t] })
    (w0 : World) (base : Nat) (e : TypeId) (i : TypeInfo) (z : Value) (bytes : Nat) (ht : P.underlying t = some (.slice e)) (hi : P.info? e = some i) (hz : i.zero = some z)
    (hsize : i.size = 1) (hby : i.bytes = bytes) (hzs : z.cells = #[.slice none 0 0]) (v : Value) (n : Nat) (X : Nat → Nat) (hs : a.eval s = v) (hown : OwnN w0 base e v n X) (hbase : base ≤ w0.heap.size)
    (A1 : Option Addr) (n1 c1 : Nat) (hn : NatAt w0 A1 n1 c1 (X n)) (hwn : wn = w0.alloc (.cells #[.slice A1 n1 c1] e)) (hx : a.eval x = .slice (some ⟨w0.heap.size, 0, none⟩) 1 1)
    (h63 : n + 1 ≤ maxLen) (hbytes : (n + 1) * bytes ≤ 140737488355328)
    (h : ∀ v' w1, OwnN w1 base e v' (n + 1) X → Below base w0 w1 → Kept w0 w1 → wpList P ops Q rest (a.put o.dst v') w1) :
    wpList P ops Q (o :: rest) a wn := by
  subst hwn
  refine wpList_plain hgd fun K hK => ?_
  obtain ⟨v', w1, hr, h1, h2, h3, -⟩ := push_nat (P := P) w0 base t o.type e i z bytes ht hi hz hsize hby hzs v n X hown hbase A1 n1 c1 hn h63 hbytes
  unfold Oper.wp execOp
  simp only [ho, resolve, invoke, builtin, Sem.run_bind, Sem.run_pure, Result.andThen_ok, List.map_toArray, List.map_cons, List.map_nil, hs, hx, hr]
  exact hK _ _ (h v' w1 h1 h2 h3)
/-- the same, and what else is as it was -/
theorem wpList_push_nat2 {ops : Array Oper} {rest : List Oper} {o : Oper} {a : Act} {Q : Exit → Act → World → Prop} {wn : World} (hgd : o.guard = none) (s x : Operand) (t : TypeId)
    (ho : o.op = .call { callee := .builtin .append, args := #[s, x], argTypes := #[t, t] })
    (w0 : World) (base : Nat) (e : TypeId) (i : TypeInfo) (z : Value) (bytes : Nat) (ht : P.underlying t = some (.slice e)) (hi : P.info? e = some i) (hz : i.zero = some z)
    (hsize : i.size = 1) (hby : i.bytes = bytes) (hzs : z.cells = #[.slice none 0 0]) (v : Value) (n : Nat) (X : Nat → Nat) (hs : a.eval s = v) (hown : OwnN w0 base e v n X) (hbase : base ≤ w0.heap.size)
    (A1 : Option Addr) (n1 c1 : Nat) (hn : NatAt w0 A1 n1 c1 (X n)) (hwn : wn = w0.alloc (.cells #[.slice A1 n1 c1] e)) (s0 : Nat) (hs0 : w0.heap.size = s0) (hx : a.eval x = .slice (some ⟨s0, 0, none⟩) 1 1)
    (h63 : n + 1 ≤ maxLen) (hbytes : (n + 1) * bytes ≤ 140737488355328)
    (h : ∀ v' w1, OwnN w1 base e v' (n + 1) X → Below base w0 w1 → Kept w0 w1 → w0.grownBy w1 v.ownBlock → wpList P ops Q rest (a.put o.dst v') w1) :
    wpList P ops Q (o :: rest) a wn := by
  subst hwn hs0
  refine wpList_plain hgd fun K hK => ?_
  obtain ⟨v', w1, hr, h1, h2, h3, h4⟩ := push_nat (P := P) w0 base t o.type e i z bytes ht hi hz hsize hby hzs v n X hown hbase A1 n1 c1 hn h63 hbytes
  unfold Oper.wp execOp
  simp only [ho, resolve, invoke, builtin, Sem.run_bind, Sem.run_pure, Result.andThen_ok, List.map_toArray, List.map_cons, List.map_nil, hs, hx, hr]
  exact hK _ _ (h v' w1 h1 h2 h3 h4)
end
/-- a slice of slices of words that came in -/
def RowsAt (w : World) (A : Option Addr) (N C : Nat) (X : Nat → Nat) (B : Nat) : Prop := 0 < N → ∃ g o, A = some ⟨g, o, none⟩ ∧ g < w.heap.size ∧ ∀ j, j < N → ∃ A1 n1 c1, w.cell? ⟨g, o + j, none⟩ = some (.slice A1 n1 c1) ∧ Dig .u64 W w A1 n1 c1 (X j) ∧ n1 ≤ B
theorem RowsAt.to {w w' : World} {A : Option Addr} {N C B : Nat} {X : Nat → Nat} (h : RowsAt w A N C X B) (hb : Below w.heap.size w w') : RowsAt w' A N C X B := fun hn => by
  obtain ⟨g, o, e, hg, hc⟩ := h hn
  refine ⟨g, o, e, Nat.lt_of_lt_of_le hg hb.size, fun j hj => ?_⟩
  obtain ⟨A1, n1, c1, h1, h2, h3⟩ := hc j hj
  exact ⟨A1, n1, c1, (hb.cell (p := ⟨g, o + j, none⟩) hg).trans h1, h2.to hb, h3⟩
theorem RowsAt.fit {w : World} {A : Option Addr} {N C B : Nat} {X : Nat → Nat} (h : RowsAt w A N C X B) : ∀ j, j < N → X j < W ^ B := fun j hj => by
  obtain ⟨g, o, e, hg, hc⟩ := h (by omega)
  obtain ⟨A1, n1, c1, h1, h2, h3⟩ := hc j hj
  exact Nat.lt_of_lt_of_le h2.lt (Nat.pow_le_pow_right W_pos h3)
theorem info_nat : (Try.prog.info? 25).map (fun i => (i.zero, i.size, i.bytes)) = some (some (.agg #[.slice none 0 0]), 1, 24) := by kernel_rfl
theorem OwnN.block {w : World} {base : Nat} {e : TypeId} {v : Value} {n : Nat} {X : Nat → Nat} (h : OwnN w base e v n X) : ∀ k, some k = v.ownBlock → base ≤ k ∧ k < w.heap.size := by
  rcases h with ⟨rfl, rfl⟩ | ⟨g, cap, cur, rfl, hg, hh, _⟩
  · intro k h; cases h
  · intro k h; cases h; exact ⟨hg, heap_lt hh⟩
/-- a store to an older block of one number -/
theorem OwnN.put {w : World} {base : Nat} {e : TypeId} {v : Value} {n : Nat} {X : Nat → Nat} (h : OwnN w base e v n X) {g : Nat} {T : TypeId} {A : Option Addr} {m c : Nat} (hb : Blk1 w g T (.slice A m c)) (hg : g < base) (u : Value) : OwnN (w.setCell ⟨g, 0, none⟩ u) base e v n X := by
  rcases h with h | ⟨g1, cap, cur, hv, hg1, hh, hn, hm, hs, hu, hj⟩
  · exact Or.inl h
  · refine Or.inr ⟨g1, cap, cur, hv, hg1, (Below.heap_setCell w ⟨g, 0, none⟩ u g1 (by show g1 ≠ g; omega)).trans hh, hn, hm, hs, hu, fun j hlt => ?_⟩
    obtain ⟨A1, n1, c1, h1, h2⟩ := hj j hlt
    exact ⟨A1, n1, c1, h1, h2.put_ hb.cell u⟩
end Go.Proofs.Ytflleaifmeiikaa
