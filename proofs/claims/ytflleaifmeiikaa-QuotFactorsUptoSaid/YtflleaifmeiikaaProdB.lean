/- The walks of package prod, second part: cut, raised. -/
import Derived.Test.YtflleaifmeiikaaProd
import Derived.Test.YtflleaifmeiikaaAny
set_option linter.unusedVariables false
set_option linter.unusedSimpArgs false
namespace Go.Proofs.Ytflleaifmeiikaa
open Go.RowKit
set_option maxRecDepth 100000
def RetNat2 (w : World) (x y : Nat) (e : Ending) (w' : World) : Prop := ∃ A n c A' n' c', e = .returned (.tuple #[.agg #[.slice A n c], .agg #[.slice A' n' c']]) ∧ NatAt w' A n c x ∧ NatAt w' A' n' c' y ∧ Below w.heap.size w w'
theorem up_over {k n x : Nat} (h : x < W ^ n) (hk : n ≤ k) : up W n x = up W k x := by
  rw [up_eq_zero h, up_eq_zero (Nat.lt_of_lt_of_le h (Nat.pow_le_pow_right W_pos hk))]
theorem low_over {k n x : Nat} (h : x < W ^ n) (hk : n ≤ k) : low W n x = low W k x := by
  rw [low_all h, low_all (Nat.lt_of_lt_of_le h (Nat.pow_le_pow_right W_pos hk))]
set_option maxHeartbeats 2000000 in
theorem prod_cut (A : Option Addr) (n c x k : Nat) (w : World) (h : NatAt w A n c x) (hk : k ≤ 17592186044416) (hn : n ≤ 17592186044416) :
    Calls Try.prog 56 #[.agg #[.slice A n c], .int .i64 (k : Nat)] w (RetNat2 w (low W k x) (up W k x)) := by
  have B0 := ((Blk1.new w 25 (.slice A n c)).alloc (.cells #[.slice none 0 0] 25)).alloc (.cells #[.slice none 0 0] 25)
  have B1 := (Blk1.new (w.alloc (.cells #[.slice A n c] 25)) 25 (.slice none 0 0)).alloc (.cells #[.slice none 0 0] 25)
  have B2 := Blk1.new ((w.alloc (.cells #[.slice A n c] 25)).alloc (.cells #[.slice none 0 0] 25)) 25 (.slice none 0 0)
  simp only [World.size_alloc] at B1 B2
  by_cases hkn : n < k
  · have hkn' : (n : Int) < (k : Int) := by omega
    have HL := Lib.hid (low_over h.lt (Nat.le_of_lt hkn))
    have HU := Lib.hid (up_over h.lt (Nat.le_of_lt hkn))
    go_enter Try.func56, Try.ntmps56
    go_wp2_with fail
    refine (nat_Words A n c x _ (((h.alloc _).alloc _).alloc _) hn).mono ?_
    rintro e w1 ⟨A1, c1, rfl, ho1, hb1⟩
    have X1 := B1.to hb1
    have X2 := B2.to hb1
    have hbel : Below w.heap.size w w1 := nx (nxa (nxa (nxa (Below.refl _ _) _) _) _) hb1
    obtain ⟨A1', c1', hv, hd1, hf1⟩ := own_form ho1 h.lt
    cases hv
    have m1 := hd1.max
    have m2 := hd1.cap
    have hlow := hd1.upto W_pos (i := n) (by omega)
    change Dig .u64 W w1 A1 n c1 (low W n x) at hlow
    have hshape := ho1.2
    clear ho1 hb1 hf1
    have hs1 : w.heap.size + 1 + 1 + 1 ≤ w1.heap.size := by have := X2.lt; omega
    rcases hshape with ⟨e, rfl⟩ | ⟨g, cap, cur, e, hg⟩
    · cases e
      have hup : Dig .u64 W w1 none 0 0 (up W 0 x) := by rw [show up W 0 x = 0 by rw [up_zero]; exact hd1.zero]; exact Dig.nil _ _ _ _ (by omega)
      clear hd1
      go_wp2_with fail
      refine wp_regionT (S := fun w' => True) [] (by kernel_rfl) trivial (fun hHeld => ?_)
      refine anyT_take (i := 0) (v := ?_) (by simp only [List.getElem?_toArray, List.getElem?_cons_succ, List.getElem?_cons_zero]; rfl) (by kernel_rfl) (by kernel_rfl) (by kernel_rfl) (by kernel_rfl) (by exact fun _ _ _ h => h) (Or.inl ⟨by rfl, ?_⟩) (by assumption) ?_
      rotate_left
      · intro w hSw; (try dsimp only at hSw); go_simp; try with_reducible rfl
      try simp only [Act.put, List.setIfInBounds_toArray, List.set_cons_zero, List.set_cons_succ]
      refine anyT_take (i := 1) (v := ?_) (by simp only [List.getElem?_toArray, List.getElem?_cons_succ, List.getElem?_cons_zero]; rfl) (by kernel_rfl) (by kernel_rfl) (by kernel_rfl) (by kernel_rfl) (by exact fun _ _ _ h => h) (Or.inl ⟨by rfl, ?_⟩) (by assumption) ?_
      rotate_left
      · intro w hSw; (try dsimp only at hSw); go_simp; try with_reducible rfl
      try simp only [Act.put, List.setIfInBounds_toArray, List.set_cons_zero, List.set_cons_succ]
      refine anyT_take (i := 2) (v := ?_) (by simp only [List.getElem?_toArray, List.getElem?_cons_succ, List.getElem?_cons_zero]; rfl) (by kernel_rfl) (by kernel_rfl) (by kernel_rfl) (by kernel_rfl) (by exact fun _ _ _ h => h) (Or.inl ⟨by rfl, ?_⟩) (by assumption) ?_
      rotate_left
      · intro w hSw; (try dsimp only at hSw); go_simp; try with_reducible rfl
      try simp only [Act.put, List.setIfInBounds_toArray, List.set_cons_zero, List.set_cons_succ]
      refine anyT_take (i := 4) (v := ?_) (by simp only [List.getElem?_toArray, List.getElem?_cons_succ, List.getElem?_cons_zero]; rfl) (by kernel_rfl) (by kernel_rfl) (by kernel_rfl) (by kernel_rfl) (by exact fun _ _ _ h => h) (Or.inl ⟨by rfl, ?_⟩) (by assumption) ?_
      rotate_left
      · intro w hSw; (try dsimp only at hSw); go_simp; try with_reducible rfl
      try simp only [Act.put, List.setIfInBounds_toArray, List.set_cons_zero, List.set_cons_succ]
      refine anyT_take (i := 5) (v := ?_) (by simp only [List.getElem?_toArray, List.getElem?_cons_succ, List.getElem?_cons_zero]; rfl) (by kernel_rfl) (by kernel_rfl) (by kernel_rfl) (by kernel_rfl) (by exact fun _ _ _ h => h) (Or.inl ⟨by rfl, ?_⟩) (by assumption) ?_
      rotate_left
      · intro w hSw; (try dsimp only at hSw); go_simp; try with_reducible rfl
      try simp only [Act.put, List.setIfInBounds_toArray, List.set_cons_zero, List.set_cons_succ]
      refine anyT_take (i := 6) (v := ?_) (by simp only [List.getElem?_toArray, List.getElem?_cons_succ, List.getElem?_cons_zero]; rfl) (by kernel_rfl) (by kernel_rfl) (by kernel_rfl) (by kernel_rfl) (by exact fun _ _ _ h => h) (Or.inl ⟨by rfl, ?_⟩) (by assumption) ?_
      rotate_left
      · intro w hSw; (try dsimp only at hSw); go_simp; try with_reducible rfl
      try simp only [Act.put, List.setIfInBounds_toArray, List.set_cons_zero, List.set_cons_succ]
      refine anyT_ready (rs := [3]) (by kernel_rfl) (by simp) (ReadyT.cons (by simp only [List.getElem?_toArray, List.getElem?_cons_succ, List.getElem?_cons_zero]; rfl) (fun K hK => ?_) ReadyT.nil)
      go_simp
      go_at_call 13
      (with_reducible refine (nat_Of _ _ _ _ _ (hlow.to (by with_reducible repeat (first | exact Below.refl _ _ | refine nxa ?_ _ | refine nxd ?_ _ | refine nxw ?_ | refine nx ?_ (by assumption)))) (by omega)).mono ?_)
      rintro e w2 ⟨A2, n2, c2, rfl, h2, hb2, hm2⟩
      go_simp
      refine hK.out _ _ trivial (fun hHeld => ?_)
      clear hK K
      try simp only [Act.put, List.setIfInBounds_toArray, List.set_cons_zero, List.set_cons_succ]
      refine anyT_ready (rs := [7]) (by kernel_rfl) (by simp) (ReadyT.cons (by simp only [List.getElem?_toArray, List.getElem?_cons_succ, List.getElem?_cons_zero]; rfl) (fun K hK => ?_) ReadyT.nil)
      go_simp
      go_at_call 13
      (with_reducible refine (nat_Of _ _ _ _ _ (hup.to (by with_reducible repeat (first | exact Below.refl _ _ | refine nxa ?_ _ | refine nxd ?_ _ | refine nxw ?_ | refine nx ?_ (by assumption)))) (by omega)).mono ?_)
      rintro e w3 ⟨A3, n3, c3, rfl, h3, hb3, hm3⟩
      have Y1 := (show Blk1 w3 _ _ _ from (X1.to (by with_reducible repeat (first | exact Below.refl _ _ | refine nxa ?_ _ | refine nxd ?_ _ | refine nxw ?_ | refine nx ?_ (by assumption)))))
      have Y2 := (show Blk1 w3 _ _ _ from (X2.to (by with_reducible repeat (first | exact Below.refl _ _ | refine nxa ?_ _ | refine nxd ?_ _ | refine nxw ?_ | refine nx ?_ (by assumption)))))
      have c10 := Y1.cell
      have f10 := Y1.free
      go_simp
      refine hK.out _ _ trivial (fun hHeld => ?_)
      clear hK K
      try simp only [Act.put, List.setIfInBounds_toArray, List.set_cons_zero, List.set_cons_succ]
      refine anyT_ready (rs := [8]) (by kernel_rfl) (by simp) (ReadyT.cons (by simp only [List.getElem?_toArray, List.getElem?_cons_succ, List.getElem?_cons_zero]; rfl) (fun K hK => ?_) ReadyT.nil)
      go_simp
      refine hK.out _ _ trivial (fun hHeld => ?_)
      clear hK K
      try simp only [Act.put, List.setIfInBounds_toArray, List.set_cons_zero, List.set_cons_succ]
      refine anyT_ready (rs := [9]) (by kernel_rfl) (by simp) (ReadyT.cons (by simp only [List.getElem?_toArray, List.getElem?_cons_succ, List.getElem?_cons_zero]; rfl) (fun K hK => ?_) ReadyT.nil)
      have Z2 := Y2.far (p := ⟨w.heap.size + 1, 0, none⟩) (by show _ ≠ w.heap.size + 1; omega) (.slice A2 n2 c2)
      have c11 := Z2.cell
      have f11 := Z2.free
      go_simp
      refine hK.out _ _ trivial (fun hHeld => ?_)
      clear hK K
      try simp only [Act.put, List.setIfInBounds_toArray, List.set_cons_zero, List.set_cons_succ]
      refine anyT_done (by kernel_rfl) ?_ _
      obtain ⟨l1, l2, hb⟩ := store2 (w0 := w) (show Below w.heap.size w w3 from (by with_reducible repeat (first | exact Below.refl _ _ | refine nxa ?_ _ | refine nxd ?_ _ | refine nxw ?_ | refine nx ?_ (by assumption)))) (by show w.heap.size ≤ w.heap.size + 1; omega) (by show w.heap.size ≤ w.heap.size + 1 + 1; omega) (by omega) Y1 Y2 (h2.to (by with_reducible repeat (first | exact Below.refl _ _ | refine nxa ?_ _ | refine nxd ?_ _ | refine nxw ?_ | refine nx ?_ (by assumption)))) h3
      have e1 := l1.1.cell
      have e2 := l2.1.cell
      go_wp2_with fail
      exact bodyPost_ret (v := .tuple #[.agg #[.slice A2 n2 c2], .agg #[.slice A3 n3 c3]]) (by simp [results, Try.results56, go_sem, e1, e2]) rfl ⟨A2, n2, c2, A3, n3, c3, rfl, by rw [← HL.out]; exact l1.2, by rw [← HU.out]; exact l2.2, hb⟩
    · cases e
      by_cases hct : c1 = n
      · skip
        subst hct
        have hup : Dig .u64 W w1 (some ⟨g, 0, none⟩) 0 0 (up W c1 x) := by have := hd1.from_ (i := c1) (Nat.le_refl _) (A' := some ⟨g, 0, none⟩) (fun g' o' _ h' => absurd rfl h'); rwa [Nat.sub_self] at this
        clear hd1
        go_wp2_with fail
        refine wp_regionT (S := fun w' => True) [] (by kernel_rfl) trivial (fun hHeld => ?_)
        refine anyT_take (i := 0) (v := ?_) (by simp only [List.getElem?_toArray, List.getElem?_cons_succ, List.getElem?_cons_zero]; rfl) (by kernel_rfl) (by kernel_rfl) (by kernel_rfl) (by kernel_rfl) (by exact fun _ _ _ h => h) (Or.inl ⟨by rfl, ?_⟩) (by assumption) ?_
        rotate_left
        · intro w hSw; (try dsimp only at hSw); go_simp; try with_reducible rfl
        try simp only [Act.put, List.setIfInBounds_toArray, List.set_cons_zero, List.set_cons_succ]
        refine anyT_take (i := 1) (v := ?_) (by simp only [List.getElem?_toArray, List.getElem?_cons_succ, List.getElem?_cons_zero]; rfl) (by kernel_rfl) (by kernel_rfl) (by kernel_rfl) (by kernel_rfl) (by exact fun _ _ _ h => h) (Or.inl ⟨by rfl, ?_⟩) (by assumption) ?_
        rotate_left
        · intro w hSw; (try dsimp only at hSw); go_simp; try with_reducible rfl
        try simp only [Act.put, List.setIfInBounds_toArray, List.set_cons_zero, List.set_cons_succ]
        refine anyT_take (i := 2) (v := ?_) (by simp only [List.getElem?_toArray, List.getElem?_cons_succ, List.getElem?_cons_zero]; rfl) (by kernel_rfl) (by kernel_rfl) (by kernel_rfl) (by kernel_rfl) (by exact fun _ _ _ h => h) (Or.inl ⟨by rfl, ?_⟩) (by assumption) ?_
        rotate_left
        · intro w hSw; (try dsimp only at hSw); go_simp; try with_reducible rfl
        try simp only [Act.put, List.setIfInBounds_toArray, List.set_cons_zero, List.set_cons_succ]
        refine anyT_take (i := 4) (v := ?_) (by simp only [List.getElem?_toArray, List.getElem?_cons_succ, List.getElem?_cons_zero]; rfl) (by kernel_rfl) (by kernel_rfl) (by kernel_rfl) (by kernel_rfl) (by exact fun _ _ _ h => h) (Or.inl ⟨by rfl, ?_⟩) (by assumption) ?_
        rotate_left
        · intro w hSw; (try dsimp only at hSw); go_simp; try with_reducible rfl
        try simp only [Act.put, List.setIfInBounds_toArray, List.set_cons_zero, List.set_cons_succ]
        refine anyT_take (i := 5) (v := ?_) (by simp only [List.getElem?_toArray, List.getElem?_cons_succ, List.getElem?_cons_zero]; rfl) (by kernel_rfl) (by kernel_rfl) (by kernel_rfl) (by kernel_rfl) (by exact fun _ _ _ h => h) (Or.inl ⟨by rfl, ?_⟩) (by assumption) ?_
        rotate_left
        · intro w hSw; (try dsimp only at hSw); go_simp; try with_reducible rfl
        try simp only [Act.put, List.setIfInBounds_toArray, List.set_cons_zero, List.set_cons_succ]
        refine anyT_take (i := 6) (v := ?_) (by simp only [List.getElem?_toArray, List.getElem?_cons_succ, List.getElem?_cons_zero]; rfl) (by kernel_rfl) (by kernel_rfl) (by kernel_rfl) (by kernel_rfl) (by exact fun _ _ _ h => h) (Or.inl ⟨by rfl, ?_⟩) (by assumption) ?_
        rotate_left
        · intro w hSw; (try dsimp only at hSw); go_simp; try with_reducible rfl
        try simp only [Act.put, List.setIfInBounds_toArray, List.set_cons_zero, List.set_cons_succ]
        refine anyT_ready (rs := [3]) (by kernel_rfl) (by simp) (ReadyT.cons (by simp only [List.getElem?_toArray, List.getElem?_cons_succ, List.getElem?_cons_zero]; rfl) (fun K hK => ?_) ReadyT.nil)
        go_simp
        go_at_call 13
        (with_reducible refine (nat_Of _ _ _ _ _ (hlow.to (by with_reducible repeat (first | exact Below.refl _ _ | refine nxa ?_ _ | refine nxd ?_ _ | refine nxw ?_ | refine nx ?_ (by assumption)))) (by omega)).mono ?_)
        rintro e w2 ⟨A2, n2, c2, rfl, h2, hb2, hm2⟩
        go_simp
        refine hK.out _ _ trivial (fun hHeld => ?_)
        clear hK K
        try simp only [Act.put, List.setIfInBounds_toArray, List.set_cons_zero, List.set_cons_succ]
        refine anyT_ready (rs := [7]) (by kernel_rfl) (by simp) (ReadyT.cons (by simp only [List.getElem?_toArray, List.getElem?_cons_succ, List.getElem?_cons_zero]; rfl) (fun K hK => ?_) ReadyT.nil)
        go_simp
        go_at_call 13
        (with_reducible refine (nat_Of _ _ _ _ _ (hup.to (by with_reducible repeat (first | exact Below.refl _ _ | refine nxa ?_ _ | refine nxd ?_ _ | refine nxw ?_ | refine nx ?_ (by assumption)))) (by omega)).mono ?_)
        rintro e w3 ⟨A3, n3, c3, rfl, h3, hb3, hm3⟩
        have Y1 := (show Blk1 w3 _ _ _ from (X1.to (by with_reducible repeat (first | exact Below.refl _ _ | refine nxa ?_ _ | refine nxd ?_ _ | refine nxw ?_ | refine nx ?_ (by assumption)))))
        have Y2 := (show Blk1 w3 _ _ _ from (X2.to (by with_reducible repeat (first | exact Below.refl _ _ | refine nxa ?_ _ | refine nxd ?_ _ | refine nxw ?_ | refine nx ?_ (by assumption)))))
        have c10 := Y1.cell
        have f10 := Y1.free
        go_simp
        refine hK.out _ _ trivial (fun hHeld => ?_)
        clear hK K
        try simp only [Act.put, List.setIfInBounds_toArray, List.set_cons_zero, List.set_cons_succ]
        refine anyT_ready (rs := [8]) (by kernel_rfl) (by simp) (ReadyT.cons (by simp only [List.getElem?_toArray, List.getElem?_cons_succ, List.getElem?_cons_zero]; rfl) (fun K hK => ?_) ReadyT.nil)
        go_simp
        refine hK.out _ _ trivial (fun hHeld => ?_)
        clear hK K
        try simp only [Act.put, List.setIfInBounds_toArray, List.set_cons_zero, List.set_cons_succ]
        refine anyT_ready (rs := [9]) (by kernel_rfl) (by simp) (ReadyT.cons (by simp only [List.getElem?_toArray, List.getElem?_cons_succ, List.getElem?_cons_zero]; rfl) (fun K hK => ?_) ReadyT.nil)
        have Z2 := Y2.far (p := ⟨w.heap.size + 1, 0, none⟩) (by show _ ≠ w.heap.size + 1; omega) (.slice A2 n2 c2)
        have c11 := Z2.cell
        have f11 := Z2.free
        go_simp
        refine hK.out _ _ trivial (fun hHeld => ?_)
        clear hK K
        try simp only [Act.put, List.setIfInBounds_toArray, List.set_cons_zero, List.set_cons_succ]
        refine anyT_done (by kernel_rfl) ?_ _
        obtain ⟨l1, l2, hb⟩ := store2 (w0 := w) (show Below w.heap.size w w3 from (by with_reducible repeat (first | exact Below.refl _ _ | refine nxa ?_ _ | refine nxd ?_ _ | refine nxw ?_ | refine nx ?_ (by assumption)))) (by show w.heap.size ≤ w.heap.size + 1; omega) (by show w.heap.size ≤ w.heap.size + 1 + 1; omega) (by omega) Y1 Y2 (h2.to (by with_reducible repeat (first | exact Below.refl _ _ | refine nxa ?_ _ | refine nxd ?_ _ | refine nxw ?_ | refine nx ?_ (by assumption)))) h3
        have e1 := l1.1.cell
        have e2 := l2.1.cell
        go_wp2_with fail
        exact bodyPost_ret (v := .tuple #[.agg #[.slice A2 n2 c2], .agg #[.slice A3 n3 c3]]) (by simp [results, Try.results56, go_sem, e1, e2]) rfl ⟨A2, n2, c2, A3, n3, c3, rfl, by rw [← HL.out]; exact l1.2, by rw [← HU.out]; exact l2.2, hb⟩
      · have hup : Dig .u64 W w1 (some ⟨g, n, none⟩) 0 (c1 - n) (up W n x) := by have := hd1.from_ (i := n) (by omega) (A' := some ⟨g, n, none⟩) (fun g' o' e' _ => by cases e'; simp); rwa [Nat.sub_self] at this
        clear hd1
        go_wp2_with fail
        refine wp_regionT (S := fun w' => True) [] (by kernel_rfl) trivial (fun hHeld => ?_)
        refine anyT_take (i := 0) (v := ?_) (by simp only [List.getElem?_toArray, List.getElem?_cons_succ, List.getElem?_cons_zero]; rfl) (by kernel_rfl) (by kernel_rfl) (by kernel_rfl) (by kernel_rfl) (by exact fun _ _ _ h => h) (Or.inl ⟨by rfl, ?_⟩) (by assumption) ?_
        rotate_left
        · intro w hSw; (try dsimp only at hSw); go_simp; try with_reducible rfl
        try simp only [Act.put, List.setIfInBounds_toArray, List.set_cons_zero, List.set_cons_succ]
        refine anyT_take (i := 1) (v := ?_) (by simp only [List.getElem?_toArray, List.getElem?_cons_succ, List.getElem?_cons_zero]; rfl) (by kernel_rfl) (by kernel_rfl) (by kernel_rfl) (by kernel_rfl) (by exact fun _ _ _ h => h) (Or.inl ⟨by rfl, ?_⟩) (by assumption) ?_
        rotate_left
        · intro w hSw; (try dsimp only at hSw); go_simp; try with_reducible rfl
        try simp only [Act.put, List.setIfInBounds_toArray, List.set_cons_zero, List.set_cons_succ]
        refine anyT_take (i := 2) (v := ?_) (by simp only [List.getElem?_toArray, List.getElem?_cons_succ, List.getElem?_cons_zero]; rfl) (by kernel_rfl) (by kernel_rfl) (by kernel_rfl) (by kernel_rfl) (by exact fun _ _ _ h => h) (Or.inl ⟨by rfl, ?_⟩) (by assumption) ?_
        rotate_left
        · intro w hSw; (try dsimp only at hSw); go_simp; try with_reducible rfl
        try simp only [Act.put, List.setIfInBounds_toArray, List.set_cons_zero, List.set_cons_succ]
        refine anyT_take (i := 4) (v := ?_) (by simp only [List.getElem?_toArray, List.getElem?_cons_succ, List.getElem?_cons_zero]; rfl) (by kernel_rfl) (by kernel_rfl) (by kernel_rfl) (by kernel_rfl) (by exact fun _ _ _ h => h) (Or.inl ⟨by rfl, ?_⟩) (by assumption) ?_
        rotate_left
        · intro w hSw; (try dsimp only at hSw); go_simp; try with_reducible rfl
        try simp only [Act.put, List.setIfInBounds_toArray, List.set_cons_zero, List.set_cons_succ]
        refine anyT_take (i := 5) (v := ?_) (by simp only [List.getElem?_toArray, List.getElem?_cons_succ, List.getElem?_cons_zero]; rfl) (by kernel_rfl) (by kernel_rfl) (by kernel_rfl) (by kernel_rfl) (by exact fun _ _ _ h => h) (Or.inl ⟨by rfl, ?_⟩) (by assumption) ?_
        rotate_left
        · intro w hSw; (try dsimp only at hSw); go_simp; try with_reducible rfl
        try simp only [Act.put, List.setIfInBounds_toArray, List.set_cons_zero, List.set_cons_succ]
        refine anyT_take (i := 6) (v := ?_) (by simp only [List.getElem?_toArray, List.getElem?_cons_succ, List.getElem?_cons_zero]; rfl) (by kernel_rfl) (by kernel_rfl) (by kernel_rfl) (by kernel_rfl) (by exact fun _ _ _ h => h) (Or.inl ⟨by rfl, ?_⟩) (by assumption) ?_
        rotate_left
        · intro w hSw; (try dsimp only at hSw); go_simp; try with_reducible rfl
        try simp only [Act.put, List.setIfInBounds_toArray, List.set_cons_zero, List.set_cons_succ]
        refine anyT_ready (rs := [3]) (by kernel_rfl) (by simp) (ReadyT.cons (by simp only [List.getElem?_toArray, List.getElem?_cons_succ, List.getElem?_cons_zero]; rfl) (fun K hK => ?_) ReadyT.nil)
        go_simp
        go_at_call 13
        (with_reducible refine (nat_Of _ _ _ _ _ (hlow.to (by with_reducible repeat (first | exact Below.refl _ _ | refine nxa ?_ _ | refine nxd ?_ _ | refine nxw ?_ | refine nx ?_ (by assumption)))) (by omega)).mono ?_)
        rintro e w2 ⟨A2, n2, c2, rfl, h2, hb2, hm2⟩
        go_simp
        refine hK.out _ _ trivial (fun hHeld => ?_)
        clear hK K
        try simp only [Act.put, List.setIfInBounds_toArray, List.set_cons_zero, List.set_cons_succ]
        refine anyT_ready (rs := [7]) (by kernel_rfl) (by simp) (ReadyT.cons (by simp only [List.getElem?_toArray, List.getElem?_cons_succ, List.getElem?_cons_zero]; rfl) (fun K hK => ?_) ReadyT.nil)
        go_simp
        go_at_call 13
        (with_reducible refine (nat_Of _ _ _ _ _ (hup.to (by with_reducible repeat (first | exact Below.refl _ _ | refine nxa ?_ _ | refine nxd ?_ _ | refine nxw ?_ | refine nx ?_ (by assumption)))) (by omega)).mono ?_)
        rintro e w3 ⟨A3, n3, c3, rfl, h3, hb3, hm3⟩
        have Y1 := (show Blk1 w3 _ _ _ from (X1.to (by with_reducible repeat (first | exact Below.refl _ _ | refine nxa ?_ _ | refine nxd ?_ _ | refine nxw ?_ | refine nx ?_ (by assumption)))))
        have Y2 := (show Blk1 w3 _ _ _ from (X2.to (by with_reducible repeat (first | exact Below.refl _ _ | refine nxa ?_ _ | refine nxd ?_ _ | refine nxw ?_ | refine nx ?_ (by assumption)))))
        have c10 := Y1.cell
        have f10 := Y1.free
        go_simp
        refine hK.out _ _ trivial (fun hHeld => ?_)
        clear hK K
        try simp only [Act.put, List.setIfInBounds_toArray, List.set_cons_zero, List.set_cons_succ]
        refine anyT_ready (rs := [8]) (by kernel_rfl) (by simp) (ReadyT.cons (by simp only [List.getElem?_toArray, List.getElem?_cons_succ, List.getElem?_cons_zero]; rfl) (fun K hK => ?_) ReadyT.nil)
        go_simp
        refine hK.out _ _ trivial (fun hHeld => ?_)
        clear hK K
        try simp only [Act.put, List.setIfInBounds_toArray, List.set_cons_zero, List.set_cons_succ]
        refine anyT_ready (rs := [9]) (by kernel_rfl) (by simp) (ReadyT.cons (by simp only [List.getElem?_toArray, List.getElem?_cons_succ, List.getElem?_cons_zero]; rfl) (fun K hK => ?_) ReadyT.nil)
        have Z2 := Y2.far (p := ⟨w.heap.size + 1, 0, none⟩) (by show _ ≠ w.heap.size + 1; omega) (.slice A2 n2 c2)
        have c11 := Z2.cell
        have f11 := Z2.free
        go_simp
        refine hK.out _ _ trivial (fun hHeld => ?_)
        clear hK K
        try simp only [Act.put, List.setIfInBounds_toArray, List.set_cons_zero, List.set_cons_succ]
        refine anyT_done (by kernel_rfl) ?_ _
        obtain ⟨l1, l2, hb⟩ := store2 (w0 := w) (show Below w.heap.size w w3 from (by with_reducible repeat (first | exact Below.refl _ _ | refine nxa ?_ _ | refine nxd ?_ _ | refine nxw ?_ | refine nx ?_ (by assumption)))) (by show w.heap.size ≤ w.heap.size + 1; omega) (by show w.heap.size ≤ w.heap.size + 1 + 1; omega) (by omega) Y1 Y2 (h2.to (by with_reducible repeat (first | exact Below.refl _ _ | refine nxa ?_ _ | refine nxd ?_ _ | refine nxw ?_ | refine nx ?_ (by assumption)))) h3
        have e1 := l1.1.cell
        have e2 := l2.1.cell
        go_wp2_with fail
        exact bodyPost_ret (v := .tuple #[.agg #[.slice A2 n2 c2], .agg #[.slice A3 n3 c3]]) (by simp [results, Try.results56, go_sem, e1, e2]) rfl ⟨A2, n2, c2, A3, n3, c3, rfl, by rw [← HL.out]; exact l1.2, by rw [← HU.out]; exact l2.2, hb⟩
  · have hkn' : ¬ (n : Int) < (k : Int) := by omega
    go_enter Try.func56, Try.ntmps56
    go_wp2_with fail
    refine (nat_Words A n c x _ (((h.alloc _).alloc _).alloc _) hn).mono ?_
    rintro e w1 ⟨A1, c1, rfl, ho1, hb1⟩
    have X1 := B1.to hb1
    have X2 := B2.to hb1
    have hbel : Below w.heap.size w w1 := nx (nxa (nxa (nxa (Below.refl _ _) _) _) _) hb1
    obtain ⟨A1', c1', hv, hd1, hf1⟩ := own_form ho1 h.lt
    cases hv
    have m1 := hd1.max
    have m2 := hd1.cap
    have hlow := hd1.upto W_pos (i := k) (by omega)
    change Dig .u64 W w1 A1 k c1 (low W k x) at hlow
    have hshape := ho1.2
    clear ho1 hb1 hf1
    have hs1 : w.heap.size + 1 + 1 + 1 ≤ w1.heap.size := by have := X2.lt; omega
    rcases hshape with ⟨e, rfl⟩ | ⟨g, cap, cur, e, hg⟩
    · cases e
      obtain rfl : k = 0 := by omega
      have hup : Dig .u64 W w1 none 0 0 (up W 0 x) := by rw [show up W 0 x = 0 by rw [up_zero]; exact hd1.zero]; exact Dig.nil _ _ _ _ (by omega)
      clear hd1
      go_wp2_with fail
      refine wp_regionT (S := fun w' => True) [] (by kernel_rfl) trivial (fun hHeld => ?_)
      refine anyT_take (i := 0) (v := ?_) (by simp only [List.getElem?_toArray, List.getElem?_cons_succ, List.getElem?_cons_zero]; rfl) (by kernel_rfl) (by kernel_rfl) (by kernel_rfl) (by kernel_rfl) (by exact fun _ _ _ h => h) (Or.inl ⟨by rfl, ?_⟩) (by assumption) ?_
      rotate_left
      · intro w hSw; (try dsimp only at hSw); go_simp; try with_reducible rfl
      try simp only [Act.put, List.setIfInBounds_toArray, List.set_cons_zero, List.set_cons_succ]
      refine anyT_take (i := 1) (v := ?_) (by simp only [List.getElem?_toArray, List.getElem?_cons_succ, List.getElem?_cons_zero]; rfl) (by kernel_rfl) (by kernel_rfl) (by kernel_rfl) (by kernel_rfl) (by exact fun _ _ _ h => h) (Or.inl ⟨by rfl, ?_⟩) (by assumption) ?_
      rotate_left
      · intro w hSw; (try dsimp only at hSw); go_simp; try with_reducible rfl
      try simp only [Act.put, List.setIfInBounds_toArray, List.set_cons_zero, List.set_cons_succ]
      refine anyT_take (i := 2) (v := ?_) (by simp only [List.getElem?_toArray, List.getElem?_cons_succ, List.getElem?_cons_zero]; rfl) (by kernel_rfl) (by kernel_rfl) (by kernel_rfl) (by kernel_rfl) (by exact fun _ _ _ h => h) (Or.inl ⟨by rfl, ?_⟩) (by assumption) ?_
      rotate_left
      · intro w hSw; (try dsimp only at hSw); go_simp; try with_reducible rfl
      try simp only [Act.put, List.setIfInBounds_toArray, List.set_cons_zero, List.set_cons_succ]
      refine anyT_take (i := 4) (v := ?_) (by simp only [List.getElem?_toArray, List.getElem?_cons_succ, List.getElem?_cons_zero]; rfl) (by kernel_rfl) (by kernel_rfl) (by kernel_rfl) (by kernel_rfl) (by exact fun _ _ _ h => h) (Or.inl ⟨by rfl, ?_⟩) (by assumption) ?_
      rotate_left
      · intro w hSw; (try dsimp only at hSw); go_simp; try with_reducible rfl
      try simp only [Act.put, List.setIfInBounds_toArray, List.set_cons_zero, List.set_cons_succ]
      refine anyT_take (i := 5) (v := ?_) (by simp only [List.getElem?_toArray, List.getElem?_cons_succ, List.getElem?_cons_zero]; rfl) (by kernel_rfl) (by kernel_rfl) (by kernel_rfl) (by kernel_rfl) (by exact fun _ _ _ h => h) (Or.inl ⟨by rfl, ?_⟩) (by assumption) ?_
      rotate_left
      · intro w hSw; (try dsimp only at hSw); go_simp; try with_reducible rfl
      try simp only [Act.put, List.setIfInBounds_toArray, List.set_cons_zero, List.set_cons_succ]
      refine anyT_take (i := 6) (v := ?_) (by simp only [List.getElem?_toArray, List.getElem?_cons_succ, List.getElem?_cons_zero]; rfl) (by kernel_rfl) (by kernel_rfl) (by kernel_rfl) (by kernel_rfl) (by exact fun _ _ _ h => h) (Or.inl ⟨by rfl, ?_⟩) (by assumption) ?_
      rotate_left
      · intro w hSw; (try dsimp only at hSw); go_simp; try with_reducible rfl
      try simp only [Act.put, List.setIfInBounds_toArray, List.set_cons_zero, List.set_cons_succ]
      refine anyT_ready (rs := [3]) (by kernel_rfl) (by simp) (ReadyT.cons (by simp only [List.getElem?_toArray, List.getElem?_cons_succ, List.getElem?_cons_zero]; rfl) (fun K hK => ?_) ReadyT.nil)
      go_simp
      go_at_call 13
      (with_reducible refine (nat_Of _ _ _ _ _ (hlow.to (by with_reducible repeat (first | exact Below.refl _ _ | refine nxa ?_ _ | refine nxd ?_ _ | refine nxw ?_ | refine nx ?_ (by assumption)))) (by omega)).mono ?_)
      rintro e w2 ⟨A2, n2, c2, rfl, h2, hb2, hm2⟩
      go_simp
      refine hK.out _ _ trivial (fun hHeld => ?_)
      clear hK K
      try simp only [Act.put, List.setIfInBounds_toArray, List.set_cons_zero, List.set_cons_succ]
      refine anyT_ready (rs := [7]) (by kernel_rfl) (by simp) (ReadyT.cons (by simp only [List.getElem?_toArray, List.getElem?_cons_succ, List.getElem?_cons_zero]; rfl) (fun K hK => ?_) ReadyT.nil)
      go_simp
      go_at_call 13
      (with_reducible refine (nat_Of _ _ _ _ _ (hup.to (by with_reducible repeat (first | exact Below.refl _ _ | refine nxa ?_ _ | refine nxd ?_ _ | refine nxw ?_ | refine nx ?_ (by assumption)))) (by omega)).mono ?_)
      rintro e w3 ⟨A3, n3, c3, rfl, h3, hb3, hm3⟩
      have Y1 := (show Blk1 w3 _ _ _ from (X1.to (by with_reducible repeat (first | exact Below.refl _ _ | refine nxa ?_ _ | refine nxd ?_ _ | refine nxw ?_ | refine nx ?_ (by assumption)))))
      have Y2 := (show Blk1 w3 _ _ _ from (X2.to (by with_reducible repeat (first | exact Below.refl _ _ | refine nxa ?_ _ | refine nxd ?_ _ | refine nxw ?_ | refine nx ?_ (by assumption)))))
      have c10 := Y1.cell
      have f10 := Y1.free
      go_simp
      refine hK.out _ _ trivial (fun hHeld => ?_)
      clear hK K
      try simp only [Act.put, List.setIfInBounds_toArray, List.set_cons_zero, List.set_cons_succ]
      refine anyT_ready (rs := [8]) (by kernel_rfl) (by simp) (ReadyT.cons (by simp only [List.getElem?_toArray, List.getElem?_cons_succ, List.getElem?_cons_zero]; rfl) (fun K hK => ?_) ReadyT.nil)
      go_simp
      refine hK.out _ _ trivial (fun hHeld => ?_)
      clear hK K
      try simp only [Act.put, List.setIfInBounds_toArray, List.set_cons_zero, List.set_cons_succ]
      refine anyT_ready (rs := [9]) (by kernel_rfl) (by simp) (ReadyT.cons (by simp only [List.getElem?_toArray, List.getElem?_cons_succ, List.getElem?_cons_zero]; rfl) (fun K hK => ?_) ReadyT.nil)
      have Z2 := Y2.far (p := ⟨w.heap.size + 1, 0, none⟩) (by show _ ≠ w.heap.size + 1; omega) (.slice A2 n2 c2)
      have c11 := Z2.cell
      have f11 := Z2.free
      go_simp
      refine hK.out _ _ trivial (fun hHeld => ?_)
      clear hK K
      try simp only [Act.put, List.setIfInBounds_toArray, List.set_cons_zero, List.set_cons_succ]
      refine anyT_done (by kernel_rfl) ?_ _
      obtain ⟨l1, l2, hb⟩ := store2 (w0 := w) (show Below w.heap.size w w3 from (by with_reducible repeat (first | exact Below.refl _ _ | refine nxa ?_ _ | refine nxd ?_ _ | refine nxw ?_ | refine nx ?_ (by assumption)))) (by show w.heap.size ≤ w.heap.size + 1; omega) (by show w.heap.size ≤ w.heap.size + 1 + 1; omega) (by omega) Y1 Y2 (h2.to (by with_reducible repeat (first | exact Below.refl _ _ | refine nxa ?_ _ | refine nxd ?_ _ | refine nxw ?_ | refine nx ?_ (by assumption)))) h3
      have e1 := l1.1.cell
      have e2 := l2.1.cell
      go_wp2_with fail
      exact bodyPost_ret (v := .tuple #[.agg #[.slice A2 n2 c2], .agg #[.slice A3 n3 c3]]) (by simp [results, Try.results56, go_sem, e1, e2]) rfl ⟨A2, n2, c2, A3, n3, c3, rfl, l1.2, l2.2, hb⟩
    · cases e
      by_cases hct : c1 = k
      · obtain rfl : n = k := by omega
        subst hct
        have hup : Dig .u64 W w1 (some ⟨g, 0, none⟩) 0 0 (up W c1 x) := by have := hd1.from_ (i := c1) (Nat.le_refl _) (A' := some ⟨g, 0, none⟩) (fun g' o' _ h' => absurd rfl h'); rwa [Nat.sub_self] at this
        clear hd1
        go_wp2_with fail
        refine wp_regionT (S := fun w' => True) [] (by kernel_rfl) trivial (fun hHeld => ?_)
        refine anyT_take (i := 0) (v := ?_) (by simp only [List.getElem?_toArray, List.getElem?_cons_succ, List.getElem?_cons_zero]; rfl) (by kernel_rfl) (by kernel_rfl) (by kernel_rfl) (by kernel_rfl) (by exact fun _ _ _ h => h) (Or.inl ⟨by rfl, ?_⟩) (by assumption) ?_
        rotate_left
        · intro w hSw; (try dsimp only at hSw); go_simp; try with_reducible rfl
        try simp only [Act.put, List.setIfInBounds_toArray, List.set_cons_zero, List.set_cons_succ]
        refine anyT_take (i := 1) (v := ?_) (by simp only [List.getElem?_toArray, List.getElem?_cons_succ, List.getElem?_cons_zero]; rfl) (by kernel_rfl) (by kernel_rfl) (by kernel_rfl) (by kernel_rfl) (by exact fun _ _ _ h => h) (Or.inl ⟨by rfl, ?_⟩) (by assumption) ?_
        rotate_left
        · intro w hSw; (try dsimp only at hSw); go_simp; try with_reducible rfl
        try simp only [Act.put, List.setIfInBounds_toArray, List.set_cons_zero, List.set_cons_succ]
        refine anyT_take (i := 2) (v := ?_) (by simp only [List.getElem?_toArray, List.getElem?_cons_succ, List.getElem?_cons_zero]; rfl) (by kernel_rfl) (by kernel_rfl) (by kernel_rfl) (by kernel_rfl) (by exact fun _ _ _ h => h) (Or.inl ⟨by rfl, ?_⟩) (by assumption) ?_
        rotate_left
        · intro w hSw; (try dsimp only at hSw); go_simp; try with_reducible rfl
        try simp only [Act.put, List.setIfInBounds_toArray, List.set_cons_zero, List.set_cons_succ]
        refine anyT_take (i := 4) (v := ?_) (by simp only [List.getElem?_toArray, List.getElem?_cons_succ, List.getElem?_cons_zero]; rfl) (by kernel_rfl) (by kernel_rfl) (by kernel_rfl) (by kernel_rfl) (by exact fun _ _ _ h => h) (Or.inl ⟨by rfl, ?_⟩) (by assumption) ?_
        rotate_left
        · intro w hSw; (try dsimp only at hSw); go_simp; try with_reducible rfl
        try simp only [Act.put, List.setIfInBounds_toArray, List.set_cons_zero, List.set_cons_succ]
        refine anyT_take (i := 5) (v := ?_) (by simp only [List.getElem?_toArray, List.getElem?_cons_succ, List.getElem?_cons_zero]; rfl) (by kernel_rfl) (by kernel_rfl) (by kernel_rfl) (by kernel_rfl) (by exact fun _ _ _ h => h) (Or.inl ⟨by rfl, ?_⟩) (by assumption) ?_
        rotate_left
        · intro w hSw; (try dsimp only at hSw); go_simp; try with_reducible rfl
        try simp only [Act.put, List.setIfInBounds_toArray, List.set_cons_zero, List.set_cons_succ]
        refine anyT_take (i := 6) (v := ?_) (by simp only [List.getElem?_toArray, List.getElem?_cons_succ, List.getElem?_cons_zero]; rfl) (by kernel_rfl) (by kernel_rfl) (by kernel_rfl) (by kernel_rfl) (by exact fun _ _ _ h => h) (Or.inl ⟨by rfl, ?_⟩) (by assumption) ?_
        rotate_left
        · intro w hSw; (try dsimp only at hSw); go_simp; try with_reducible rfl
        try simp only [Act.put, List.setIfInBounds_toArray, List.set_cons_zero, List.set_cons_succ]
        refine anyT_ready (rs := [3]) (by kernel_rfl) (by simp) (ReadyT.cons (by simp only [List.getElem?_toArray, List.getElem?_cons_succ, List.getElem?_cons_zero]; rfl) (fun K hK => ?_) ReadyT.nil)
        go_simp
        go_at_call 13
        (with_reducible refine (nat_Of _ _ _ _ _ (hlow.to (by with_reducible repeat (first | exact Below.refl _ _ | refine nxa ?_ _ | refine nxd ?_ _ | refine nxw ?_ | refine nx ?_ (by assumption)))) (by omega)).mono ?_)
        rintro e w2 ⟨A2, n2, c2, rfl, h2, hb2, hm2⟩
        go_simp
        refine hK.out _ _ trivial (fun hHeld => ?_)
        clear hK K
        try simp only [Act.put, List.setIfInBounds_toArray, List.set_cons_zero, List.set_cons_succ]
        refine anyT_ready (rs := [7]) (by kernel_rfl) (by simp) (ReadyT.cons (by simp only [List.getElem?_toArray, List.getElem?_cons_succ, List.getElem?_cons_zero]; rfl) (fun K hK => ?_) ReadyT.nil)
        go_simp
        go_at_call 13
        (with_reducible refine (nat_Of _ _ _ _ _ (hup.to (by with_reducible repeat (first | exact Below.refl _ _ | refine nxa ?_ _ | refine nxd ?_ _ | refine nxw ?_ | refine nx ?_ (by assumption)))) (by omega)).mono ?_)
        rintro e w3 ⟨A3, n3, c3, rfl, h3, hb3, hm3⟩
        have Y1 := (show Blk1 w3 _ _ _ from (X1.to (by with_reducible repeat (first | exact Below.refl _ _ | refine nxa ?_ _ | refine nxd ?_ _ | refine nxw ?_ | refine nx ?_ (by assumption)))))
        have Y2 := (show Blk1 w3 _ _ _ from (X2.to (by with_reducible repeat (first | exact Below.refl _ _ | refine nxa ?_ _ | refine nxd ?_ _ | refine nxw ?_ | refine nx ?_ (by assumption)))))
        have c10 := Y1.cell
        have f10 := Y1.free
        go_simp
        refine hK.out _ _ trivial (fun hHeld => ?_)
        clear hK K
        try simp only [Act.put, List.setIfInBounds_toArray, List.set_cons_zero, List.set_cons_succ]
        refine anyT_ready (rs := [8]) (by kernel_rfl) (by simp) (ReadyT.cons (by simp only [List.getElem?_toArray, List.getElem?_cons_succ, List.getElem?_cons_zero]; rfl) (fun K hK => ?_) ReadyT.nil)
        go_simp
        refine hK.out _ _ trivial (fun hHeld => ?_)
        clear hK K
        try simp only [Act.put, List.setIfInBounds_toArray, List.set_cons_zero, List.set_cons_succ]
        refine anyT_ready (rs := [9]) (by kernel_rfl) (by simp) (ReadyT.cons (by simp only [List.getElem?_toArray, List.getElem?_cons_succ, List.getElem?_cons_zero]; rfl) (fun K hK => ?_) ReadyT.nil)
        have Z2 := Y2.far (p := ⟨w.heap.size + 1, 0, none⟩) (by show _ ≠ w.heap.size + 1; omega) (.slice A2 n2 c2)
        have c11 := Z2.cell
        have f11 := Z2.free
        go_simp
        refine hK.out _ _ trivial (fun hHeld => ?_)
        clear hK K
        try simp only [Act.put, List.setIfInBounds_toArray, List.set_cons_zero, List.set_cons_succ]
        refine anyT_done (by kernel_rfl) ?_ _
        obtain ⟨l1, l2, hb⟩ := store2 (w0 := w) (show Below w.heap.size w w3 from (by with_reducible repeat (first | exact Below.refl _ _ | refine nxa ?_ _ | refine nxd ?_ _ | refine nxw ?_ | refine nx ?_ (by assumption)))) (by show w.heap.size ≤ w.heap.size + 1; omega) (by show w.heap.size ≤ w.heap.size + 1 + 1; omega) (by omega) Y1 Y2 (h2.to (by with_reducible repeat (first | exact Below.refl _ _ | refine nxa ?_ _ | refine nxd ?_ _ | refine nxw ?_ | refine nx ?_ (by assumption)))) h3
        have e1 := l1.1.cell
        have e2 := l2.1.cell
        go_wp2_with fail
        exact bodyPost_ret (v := .tuple #[.agg #[.slice A2 n2 c2], .agg #[.slice A3 n3 c3]]) (by simp [results, Try.results56, go_sem, e1, e2]) rfl ⟨A2, n2, c2, A3, n3, c3, rfl, l1.2, l2.2, hb⟩
      · have hup : Dig .u64 W w1 (some ⟨g, k, none⟩) (n - k) (c1 - k) (up W k x) := by have := hd1.from_ (i := k) (by omega) (A' := some ⟨g, k, none⟩) (fun g' o' e' _ => by cases e'; simp); exact this
        have hkc : k ≤ c1 := by omega
        clear hd1
        go_wp2_with fail
        refine wp_regionT (S := fun w' => True) [] (by kernel_rfl) trivial (fun hHeld => ?_)
        refine anyT_take (i := 0) (v := ?_) (by simp only [List.getElem?_toArray, List.getElem?_cons_succ, List.getElem?_cons_zero]; rfl) (by kernel_rfl) (by kernel_rfl) (by kernel_rfl) (by kernel_rfl) (by exact fun _ _ _ h => h) (Or.inl ⟨by rfl, ?_⟩) (by assumption) ?_
        rotate_left
        · intro w hSw; (try dsimp only at hSw); go_simp; try with_reducible rfl
        try simp only [Act.put, List.setIfInBounds_toArray, List.set_cons_zero, List.set_cons_succ]
        refine anyT_take (i := 1) (v := ?_) (by simp only [List.getElem?_toArray, List.getElem?_cons_succ, List.getElem?_cons_zero]; rfl) (by kernel_rfl) (by kernel_rfl) (by kernel_rfl) (by kernel_rfl) (by exact fun _ _ _ h => h) (Or.inl ⟨by rfl, ?_⟩) (by assumption) ?_
        rotate_left
        · intro w hSw; (try dsimp only at hSw); go_simp; try with_reducible rfl
        try simp only [Act.put, List.setIfInBounds_toArray, List.set_cons_zero, List.set_cons_succ]
        refine anyT_take (i := 2) (v := ?_) (by simp only [List.getElem?_toArray, List.getElem?_cons_succ, List.getElem?_cons_zero]; rfl) (by kernel_rfl) (by kernel_rfl) (by kernel_rfl) (by kernel_rfl) (by exact fun _ _ _ h => h) (Or.inl ⟨by rfl, ?_⟩) (by assumption) ?_
        rotate_left
        · intro w hSw; (try dsimp only at hSw); go_simp; try with_reducible rfl
        try simp only [Act.put, List.setIfInBounds_toArray, List.set_cons_zero, List.set_cons_succ]
        refine anyT_take (i := 4) (v := ?_) (by simp only [List.getElem?_toArray, List.getElem?_cons_succ, List.getElem?_cons_zero]; rfl) (by kernel_rfl) (by kernel_rfl) (by kernel_rfl) (by kernel_rfl) (by exact fun _ _ _ h => h) (Or.inl ⟨by rfl, ?_⟩) (by assumption) ?_
        rotate_left
        · intro w hSw; (try dsimp only at hSw); go_simp; try with_reducible rfl
        try simp only [Act.put, List.setIfInBounds_toArray, List.set_cons_zero, List.set_cons_succ]
        refine anyT_take (i := 5) (v := ?_) (by simp only [List.getElem?_toArray, List.getElem?_cons_succ, List.getElem?_cons_zero]; rfl) (by kernel_rfl) (by kernel_rfl) (by kernel_rfl) (by kernel_rfl) (by exact fun _ _ _ h => h) (Or.inl ⟨by rfl, ?_⟩) (by assumption) ?_
        rotate_left
        · intro w hSw; (try dsimp only at hSw); go_simp; try with_reducible rfl
        try simp only [Act.put, List.setIfInBounds_toArray, List.set_cons_zero, List.set_cons_succ]
        refine anyT_take (i := 6) (v := ?_) (by simp only [List.getElem?_toArray, List.getElem?_cons_succ, List.getElem?_cons_zero]; rfl) (by kernel_rfl) (by kernel_rfl) (by kernel_rfl) (by kernel_rfl) (by exact fun _ _ _ h => h) (Or.inl ⟨by rfl, ?_⟩) (by assumption) ?_
        rotate_left
        · intro w hSw; (try dsimp only at hSw); go_simp; try with_reducible rfl
        try simp only [Act.put, List.setIfInBounds_toArray, List.set_cons_zero, List.set_cons_succ]
        refine anyT_ready (rs := [3]) (by kernel_rfl) (by simp) (ReadyT.cons (by simp only [List.getElem?_toArray, List.getElem?_cons_succ, List.getElem?_cons_zero]; rfl) (fun K hK => ?_) ReadyT.nil)
        go_simp
        go_at_call 13
        (with_reducible refine (nat_Of _ _ _ _ _ (hlow.to (by with_reducible repeat (first | exact Below.refl _ _ | refine nxa ?_ _ | refine nxd ?_ _ | refine nxw ?_ | refine nx ?_ (by assumption)))) (by omega)).mono ?_)
        rintro e w2 ⟨A2, n2, c2, rfl, h2, hb2, hm2⟩
        go_simp
        refine hK.out _ _ trivial (fun hHeld => ?_)
        clear hK K
        try simp only [Act.put, List.setIfInBounds_toArray, List.set_cons_zero, List.set_cons_succ]
        refine anyT_ready (rs := [7]) (by kernel_rfl) (by simp) (ReadyT.cons (by simp only [List.getElem?_toArray, List.getElem?_cons_succ, List.getElem?_cons_zero]; rfl) (fun K hK => ?_) ReadyT.nil)
        go_simp
        go_at_call 13
        (with_reducible refine (nat_Of _ _ _ _ _ (hup.to (by with_reducible repeat (first | exact Below.refl _ _ | refine nxa ?_ _ | refine nxd ?_ _ | refine nxw ?_ | refine nx ?_ (by assumption)))) (by omega)).mono ?_)
        rintro e w3 ⟨A3, n3, c3, rfl, h3, hb3, hm3⟩
        have Y1 := (show Blk1 w3 _ _ _ from (X1.to (by with_reducible repeat (first | exact Below.refl _ _ | refine nxa ?_ _ | refine nxd ?_ _ | refine nxw ?_ | refine nx ?_ (by assumption)))))
        have Y2 := (show Blk1 w3 _ _ _ from (X2.to (by with_reducible repeat (first | exact Below.refl _ _ | refine nxa ?_ _ | refine nxd ?_ _ | refine nxw ?_ | refine nx ?_ (by assumption)))))
        have c10 := Y1.cell
        have f10 := Y1.free
        go_simp
        refine hK.out _ _ trivial (fun hHeld => ?_)
        clear hK K
        try simp only [Act.put, List.setIfInBounds_toArray, List.set_cons_zero, List.set_cons_succ]
        refine anyT_ready (rs := [8]) (by kernel_rfl) (by simp) (ReadyT.cons (by simp only [List.getElem?_toArray, List.getElem?_cons_succ, List.getElem?_cons_zero]; rfl) (fun K hK => ?_) ReadyT.nil)
        go_simp
        refine hK.out _ _ trivial (fun hHeld => ?_)
        clear hK K
        try simp only [Act.put, List.setIfInBounds_toArray, List.set_cons_zero, List.set_cons_succ]
        refine anyT_ready (rs := [9]) (by kernel_rfl) (by simp) (ReadyT.cons (by simp only [List.getElem?_toArray, List.getElem?_cons_succ, List.getElem?_cons_zero]; rfl) (fun K hK => ?_) ReadyT.nil)
        have Z2 := Y2.far (p := ⟨w.heap.size + 1, 0, none⟩) (by show _ ≠ w.heap.size + 1; omega) (.slice A2 n2 c2)
        have c11 := Z2.cell
        have f11 := Z2.free
        go_simp
        refine hK.out _ _ trivial (fun hHeld => ?_)
        clear hK K
        try simp only [Act.put, List.setIfInBounds_toArray, List.set_cons_zero, List.set_cons_succ]
        refine anyT_done (by kernel_rfl) ?_ _
        obtain ⟨l1, l2, hb⟩ := store2 (w0 := w) (show Below w.heap.size w w3 from (by with_reducible repeat (first | exact Below.refl _ _ | refine nxa ?_ _ | refine nxd ?_ _ | refine nxw ?_ | refine nx ?_ (by assumption)))) (by show w.heap.size ≤ w.heap.size + 1; omega) (by show w.heap.size ≤ w.heap.size + 1 + 1; omega) (by omega) Y1 Y2 (h2.to (by with_reducible repeat (first | exact Below.refl _ _ | refine nxa ?_ _ | refine nxd ?_ _ | refine nxw ?_ | refine nx ?_ (by assumption)))) h3
        have e1 := l1.1.cell
        have e2 := l2.1.cell
        go_wp2_with fail
        exact bodyPost_ret (v := .tuple #[.agg #[.slice A2 n2 c2], .agg #[.slice A3 n3 c3]]) (by simp [results, Try.results56, go_sem, e1, e2]) rfl ⟨A2, n2, c2, A3, n3, c3, rfl, l1.2, l2.2, hb⟩
set_option maxHeartbeats 2000000 in
theorem prod_raised (A : Option Addr) (n c x k : Nat) (w : World) (h : NatAt w A n c x) (hk : k + n ≤ 17592186044416) :
    Calls Try.prog 57 #[.agg #[.slice A n c], .int .i64 (k : Nat)] w (RetNat w (x * W ^ k)) := by
  obtain ⟨i0, hi, hz0, hz1, hz2⟩ := info_parts info_u64
  have B0 := (Blk1.new w 25 (.slice A n c)).alloc (.cells #[.slice none 0 0] 25)
  have B1 := Blk1.new (w.alloc (.cells #[.slice A n c] 25)) 25 (.slice none 0 0)
  simp only [World.size_alloc] at B1
  have hlt : 0 + x * W ^ k < W ^ (k + n) := by rw [Nat.zero_add, Nat.pow_add, Nat.mul_comm]; exact Nat.mul_lt_mul_of_pos_left h.lt (Nat.pow_pos W_pos)
  have HLT := Lib.hid hlt
  clear hlt
  have hbe : Below w.heap.size w ((w.alloc (.cells #[.slice A n c] 25)).alloc (.cells #[.slice none 0 0] 25)) := (by with_reducible repeat (first | exact Below.refl _ _ | refine nxa ?_ _ | refine nxd ?_ _ | refine nxw ?_ | refine nx ?_ (by assumption)))
  go_enter Try.func57, Try.ntmps57
  go_wp2_with fail
  generalize ((w.alloc (.cells #[.slice A n c] 25)).alloc (.cells #[.slice none 0 0] 25)) = we at B0 B1 hbe ⊢
  have s0 := B1.lt
  refine wp_regionT (S := fun w' => w'.cell? ⟨w.heap.size, 0, none⟩ = some (.slice A n c)) [6] (by kernel_rfl) ((B0.to (by with_reducible repeat (first | exact Below.refl _ _ | refine nxa ?_ _ | refine nxd ?_ _ | refine nxw ?_ | refine nx ?_ (by assumption))))).cell (fun hHeld => ?_)
  refine anyT_take (i := 0) (v := ?_) (by simp only [List.getElem?_toArray, List.getElem?_cons_succ, List.getElem?_cons_zero]; rfl) (by kernel_rfl) (by kernel_rfl) (by kernel_rfl) (by kernel_rfl) (by exact fun _ _ _ h => h) (Or.inl ⟨by rfl, ?_⟩) (by assumption) ?_
  rotate_left
  · intro w hSw; (try dsimp only at hSw); go_simp; try with_reducible rfl
  try simp only [Act.put, List.setIfInBounds_toArray, List.set_cons_zero, List.set_cons_succ]
  refine anyT_take (i := 2) (v := ?_) (by simp only [List.getElem?_toArray, List.getElem?_cons_succ, List.getElem?_cons_zero]; rfl) (by kernel_rfl) (by kernel_rfl) (by kernel_rfl) (by kernel_rfl) (by exact fun _ _ _ h => h) (Or.inl ⟨by rfl, ?_⟩) (by assumption) ?_
  rotate_left
  · intro w hSw; (try dsimp only at hSw); go_simp; try with_reducible rfl
  try simp only [Act.put, List.setIfInBounds_toArray, List.set_cons_zero, List.set_cons_succ]
  refine anyT_ready (rs := [1, 3]) (by kernel_rfl) (by simp) (ReadyT.cons (by simp only [List.getElem?_toArray, List.getElem?_cons_succ, List.getElem?_cons_zero]; rfl) (fun K hK => ?_) (ReadyT.cons (by simp only [List.getElem?_toArray, List.getElem?_cons_succ, List.getElem?_cons_zero]; rfl) (fun K hK => ?_) ReadyT.nil))
  · skip
    rw [if_pos (by rfl)]
    refine wp_make _ _ 22 rfl we.heap.size 30 i0 (.int .u64 0) Try.underlying22 hi hz0 hz1 .i64 .i64 _ _ k rfl rfl rfl rfl (by rw [hz2]; omega) (by unfold maxLen; omega) ((show Below we.heap.size we _ from (by with_reducible repeat (first | exact Below.refl _ _ | refine nxa ?_ _ | refine nxd ?_ _ | refine nxw ?_ | refine nx ?_ (by assumption))))).size ?_
    intro wm hown hgrow
    rw [show (Value.int .u64 0).cells = #[Value.int .u64 0] from rfl, made_dl .u64 W] at hown
    have hbm := below_of_none hgrow
    refine hK.out _ _ ((B0.to (by with_reducible repeat (first | exact Below.refl _ _ | refine nxa ?_ _ | refine nxd ?_ _ | refine nxw ?_ | refine nx ?_ (by assumption))))).cell (fun hHeld => ?_)
    clear hK K
    try simp only [Act.put, List.setIfInBounds_toArray, List.set_cons_zero, List.set_cons_succ]
    refine anyT_ready (rs := [3]) (by kernel_rfl) (by simp) (ReadyT.cons (by simp only [List.getElem?_toArray, List.getElem?_cons_succ, List.getElem?_cons_zero]; rfl) (fun K hK => ?_) ReadyT.nil)
    go_simp
    go_at_call 15
    (with_reducible refine (nat_Words A n c x _ (h.to (by exact nx hbe (by with_reducible repeat (first | exact Below.refl _ _ | refine nxa ?_ _ | refine nxd ?_ _ | refine nxw ?_ | refine nx ?_ (by assumption))))) (by omega)).mono ?_)
    rintro e ww ⟨A1, c1, rfl, ho1, hb1⟩
    obtain ⟨A1', c1', hv, hw, hf1⟩ := own_form ho1 h.lt
    cases hv
    go_simp
    refine hK.out _ _ ((B0.to (by with_reducible repeat (first | exact Below.refl _ _ | refine nxa ?_ _ | refine nxd ?_ _ | refine nxw ?_ | refine nx ?_ (by assumption))))).cell (fun hHeld => ?_)
    clear hK K
    try simp only [Act.put, List.setIfInBounds_toArray, List.set_cons_zero, List.set_cons_succ]
    refine anyT_ready (rs := [4]) (by kernel_rfl) (by simp) (ReadyT.cons (by simp only [List.getElem?_toArray, List.getElem?_cons_succ, List.getElem?_cons_zero]; rfl) (fun K hK => ?_) ReadyT.nil)
    rw [if_pos (by rfl)]
    refine wp_append _ _ 22 rfl we.heap.size 30 i0 (.int .u64 0) 8 Try.underlying22 hi hz0 hz1 hz2 rfl .u64 W _ k 0 rfl (by first | exact hown | exact own_below hown hb1) _ n _ x rfl (hw.to (by with_reducible repeat (first | exact Below.refl _ _ | refine nxa ?_ _ | refine nxd ?_ _ | refine nxw ?_ | refine nx ?_ (by assumption)))) (by unfold maxLen; omega) (by omega) ((show Below we.heap.size we _ from (by with_reducible repeat (first | exact Below.refl _ _ | refine nxa ?_ _ | refine nxd ?_ _ | refine nxw ?_ | refine nx ?_ (by assumption))))).size W_pos (Nat.pow_pos W_pos) ?_
    intro v' wa howa hgra
    have hba : Below we.heap.size we wa := ((show Below we.heap.size we _ from (by with_reducible repeat (first | exact Below.refl _ _ | refine nxa ?_ _ | refine nxd ?_ _ | refine nxw ?_ | refine nx ?_ (by assumption))))).grown hgra ((show Below we.heap.size we _ from (by with_reducible repeat (first | exact Below.refl _ _ | refine nxa ?_ _ | refine nxd ?_ _ | refine nxw ?_ | refine nx ?_ (by assumption))))).size (fun k hk => (hown.lt k hk).1)
    clear hown
    obtain ⟨A3, c3, rfl, h3, hf3⟩ := own_form howa HLT.out
    refine hK.out _ _ ((B0.to (by with_reducible repeat (first | exact Below.refl _ _ | refine nxa ?_ _ | refine nxd ?_ _ | refine nxw ?_ | refine nx ?_ (by assumption))))).cell (fun hHeld => ?_)
    clear hK K
    try simp only [Act.put, List.setIfInBounds_toArray, List.set_cons_zero, List.set_cons_succ]
    refine anyT_ready (rs := [5]) (by kernel_rfl) (by simp) (ReadyT.cons (by simp only [List.getElem?_toArray, List.getElem?_cons_succ, List.getElem?_cons_zero]; rfl) (fun K hK => ?_) ReadyT.nil)
    go_simp
    go_at_call 13
    (with_reducible refine (nat_Of _ _ _ _ _ (h3.to (by with_reducible repeat (first | exact Below.refl _ _ | refine nxa ?_ _ | refine nxd ?_ _ | refine nxw ?_ | refine nx ?_ (by assumption)))) (by omega)).mono ?_)
    rintro e w4 ⟨A4, n4, c4, rfl, h4, hb4, hm4⟩
    have hb5 : Below we.heap.size we w4 := nx hba (by with_reducible repeat (first | exact Below.refl _ _ | refine nxa ?_ _ | refine nxd ?_ _ | refine nxw ?_ | refine nx ?_ (by assumption)))
    have Y1 := B1.to hb5
    have c10 := Y1.cell
    have f10 := Y1.free
    go_simp
    refine hK.out _ _ ((B0.to (by with_reducible repeat (first | exact Below.refl _ _ | refine nxa ?_ _ | refine nxd ?_ _ | refine nxw ?_ | refine nx ?_ (by assumption))))).cell (fun hHeld => ?_)
    clear hK K
    try simp only [Act.put, List.setIfInBounds_toArray, List.set_cons_zero, List.set_cons_succ]
    refine anyT_ready (rs := [6]) (by kernel_rfl) (by simp) (ReadyT.last (by simp only [List.getElem?_toArray, List.getElem?_cons_succ, List.getElem?_cons_zero]; rfl) (by rfl) (fun K hK => ?_))
    go_simp
    refine hK.out _ _ ?_
    clear hK K
    try simp only [Act.put, List.setIfInBounds_toArray, List.set_cons_zero, List.set_cons_succ]
    refine anyT_done (by kernel_rfl) ?_ _
    obtain ⟨l1, hb⟩ := store1 (w0 := w) (nx hbe hb5) (by show w.heap.size ≤ w.heap.size + 1; omega) Y1 h4
    have e1 := l1.1.cell
    go_wp2_with fail
    exact bodyPost_ret (v := .agg #[.slice A4 n4 c4]) (by simp [results, Try.results57, go_sem, e1]) rfl ⟨A4, n4, c4, rfl, by have := l1.2; rwa [Nat.zero_add] at this, hb⟩
  · skip
    go_simp
    go_at_call 15
    (with_reducible refine (nat_Words A n c x _ (h.to (by exact nx hbe (by with_reducible repeat (first | exact Below.refl _ _ | refine nxa ?_ _ | refine nxd ?_ _ | refine nxw ?_ | refine nx ?_ (by assumption))))) (by omega)).mono ?_)
    rintro e ww ⟨A1, c1, rfl, ho1, hb1⟩
    obtain ⟨A1', c1', hv, hw, hf1⟩ := own_form ho1 h.lt
    cases hv
    go_simp
    refine hK.out _ _ ((B0.to (by with_reducible repeat (first | exact Below.refl _ _ | refine nxa ?_ _ | refine nxd ?_ _ | refine nxw ?_ | refine nx ?_ (by assumption))))).cell (fun hHeld => ?_)
    clear hK K
    try simp only [Act.put, List.setIfInBounds_toArray, List.set_cons_zero, List.set_cons_succ]
    refine anyT_ready (rs := [1]) (by kernel_rfl) (by simp) (ReadyT.cons (by simp only [List.getElem?_toArray, List.getElem?_cons_succ, List.getElem?_cons_zero]; rfl) (fun K hK => ?_) ReadyT.nil)
    rw [if_pos (by rfl)]
    refine wp_make _ _ 22 rfl we.heap.size 30 i0 (.int .u64 0) Try.underlying22 hi hz0 hz1 .i64 .i64 _ _ k rfl rfl rfl rfl (by rw [hz2]; omega) (by unfold maxLen; omega) ((show Below we.heap.size we _ from (by with_reducible repeat (first | exact Below.refl _ _ | refine nxa ?_ _ | refine nxd ?_ _ | refine nxw ?_ | refine nx ?_ (by assumption))))).size ?_
    intro wm hown hgrow
    rw [show (Value.int .u64 0).cells = #[Value.int .u64 0] from rfl, made_dl .u64 W] at hown
    have hbm := below_of_none hgrow
    refine hK.out _ _ ((B0.to (by with_reducible repeat (first | exact Below.refl _ _ | refine nxa ?_ _ | refine nxd ?_ _ | refine nxw ?_ | refine nx ?_ (by assumption))))).cell (fun hHeld => ?_)
    clear hK K
    try simp only [Act.put, List.setIfInBounds_toArray, List.set_cons_zero, List.set_cons_succ]
    refine anyT_ready (rs := [4]) (by kernel_rfl) (by simp) (ReadyT.cons (by simp only [List.getElem?_toArray, List.getElem?_cons_succ, List.getElem?_cons_zero]; rfl) (fun K hK => ?_) ReadyT.nil)
    rw [if_pos (by rfl)]
    refine wp_append _ _ 22 rfl we.heap.size 30 i0 (.int .u64 0) 8 Try.underlying22 hi hz0 hz1 hz2 rfl .u64 W _ k 0 rfl (by first | exact hown | exact own_below hown hb1) _ n _ x rfl (hw.to (by with_reducible repeat (first | exact Below.refl _ _ | refine nxa ?_ _ | refine nxd ?_ _ | refine nxw ?_ | refine nx ?_ (by assumption)))) (by unfold maxLen; omega) (by omega) ((show Below we.heap.size we _ from (by with_reducible repeat (first | exact Below.refl _ _ | refine nxa ?_ _ | refine nxd ?_ _ | refine nxw ?_ | refine nx ?_ (by assumption))))).size W_pos (Nat.pow_pos W_pos) ?_
    intro v' wa howa hgra
    have hba : Below we.heap.size we wa := ((show Below we.heap.size we _ from (by with_reducible repeat (first | exact Below.refl _ _ | refine nxa ?_ _ | refine nxd ?_ _ | refine nxw ?_ | refine nx ?_ (by assumption))))).grown hgra ((show Below we.heap.size we _ from (by with_reducible repeat (first | exact Below.refl _ _ | refine nxa ?_ _ | refine nxd ?_ _ | refine nxw ?_ | refine nx ?_ (by assumption))))).size (fun k hk => (hown.lt k hk).1)
    clear hown
    obtain ⟨A3, c3, rfl, h3, hf3⟩ := own_form howa HLT.out
    refine hK.out _ _ ((B0.to (by with_reducible repeat (first | exact Below.refl _ _ | refine nxa ?_ _ | refine nxd ?_ _ | refine nxw ?_ | refine nx ?_ (by assumption))))).cell (fun hHeld => ?_)
    clear hK K
    try simp only [Act.put, List.setIfInBounds_toArray, List.set_cons_zero, List.set_cons_succ]
    refine anyT_ready (rs := [5]) (by kernel_rfl) (by simp) (ReadyT.cons (by simp only [List.getElem?_toArray, List.getElem?_cons_succ, List.getElem?_cons_zero]; rfl) (fun K hK => ?_) ReadyT.nil)
    go_simp
    go_at_call 13
    (with_reducible refine (nat_Of _ _ _ _ _ (h3.to (by with_reducible repeat (first | exact Below.refl _ _ | refine nxa ?_ _ | refine nxd ?_ _ | refine nxw ?_ | refine nx ?_ (by assumption)))) (by omega)).mono ?_)
    rintro e w4 ⟨A4, n4, c4, rfl, h4, hb4, hm4⟩
    have hb5 : Below we.heap.size we w4 := nx hba (by with_reducible repeat (first | exact Below.refl _ _ | refine nxa ?_ _ | refine nxd ?_ _ | refine nxw ?_ | refine nx ?_ (by assumption)))
    have Y1 := B1.to hb5
    have c10 := Y1.cell
    have f10 := Y1.free
    go_simp
    refine hK.out _ _ ((B0.to (by with_reducible repeat (first | exact Below.refl _ _ | refine nxa ?_ _ | refine nxd ?_ _ | refine nxw ?_ | refine nx ?_ (by assumption))))).cell (fun hHeld => ?_)
    clear hK K
    try simp only [Act.put, List.setIfInBounds_toArray, List.set_cons_zero, List.set_cons_succ]
    refine anyT_ready (rs := [6]) (by kernel_rfl) (by simp) (ReadyT.last (by simp only [List.getElem?_toArray, List.getElem?_cons_succ, List.getElem?_cons_zero]; rfl) (by rfl) (fun K hK => ?_))
    go_simp
    refine hK.out _ _ ?_
    clear hK K
    try simp only [Act.put, List.setIfInBounds_toArray, List.set_cons_zero, List.set_cons_succ]
    refine anyT_done (by kernel_rfl) ?_ _
    obtain ⟨l1, hb⟩ := store1 (w0 := w) (nx hbe hb5) (by show w.heap.size ≤ w.heap.size + 1; omega) Y1 h4
    have e1 := l1.1.cell
    go_wp2_with fail
    exact bodyPost_ret (v := .agg #[.slice A4 n4 c4]) (by simp [results, Try.results57, go_sem, e1]) rfl ⟨A4, n4, c4, rfl, by have := l1.2; rwa [Nat.zero_add] at this, hb⟩
end Go.Proofs.Ytflleaifmeiikaa
