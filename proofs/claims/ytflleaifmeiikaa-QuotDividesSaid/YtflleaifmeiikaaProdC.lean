/- The walks of package prod, third part: school. -/
import Derived.Test.YtflleaifmeiikaaProdB
set_option linter.unusedVariables false
set_option linter.unusedSimpArgs false
namespace Go.Proofs.Ytflleaifmeiikaa
open Go.RowKit
set_option maxRecDepth 100000
set_option maxHeartbeats 2000000 in
theorem prod_school (A : Option Addr) (n c x : Nat) (A' : Option Addr) (n' c' y : Nat) (w : World) (h : NatAt w A n c x) (h' : NatAt w A' n' c' y) (hn : n + n' ≤ 17592186044416) :
    Calls Try.prog 55 #[.agg #[.slice A n c], .agg #[.slice A' n' c']] w (RetNat w (x * y)) := by
  obtain ⟨i0, hi, hz0, hz1, hz2⟩ := info_parts info_u64
  have m1 := h.1.max
  have m2 := h.1.cap
  have m3 := h'.1.max
  have m4 := h'.1.cap
  have B0 := ((Blk1.new w 25 (.slice A n c)).alloc (.cells #[.slice A' n' c'] 25)).alloc (.cells #[.slice none 0 0] 25)
  have B1 := (Blk1.new (w.alloc (.cells #[.slice A n c] 25)) 25 (.slice A' n' c')).alloc (.cells #[.slice none 0 0] 25)
  have B2 := Blk1.new ((w.alloc (.cells #[.slice A n c] 25)).alloc (.cells #[.slice A' n' c'] 25)) 25 (.slice none 0 0)
  simp only [World.size_alloc] at B1 B2
  have hbe : Below w.heap.size w (((w.alloc (.cells #[.slice A n c] 25)).alloc (.cells #[.slice A' n' c'] 25)).alloc (.cells #[.slice none 0 0] 25)) := (by with_reducible repeat (first | exact Below.refl _ _ | refine nxa ?_ _ | refine nxd ?_ _ | refine nxw ?_ | refine nx ?_ (by assumption)))
  go_enter Try.func55, Try.ntmps55
  go_wp2_with fail
  generalize (((w.alloc (.cells #[.slice A n c] 25)).alloc (.cells #[.slice A' n' c'] 25)).alloc (.cells #[.slice none 0 0] 25)) = we at B0 B1 B2 hbe ⊢
  have s0 := B2.lt
  have hx := h.to hbe
  have hy := h'.to hbe
  refine wp_regionT (S := fun w' => w'.cell? ⟨w.heap.size, 0, none⟩ = some (.slice A n c) ∧ w'.cell? ⟨w.heap.size + 1, 0, none⟩ = some (.slice A' n' c')) [] (by kernel_rfl) ⟨((B0.to (by with_reducible repeat (first | exact Below.refl _ _ | refine nxa ?_ _ | refine nxd ?_ _ | refine nxw ?_ | refine nx ?_ (by assumption))))).cell, ((B1.to (by with_reducible repeat (first | exact Below.refl _ _ | refine nxa ?_ _ | refine nxd ?_ _ | refine nxw ?_ | refine nx ?_ (by assumption))))).cell⟩ (fun hHeld => ?_)
  refine anyT_take (i := 0) (v := ?_) (by simp only [List.getElem?_toArray, List.getElem?_cons_succ, List.getElem?_cons_zero]; rfl) (by kernel_rfl) (by kernel_rfl) (by kernel_rfl) (by kernel_rfl) (by exact fun _ _ _ h => h) (Or.inl ⟨by rfl, ?_⟩) (by assumption) ?_
  rotate_left
  · intro w hSw; (try dsimp only at hSw); go_simp; try with_reducible rfl
  try simp only [Act.put, List.setIfInBounds_toArray, List.set_cons_zero, List.set_cons_succ]
  refine anyT_take (i := 2) (v := ?_) (by simp only [List.getElem?_toArray, List.getElem?_cons_succ, List.getElem?_cons_zero]; rfl) (by kernel_rfl) (by kernel_rfl) (by kernel_rfl) (by kernel_rfl) (by exact fun _ _ _ h => h) (Or.inl ⟨by rfl, ?_⟩) (by assumption) ?_
  rotate_left
  · intro w hSw; (try dsimp only at hSw); go_simp; try with_reducible rfl
  try simp only [Act.put, List.setIfInBounds_toArray, List.set_cons_zero, List.set_cons_succ]
  refine anyT_ready (rs := [1]) (by kernel_rfl) (by simp) (ReadyT.cons (by simp only [List.getElem?_toArray, List.getElem?_cons_succ, List.getElem?_cons_zero]; rfl) (fun K hK => ?_) ReadyT.nil)
  go_simp
  go_at_call 43
  (with_reducible refine (nat_Len A n c _).mono ?_)
  rintro e w1 ⟨rfl, hb1⟩
  go_simp
  refine hK.out _ _ ⟨((B0.to (by with_reducible repeat (first | exact Below.refl _ _ | refine nxa ?_ _ | refine nxd ?_ _ | refine nxw ?_ | refine nx ?_ (by assumption))))).cell, ((B1.to (by with_reducible repeat (first | exact Below.refl _ _ | refine nxa ?_ _ | refine nxd ?_ _ | refine nxw ?_ | refine nx ?_ (by assumption))))).cell⟩ (fun hHeld => ?_)
  clear hK K
  try simp only [Act.put, List.setIfInBounds_toArray, List.set_cons_zero, List.set_cons_succ]
  refine anyT_ready (rs := [3]) (by kernel_rfl) (by simp) (ReadyT.cons (by simp only [List.getElem?_toArray, List.getElem?_cons_succ, List.getElem?_cons_zero]; rfl) (fun K hK => ?_) ReadyT.nil)
  go_simp
  go_at_call 43
  (with_reducible refine (nat_Len A' n' c' _).mono ?_)
  rintro e w2 ⟨rfl, hb2⟩
  go_simp
  refine hK.out _ _ ⟨((B0.to (by with_reducible repeat (first | exact Below.refl _ _ | refine nxa ?_ _ | refine nxd ?_ _ | refine nxw ?_ | refine nx ?_ (by assumption))))).cell, ((B1.to (by with_reducible repeat (first | exact Below.refl _ _ | refine nxa ?_ _ | refine nxd ?_ _ | refine nxw ?_ | refine nx ?_ (by assumption))))).cell⟩ (fun hHeld => ?_)
  clear hK K
  try simp only [Act.put, List.setIfInBounds_toArray, List.set_cons_zero, List.set_cons_succ]
  refine anyT_take (i := 4) (v := ?_) (by simp only [List.getElem?_toArray, List.getElem?_cons_succ, List.getElem?_cons_zero]; rfl) (by kernel_rfl) (by kernel_rfl) (by kernel_rfl) (by kernel_rfl) (by exact fun _ _ _ h => h) (Or.inl ⟨by rfl, ?_⟩) (by assumption) ?_
  rotate_left
  · intro w hSw; (try dsimp only at hSw); go_simp; try with_reducible rfl
  try simp only [Act.put, List.setIfInBounds_toArray, List.set_cons_zero, List.set_cons_succ]
  refine anyT_ready (rs := [5]) (by kernel_rfl) (by simp) (ReadyT.cons (by simp only [List.getElem?_toArray, List.getElem?_cons_succ, List.getElem?_cons_zero]; rfl) (fun K hK => ?_) ReadyT.nil)
  rw [if_pos (by rfl)]
  refine wp_make _ _ 22 rfl we.heap.size 30 i0 (.int .u64 0) Try.underlying22 hi hz0 hz1 .i64 .i64 _ _ (n + n') rfl rfl (by rw [IntWalk.i64_in _ (by omega)]; omega) (by rw [IntWalk.i64_in _ (by omega)]; omega) (by rw [hz2]; omega) (by unfold maxLen; omega) (show Below we.heap.size we _ from (by with_reducible repeat (first | exact Below.refl _ _ | refine nxa ?_ _ | refine nxd ?_ _ | refine nxw ?_ | refine nx ?_ (by assumption)))).size ?_
  intro wm hown hgrow
  rw [show (Value.int .u64 0).cells = #[Value.int .u64 0] from rfl, made_dl .u64 W] at hown
  have hbm := below_of_none hgrow
  refine hK.out _ _ ⟨((B0.to (by with_reducible repeat (first | exact Below.refl _ _ | refine nxa ?_ _ | refine nxd ?_ _ | refine nxw ?_ | refine nx ?_ (by assumption))))).cell, ((B1.to (by with_reducible repeat (first | exact Below.refl _ _ | refine nxa ?_ _ | refine nxd ?_ _ | refine nxw ?_ | refine nx ?_ (by assumption))))).cell⟩ (fun hHeld => ?_)
  clear hK K
  try simp only [Act.put, List.setIfInBounds_toArray, List.set_cons_zero, List.set_cons_succ]
  refine anyT_take (i := 6) (v := ?_) (by simp only [List.getElem?_toArray, List.getElem?_cons_succ, List.getElem?_cons_zero]; rfl) (by kernel_rfl) (by kernel_rfl) (by kernel_rfl) (by kernel_rfl) (by exact fun _ _ _ h => h) (Or.inl ⟨by rfl, ?_⟩) (by assumption) ?_
  rotate_left
  · intro w hSw; (try dsimp only at hSw); go_simp; try with_reducible rfl
  try simp only [Act.put, List.setIfInBounds_toArray, List.set_cons_zero, List.set_cons_succ]
  refine anyT_done (by kernel_rfl) ?_ _
  have hbl : Below we.heap.size we wm := (by with_reducible repeat (first | exact Below.refl _ _ | refine nxa ?_ _ | refine nxd ?_ _ | refine nxw ?_ | refine nx ?_ (by assumption)))
  obtain ⟨G, hG⟩ : ∃ G, G = w2.heap.size := ⟨_, rfl⟩
  have hGs : we.heap.size ≤ G := by rw [hG]; exact (show Below we.heap.size we w2 from (by with_reducible repeat (first | exact Below.refl _ _ | refine nxa ?_ _ | refine nxd ?_ _ | refine nxw ?_ | refine nx ?_ (by assumption)))).size
  rw [← hG] at hown ⊢
  clear hgrow hbm hG hb1 hb2 hHeld
  have c0 := (B0.to hbl).cell
  go_wp2_with fail
  refine (nat_Len A n c _).mono ?_
  rintro e w3 ⟨rfl, hb3⟩
  have hown3 := own_below hown hb3
  have hbl3 : Below we.heap.size we w3 := nx hbl hb3
  clear hown hbl hb3 c0
  go_wp2_with fail
  go_loopw [6, 7, 8, 17] (fun _ _ _ t wr => ∃ i : Nat, i ≤ n ∧ t = .int .i64 (i : Int) ∧ wr.ownsRow we.heap.size 30 1 (.slice (some ⟨G, 0, none⟩) (n + n') (n + n')) (n + n') (dl .u64 W (n + n') (low W i x * y)) ∧ Below we.heap.size we wr) (fun _ _ _ t _ => n - (intOf t).toNat)
  case atStart => exact ⟨0, Nat.zero_le _, rfl, by rw [low_nought, Nat.zero_mul]; exact hown3, hbl3⟩
  case round =>
    clear hown3 hbl3
    obtain ⟨i, hin, rfl, hown, hbl⟩ := hrel
    by_cases hlt : i < n
    · have c1 := (B1.to hbl).cell
      have iN : (i : Int) < (n : Int) := by omega
      go_wp2_with fail
      refine (nat_Len A' n' c' _).mono ?_
      rintro e w4 ⟨rfl, hb4⟩
      have hown4 := own_below hown hb4
      have hbl4 : Below we.heap.size we w4 := nx hbl hb4
      clear hown hbl hb4 c1
      obtain ⟨P, hP⟩ : ∃ P, P = low W i x * y := ⟨_, rfl⟩
      obtain ⟨D, hD⟩ : ∃ D, D = dg W i x := ⟨_, rfl⟩
      have hDw : D < W := by rw [hD]; exact dg_lt W_pos _ _
      have HNX := Lib.hid (show P + D * y * W ^ i = low W (i + 1) x * y by rw [hP, hD]; exact school_next)
      have HPL := Lib.hid (show P < W ^ (i + n') by rw [hP]; exact school_row_lt hy.lt)
      rw [← hP] at hown4
      have HP := Lib.hid hP
      have HD := Lib.hid hD
      clear hP hD
      go_wp2_with fail
      go_loopw [7, 8, 22] (fun v _ t wr => ∃ k ov O : Nat, k ≤ n' ∧ t = .int .i64 (k : Int) ∧ v = .int .u64 (ov : Nat) ∧ ov < W ∧ O + ov * W ^ (i + k) = P + D * low W k y * W ^ i ∧ up W (i + k) O = up W (i + k) P ∧ wr.ownsRow we.heap.size 30 1 (.slice (some ⟨G, 0, none⟩) (n + n') (n + n')) (n + n') (dl .u64 W (n + n') (O)) ∧ Below we.heap.size we wr) (fun _ _ t _ => n' - (intOf t).toNat)
      case atStart => exact ⟨0, 0, P, Nat.zero_le _, rfl, rfl, W_pos, by rw [low_nought]; simp, rfl, hown4, hbl4⟩
      case round =>
        clear hown4 hbl4
        obtain ⟨k, ov, O, hkn, rfl, rfl, hov, hO, hU, hown, hbl⟩ := hrel
        by_cases hkl : k < n'
        · have kN : (k : Int) < (n' : Int) := by omega
          obtain ⟨s1, s2⟩ := school_step hDw hov hO hU
          obtain ⟨d, hd⟩ : ∃ d, d = dg W (i + k) O := ⟨_, rfl⟩
          have hdw : d < W := by rw [hd]; exact dg_lt W_pos _ _
          have hgw := dg_lt W_pos k y
          rw [← hd] at s1 s2
          have hlw := maLo_lt D (dg W k y) d ov
          have hhw := maHi_lt (a := d) (b := ov) hDw hgw hdw hov
          obtain ⟨lo, hlo⟩ : ∃ lo, lo = maLo D (dg W k y) d ov := ⟨_, rfl⟩
          obtain ⟨hi', hhi⟩ : ∃ hi, hi = maHi D (dg W k y) d ov := ⟨_, rfl⟩
          rw [← hlo] at s1 s2 hlw
          rw [← hhi] at s1 hhw
          have S1 := Lib.hid s1
          have S2 := Lib.hid s2
          have HLO := Lib.hid hlo
          have HHI := Lib.hid hhi
          have cG := hown.cellAt (i + k) (by omega)
          rw [dl_get _ _ _ _ _ (by omega), ← hd] at cG
          have iM : i ≤ 9223372036854775807 := by omega
          have kM : k ≤ 9223372036854775807 := by omega
          have zi1 : IntKind.i64.wrap ((i : Int) + (k : Int)) = (i : Int) + (k : Int) := IntWalk.i64_in _ (by omega)
          have zi2 : 0 ≤ (i : Int) + (k : Int) := by omega
          have zi3 : (i : Int) + (k : Int) < (n : Int) + (n' : Int) := by omega
          have zi4 : ((i : Int) + (k : Int)).toNat = i + k := by omega
          have C0 := (B0.to hbl).cell
          have C1 := (B1.to hbl).cell
          clear s1 s2 hlo hhi hd hO hU
          go_wp2_with fail
          refine wp_regionT (S := fun w' => w'.cell? ⟨w.heap.size, 0, none⟩ = some (.slice A n c) ∧ w'.cell? ⟨w.heap.size + 1, 0, none⟩ = some (.slice A' n' c') ∧ w'.cell? ⟨G, i + k, none⟩ = some (.int .u64 (d : Nat))) [23] (by kernel_rfl) ⟨cellB (show Below wr.heap.size wr _ from (by with_reducible repeat (first | exact Below.refl _ _ | refine nxa ?_ _ | refine nxd ?_ _ | refine nxw ?_ | refine nx ?_ (by assumption)))) C0, cellB (show Below wr.heap.size wr _ from (by with_reducible repeat (first | exact Below.refl _ _ | refine nxa ?_ _ | refine nxd ?_ _ | refine nxw ?_ | refine nx ?_ (by assumption)))) C1, cellB (show Below wr.heap.size wr _ from (by with_reducible repeat (first | exact Below.refl _ _ | refine nxa ?_ _ | refine nxd ?_ _ | refine nxw ?_ | refine nx ?_ (by assumption)))) cG⟩ (fun hHeld => ?_)
          refine anyT_take (i := 0) (v := ?_) (by simp only [List.getElem?_toArray, List.getElem?_cons_succ, List.getElem?_cons_zero]; rfl) (by kernel_rfl) (by kernel_rfl) (by kernel_rfl) (by kernel_rfl) (by exact fun _ _ _ h => h) (Or.inl ⟨by rfl, ?_⟩) (by assumption) ?_
          rotate_left
          · intro w hSw; (try dsimp only at hSw); go_simp; try with_reducible rfl
          try simp only [Act.put, List.setIfInBounds_toArray, List.set_cons_zero, List.set_cons_succ]
          refine anyT_take (i := 1) (v := ?_) (by simp only [List.getElem?_toArray, List.getElem?_cons_succ, List.getElem?_cons_zero]; rfl) (by kernel_rfl) (by kernel_rfl) (by kernel_rfl) (by kernel_rfl) (by exact fun _ _ _ h => h) (Or.inl ⟨by rfl, ?_⟩) (by assumption) ?_
          rotate_left
          · intro w hSw; (try dsimp only at hSw); go_simp; try with_reducible rfl
          try simp only [Act.put, List.setIfInBounds_toArray, List.set_cons_zero, List.set_cons_succ]
          refine anyT_take (i := 2) (v := ?_) (by simp only [List.getElem?_toArray, List.getElem?_cons_succ, List.getElem?_cons_zero]; rfl) (by kernel_rfl) (by kernel_rfl) (by kernel_rfl) (by kernel_rfl) (by exact fun _ _ _ h => h) (Or.inl ⟨by rfl, ?_⟩) (by assumption) ?_
          rotate_left
          · intro w hSw; (try dsimp only at hSw); go_simp; try with_reducible rfl
          try simp only [Act.put, List.setIfInBounds_toArray, List.set_cons_zero, List.set_cons_succ]
          refine anyT_take (i := 3) (v := ?_) (by simp only [List.getElem?_toArray, List.getElem?_cons_succ, List.getElem?_cons_zero]; rfl) (by kernel_rfl) (by kernel_rfl) (by kernel_rfl) (by kernel_rfl) (by exact fun _ _ _ h => h) (Or.inl ⟨by rfl, ?_⟩) (by assumption) ?_
          rotate_left
          · intro w hSw; (try dsimp only at hSw); go_simp; try with_reducible rfl
          try simp only [Act.put, List.setIfInBounds_toArray, List.set_cons_zero, List.set_cons_succ]
          refine anyT_take (i := 4) (v := ?_) (by simp only [List.getElem?_toArray, List.getElem?_cons_succ, List.getElem?_cons_zero]; rfl) (by kernel_rfl) (by kernel_rfl) (by kernel_rfl) (by kernel_rfl) (by exact fun _ _ _ h => h) (Or.inl ⟨by rfl, ?_⟩) (by assumption) ?_
          rotate_left
          · intro w hSw; (try dsimp only at hSw); go_simp; try with_reducible rfl
          try simp only [Act.put, List.setIfInBounds_toArray, List.set_cons_zero, List.set_cons_succ]
          refine anyT_take (i := 5) (v := ?_) (by simp only [List.getElem?_toArray, List.getElem?_cons_succ, List.getElem?_cons_zero]; rfl) (by kernel_rfl) (by kernel_rfl) (by kernel_rfl) (by kernel_rfl) (by exact fun _ _ _ h => h) (Or.inl ⟨by rfl, ?_⟩) (by assumption) ?_
          rotate_left
          · intro w hSw; (try dsimp only at hSw); go_simp; try with_reducible rfl
          try simp only [Act.put, List.setIfInBounds_toArray, List.set_cons_zero, List.set_cons_succ]
          refine anyT_take (i := 7) (v := ?_) (by simp only [List.getElem?_toArray, List.getElem?_cons_succ, List.getElem?_cons_zero]; rfl) (by kernel_rfl) (by kernel_rfl) (by kernel_rfl) (by kernel_rfl) (by exact fun _ _ _ h => h) (Or.inl ⟨by rfl, ?_⟩) (by assumption) ?_
          rotate_left
          · intro w hSw; (try dsimp only at hSw); go_simp; try with_reducible rfl
          try simp only [Act.put, List.setIfInBounds_toArray, List.set_cons_zero, List.set_cons_succ]
          refine anyT_take (i := 8) (v := ?_) (by simp only [List.getElem?_toArray, List.getElem?_cons_succ, List.getElem?_cons_zero]; rfl) (by kernel_rfl) (by kernel_rfl) (by kernel_rfl) (by kernel_rfl) (by exact fun _ _ _ h => h) (Or.inl ⟨by rfl, ?_⟩) (by assumption) ?_
          rotate_left
          · intro w hSw; (try dsimp only at hSw); go_simp; try with_reducible rfl
          try simp only [Act.put, List.setIfInBounds_toArray, List.set_cons_zero, List.set_cons_succ]
          refine anyT_take (i := 10) (v := ?_) (by simp only [List.getElem?_toArray, List.getElem?_cons_succ, List.getElem?_cons_zero]; rfl) (by kernel_rfl) (by kernel_rfl) (by kernel_rfl) (by kernel_rfl) (by exact fun _ _ _ h => h) (Or.inl ⟨by rfl, ?_⟩) (by assumption) ?_
          rotate_left
          · intro w hSw; (try dsimp only at hSw); go_simp; try with_reducible rfl
          try simp only [Act.put, List.setIfInBounds_toArray, List.set_cons_zero, List.set_cons_succ]
          refine anyT_take (i := 11) (v := ?_) (by simp only [List.getElem?_toArray, List.getElem?_cons_succ, List.getElem?_cons_zero]; rfl) (by kernel_rfl) (by kernel_rfl) (by kernel_rfl) (by kernel_rfl) (by exact fun _ _ _ h => h) (Or.inl ⟨by rfl, ?_⟩) (by assumption) ?_
          rotate_left
          · intro w hSw; (try dsimp only at hSw); go_simp; try with_reducible rfl
          try simp only [Act.put, List.setIfInBounds_toArray, List.set_cons_zero, List.set_cons_succ]
          refine anyT_take (i := 12) (v := ?_) (by simp only [List.getElem?_toArray, List.getElem?_cons_succ, List.getElem?_cons_zero]; rfl) (by kernel_rfl) (by kernel_rfl) (by kernel_rfl) (by kernel_rfl) (by exact fun _ _ _ h => h) (Or.inl ⟨by rfl, ?_⟩) (by assumption) ?_
          rotate_left
          · intro w hSw; (try dsimp only at hSw); go_simp; try with_reducible rfl
          try simp only [Act.put, List.setIfInBounds_toArray, List.set_cons_zero, List.set_cons_succ]
          refine anyT_take (i := 13) (v := ?_) (by simp only [List.getElem?_toArray, List.getElem?_cons_succ, List.getElem?_cons_zero]; rfl) (by kernel_rfl) (by kernel_rfl) (by kernel_rfl) (by kernel_rfl) (by exact fun _ _ _ h => h) (Or.inl ⟨by rfl, ?_⟩) (by assumption) ?_
          rotate_left
          · intro w hSw; (try dsimp only at hSw); go_simp; try with_reducible rfl
          try simp only [Act.put, List.setIfInBounds_toArray, List.set_cons_zero, List.set_cons_succ]
          refine anyT_take (i := 14) (v := ?_) (by simp only [List.getElem?_toArray, List.getElem?_cons_succ, List.getElem?_cons_zero]; rfl) (by kernel_rfl) (by kernel_rfl) (by kernel_rfl) (by kernel_rfl) (by exact fun _ _ _ h => h) (Or.inl ⟨by rfl, ?_⟩) (by assumption) ?_
          rotate_left
          · intro w hSw; (try dsimp only at hSw); go_simp; try with_reducible rfl
          try simp only [Act.put, List.setIfInBounds_toArray, List.set_cons_zero, List.set_cons_succ]
          refine anyT_take (i := 15) (v := ?_) (by simp only [List.getElem?_toArray, List.getElem?_cons_succ, List.getElem?_cons_zero]; rfl) (by kernel_rfl) (by kernel_rfl) (by kernel_rfl) (by kernel_rfl) (by exact fun _ _ _ h => h) (Or.inl ⟨by rfl, ?_⟩) (by assumption) ?_
          rotate_left
          · intro w hSw; (try dsimp only at hSw); go_simp; try with_reducible rfl
          try simp only [Act.put, List.setIfInBounds_toArray, List.set_cons_zero, List.set_cons_succ]
          refine anyT_take (i := 16) (v := ?_) (by simp only [List.getElem?_toArray, List.getElem?_cons_succ, List.getElem?_cons_zero]; rfl) (by kernel_rfl) (by kernel_rfl) (by kernel_rfl) (by kernel_rfl) (by exact fun _ _ _ h => h) (Or.inl ⟨by rfl, ?_⟩) (by assumption) ?_
          rotate_left
          · intro w hSw; (try dsimp only at hSw); go_simp; try with_reducible rfl
          try simp only [Act.put, List.setIfInBounds_toArray, List.set_cons_zero, List.set_cons_succ]
          refine anyT_ready (rs := [6]) (by kernel_rfl) (by simp) (ReadyT.cons (by simp only [List.getElem?_toArray, List.getElem?_cons_succ, List.getElem?_cons_zero]; rfl) (fun K hK => ?_) ReadyT.nil)
          go_simp
          go_at_call 20
          (with_reducible refine (nat_Word A n c x i _ (hx.to (by exact nx hbl (by with_reducible repeat (first | exact Below.refl _ _ | refine nxa ?_ _ | refine nxd ?_ _ | refine nxw ?_ | refine nx ?_ (by assumption))))) iM).mono ?_)
          rw [← HD.out]
          rintro e w5 ⟨rfl, hb5⟩
          go_simp
          refine hK.out _ _ ⟨cellB (show Below wr.heap.size wr _ from (by with_reducible repeat (first | exact Below.refl _ _ | refine nxa ?_ _ | refine nxd ?_ _ | refine nxw ?_ | refine nx ?_ (by assumption)))) C0, cellB (show Below wr.heap.size wr _ from (by with_reducible repeat (first | exact Below.refl _ _ | refine nxa ?_ _ | refine nxd ?_ _ | refine nxw ?_ | refine nx ?_ (by assumption)))) C1, cellB (show Below wr.heap.size wr _ from (by with_reducible repeat (first | exact Below.refl _ _ | refine nxa ?_ _ | refine nxd ?_ _ | refine nxw ?_ | refine nx ?_ (by assumption)))) cG⟩ (fun hHeld => ?_)
          clear hK K
          try simp only [Act.put, List.setIfInBounds_toArray, List.set_cons_zero, List.set_cons_succ]
          refine anyT_ready (rs := [9]) (by kernel_rfl) (by simp) (ReadyT.cons (by simp only [List.getElem?_toArray, List.getElem?_cons_succ, List.getElem?_cons_zero]; rfl) (fun K hK => ?_) ReadyT.nil)
          go_simp
          go_at_call 20
          (with_reducible refine (nat_Word A' n' c' y k _ (hy.to (by exact nx hbl (by with_reducible repeat (first | exact Below.refl _ _ | refine nxa ?_ _ | refine nxd ?_ _ | refine nxw ?_ | refine nx ?_ (by assumption))))) kM).mono ?_)
          rintro e w6 ⟨rfl, hb6⟩
          have ho6 := own_below hown (show Below wr.heap.size wr w6 from (by with_reducible repeat (first | exact Below.refl _ _ | refine nxa ?_ _ | refine nxd ?_ _ | refine nxw ?_ | refine nx ?_ (by assumption))))
          have f6 := ho6.frozenAt (i + k)
          have c6 := cellB (show Below wr.heap.size wr w6 from (by with_reducible repeat (first | exact Below.refl _ _ | refine nxa ?_ _ | refine nxd ?_ _ | refine nxw ?_ | refine nx ?_ (by assumption)))) cG
          go_simp
          refine hK.out _ _ ⟨cellB (show Below wr.heap.size wr _ from (by with_reducible repeat (first | exact Below.refl _ _ | refine nxa ?_ _ | refine nxd ?_ _ | refine nxw ?_ | refine nx ?_ (by assumption)))) C0, cellB (show Below wr.heap.size wr _ from (by with_reducible repeat (first | exact Below.refl _ _ | refine nxa ?_ _ | refine nxd ?_ _ | refine nxw ?_ | refine nx ?_ (by assumption)))) C1, cellB (show Below wr.heap.size wr _ from (by with_reducible repeat (first | exact Below.refl _ _ | refine nxa ?_ _ | refine nxd ?_ _ | refine nxw ?_ | refine nx ?_ (by assumption)))) cG⟩ (fun hHeld => ?_)
          clear hK K
          try simp only [Act.put, List.setIfInBounds_toArray, List.set_cons_zero, List.set_cons_succ]
          refine anyT_ready (rs := [17]) (by kernel_rfl) (by simp) (ReadyT.cons (by simp only [List.getElem?_toArray, List.getElem?_cons_succ, List.getElem?_cons_zero]; rfl) (fun K hK => ?_) ReadyT.nil)
          go_simp
          go_at_call 71
          (with_reducible refine (word_MulAdd D _ d ov _ hDw hgw hdw hov).mono ?_)
          rw [← HLO.out, ← HHI.out]
          rintro e w7 ⟨rfl, rfl⟩
          go_simp
          refine hK.out _ _ ⟨cellB (show Below wr.heap.size wr _ from (by with_reducible repeat (first | exact Below.refl _ _ | refine nxa ?_ _ | refine nxd ?_ _ | refine nxw ?_ | refine nx ?_ (by assumption)))) C0, cellB (show Below wr.heap.size wr _ from (by with_reducible repeat (first | exact Below.refl _ _ | refine nxa ?_ _ | refine nxd ?_ _ | refine nxw ?_ | refine nx ?_ (by assumption)))) C1, cellB (show Below wr.heap.size wr _ from (by with_reducible repeat (first | exact Below.refl _ _ | refine nxa ?_ _ | refine nxd ?_ _ | refine nxw ?_ | refine nx ?_ (by assumption)))) cG⟩ (fun hHeld => ?_)
          clear hK K
          try simp only [Act.put, List.setIfInBounds_toArray, List.set_cons_zero, List.set_cons_succ]
          refine anyT_take (i := 18) (v := ?_) (by simp only [List.getElem?_toArray, List.getElem?_cons_succ, List.getElem?_cons_zero]; rfl) (by kernel_rfl) (by kernel_rfl) (by kernel_rfl) (by kernel_rfl) (by exact fun _ _ _ h => h) (Or.inl ⟨by rfl, ?_⟩) (by assumption) ?_
          rotate_left
          · intro w hSw; (try dsimp only at hSw); go_simp; try with_reducible rfl
          try simp only [Act.put, List.setIfInBounds_toArray, List.set_cons_zero, List.set_cons_succ]
          refine anyT_take (i := 19) (v := ?_) (by simp only [List.getElem?_toArray, List.getElem?_cons_succ, List.getElem?_cons_zero]; rfl) (by kernel_rfl) (by kernel_rfl) (by kernel_rfl) (by kernel_rfl) (by exact fun _ _ _ h => h) (Or.inl ⟨by rfl, ?_⟩) (by assumption) ?_
          rotate_left
          · intro w hSw; (try dsimp only at hSw); go_simp; try with_reducible rfl
          try simp only [Act.put, List.setIfInBounds_toArray, List.set_cons_zero, List.set_cons_succ]
          refine anyT_take (i := 20) (v := ?_) (by simp only [List.getElem?_toArray, List.getElem?_cons_succ, List.getElem?_cons_zero]; rfl) (by kernel_rfl) (by kernel_rfl) (by kernel_rfl) (by kernel_rfl) (by exact fun _ _ _ h => h) (Or.inl ⟨by rfl, ?_⟩) (by assumption) ?_
          rotate_left
          · intro w hSw; (try dsimp only at hSw); go_simp; try with_reducible rfl
          try simp only [Act.put, List.setIfInBounds_toArray, List.set_cons_zero, List.set_cons_succ]
          refine anyT_take (i := 21) (v := ?_) (by simp only [List.getElem?_toArray, List.getElem?_cons_succ, List.getElem?_cons_zero]; rfl) (by kernel_rfl) (by kernel_rfl) (by kernel_rfl) (by kernel_rfl) (by exact fun _ _ _ h => h) (Or.inl ⟨by rfl, ?_⟩) (by assumption) ?_
          rotate_left
          · intro w hSw; (try dsimp only at hSw); go_simp; try with_reducible rfl
          try simp only [Act.put, List.setIfInBounds_toArray, List.set_cons_zero, List.set_cons_succ]
          refine anyT_take (i := 22) (v := ?_) (by simp only [List.getElem?_toArray, List.getElem?_cons_succ, List.getElem?_cons_zero]; rfl) (by kernel_rfl) (by kernel_rfl) (by kernel_rfl) (by kernel_rfl) (by exact fun _ _ _ h => h) (Or.inl ⟨by rfl, ?_⟩) (by assumption) ?_
          rotate_left
          · intro w hSw; (try dsimp only at hSw); go_simp; try with_reducible rfl
          try simp only [Act.put, List.setIfInBounds_toArray, List.set_cons_zero, List.set_cons_succ]
          refine anyT_ready (rs := [23]) (by kernel_rfl) (by simp) (ReadyT.last (by simp only [List.getElem?_toArray, List.getElem?_cons_succ, List.getElem?_cons_zero]; rfl) (by rfl) (fun K hK => ?_))
          go_simp
          refine hK.out _ _ ?_
          clear hK K
          try simp only [Act.put, List.setIfInBounds_toArray, List.set_cons_zero, List.set_cons_succ]
          refine anyT_done (by kernel_rfl) ?_ _
          have hb7 : Below we.heap.size we w6 := nx hbl (show Below wr.heap.size wr w6 from (by with_reducible repeat (first | exact Below.refl _ _ | refine nxa ?_ _ | refine nxd ?_ _ | refine nxw ?_ | refine nx ?_ (by assumption))))
          have ho := (ho6.stored (i + k) (.int .u64 (lo : Nat))).1
          rw [dl_set W_pos (by omega) hlw] at ho
          have hbl' := hb7.setCell (p := ⟨G, i + k, none⟩) hGs (.int .u64 (lo : Nat))
          clear zi1 zi2 zi3 zi4 hb5 hb6 hb7 ho6 f6 c6 cG C0 C1 hown hbl hHeld
          go_wp2_with fail
          go_roundw
          case rel => exact ⟨k + 1, hi', _, by omega, by go_num, rfl, hhw, S1.out, S2.out, ho, hbl'⟩
          case measure => simp [intOf]; omega
        · obtain rfl : k = n' := by omega
          have HE := Lib.hid (school_end HPL.out hov hy.lt hO hU)
          have C1 := (B1.to hbl).cell
          clear hO hU
          go_wp2_with fail
          refine (nat_Len A' k c' _).mono ?_
          rintro e w5 ⟨rfl, hb5⟩
          have ho5 := own_below hown (show Below wr.heap.size wr w5 from (by with_reducible repeat (first | exact Below.refl _ _ | refine nxa ?_ _ | refine nxd ?_ _ | refine nxw ?_ | refine nx ?_ (by assumption))))
          have f5 := ho5.frozenAt (i + k)
          have c5 := ho5.cellAt (i + k) (by omega)
          rw [dl_get _ _ _ _ _ (by omega)] at c5
          have zi1 : IntKind.i64.wrap ((i : Int) + (k : Int)) = (i : Int) + (k : Int) := IntWalk.i64_in _ (by omega)
          have zi2 : 0 ≤ (i : Int) + (k : Int) := by omega
          have zi3 : (i : Int) + (k : Int) < (n : Int) + (k : Int) := by omega
          have zi4 : ((i : Int) + (k : Int)).toNat = i + k := by omega
          have hb7 : Below we.heap.size we w5 := nx hbl (show Below wr.heap.size wr w5 from (by with_reducible repeat (first | exact Below.refl _ _ | refine nxa ?_ _ | refine nxd ?_ _ | refine nxw ?_ | refine nx ?_ (by assumption))))
          have ho := (ho5.stored (i + k) (.int .u64 (ov : Nat))).1
          rw [dl_set W_pos (by omega) hov, HE.out, HNX.out] at ho
          have hbl' := hb7.setCell (p := ⟨G, i + k, none⟩) hGs (.int .u64 (ov : Nat))
          clear hb5 hb7 ho5 C1 hown hbl
          go_wp2_with fail
          clear zi1 zi2 zi3 zi4 c5 f5
          go_roundw
          case rel => exact ⟨i + 1, by omega, by go_num, ho, hbl'⟩
          case measure => simp [intOf]; omega
    · obtain rfl : i = n := by omega
      rw [low_all hx.lt] at hown
      obtain ⟨A1, c1, hv, hd, hf⟩ := own_form hown (mul_lt_pow hx.lt hy.lt)
      cases hv
      clear hown
      go_wp2_with fail
      refine (nat_Of _ _ _ _ _ hd (by omega)).mono ?_
      rintro e w5 ⟨A2, n2, c2, rfl, h2, hb5, hm2⟩
      have Y := (B2.to hbl).to hb5
      obtain ⟨l1, hb⟩ := store1 (w0 := w) (nx hbe (nx hbl hb5)) (by show w.heap.size ≤ w.heap.size + 1 + 1; omega) Y h2
      have c6 := Y.cell
      have f6 := Y.free
      have e1 := l1.1.cell
      clear hd hf hb5
      go_wp2_with fail
      exact bodyPost_ret (v := .agg #[.slice A2 n2 c2]) (by simp [results, Try.results55, go_sem, e1]) rfl ⟨A2, n2, c2, rfl, l1.2, hb⟩
end Go.Proofs.Ytflleaifmeiikaa
