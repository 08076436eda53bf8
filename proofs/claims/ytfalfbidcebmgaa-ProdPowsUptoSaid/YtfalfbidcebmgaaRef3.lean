/- The walk of actuaryref03.Mul. -/
import Derived.Test.YtfalfbidcebmgaaRef2p
import Derived.Test.YtfalfbidcebmgaaAny2
import Derived.Test.YtfalfbidcebmgaaNatKit
set_option linter.unusedVariables false
set_option linter.unusedSimpArgs false
namespace Go.Proofs.Ytfalfbidcebmgaa
open Go.RowKit
set_option maxRecDepth 100000
theorem ref_up (b j y : Nat) : up b j y = dg b j y + b * up b (j + 1) y := by
  rw [← up_mod, ← up_succ]; exact (Nat.mod_add_div _ _).symm
theorem mul_lt_pow' {b x y n m : Nat} (hb : 0 < b) (hx : x < b ^ n) (hy : y < b ^ m) : x * y < b ^ (n + m) := by
  rw [Nat.pow_add]
  exact Nat.lt_of_le_of_lt (Nat.mul_le_mul_right _ (Nat.le_of_lt hx)) (Nat.mul_lt_mul_of_pos_left hy (by omega))
theorem NumAt.drew' {k : IntKind} {b : Nat} {w : World} {A : Option Addr} {n c x : Nat} (h : NumAt k b w A n c x) : NumAt k b w.drew A n c x := h
set_option maxHeartbeats 2000000 in
theorem ref3_Mul (A : Option Addr) (n c x : Nat) (A' : Option Addr) (n' c' y : Nat) (w : World) (h : NumAt .i64 65536 w A n c x) (h' : NumAt .i64 65536 w A' n' c' y) (hn : n ≤ 1000000000) (hn' : n' ≤ 1000000000) :
    Calls Try.prog 42 #[.slice A n c, .slice A' n' c'] w (RetRef 65536 w (x * y)) := by
  have m1 := h.1.max
  have m2 := h.1.cap
  have m3 := h'.1.max
  have m4 := h'.1.cap
  go_enter Try.func42, Try.ntmps42
  go_wp2_with fail
  go_loopw [5, 6] (fun o k wr => ∃ j A1 n1 c1, j ≤ n' ∧ k = .int .i64 ((j : Int) - 1) ∧ o = .slice A1 n1 c1 ∧ NumAt .i64 65536 wr A1 n1 c1 (x * up 65536 j y) ∧ Below w.heap.size w wr ∧ Fresh w.heap.size A1) (fun _ k _ => (intOf k + 1).toNat)
  case atStart => exact ⟨n', none, 0, 0, Nat.le_refl _, rfl, rfl, by rw [show up 65536 n' y = 0 from Nat.div_eq_of_lt h'.lt, Nat.mul_zero]; exact NumAt.nil _ _ _, Below.refl _ _, Fresh.none _⟩
  case round =>
    obtain ⟨j, A1, n1, c1, hj, rfl, rfl, h1, hbl, hf⟩ := hrel
    have hup : x * up 65536 j y ≤ x * y := Nat.mul_le_mul_left _ (up_le _ _ _)
    have hxy := mul_lt_pow' (b := 65536) (by decide) h.lt h'.lt
    have q1 := h1.le_of (by decide) (n + n') (by omega)
    rcases j with _ | i
    · rw [up_zero] at h1
      clear hup hxy
      go_wp2_with fail
      go_ret
      exact ⟨A1, n1, c1, rfl, h1, hbl, hf⟩
    · obtain ⟨a, ha⟩ : ∃ a, a = dg 65536 i y := ⟨_, rfl⟩
      have haw : a < 65536 := by rw [ha]; exact dg_lt (by decide) _ _
      have HS := Lib.hid (show x * up 65536 (i + 1) y * 2 ^ 16 + (x * a + 0) = x * up 65536 i y by rw [ref_up 65536 i y, ← ha, Nat.mul_add, Nat.mul_assoc, show (2 : Nat) ^ 16 = 65536 from rfl, Nat.mul_comm _ 65536]; omega)
      have hui : x * up 65536 i y ≤ x * y := Nat.mul_le_mul_left _ (up_le _ _ _)
      have hxa : x * a < 65536 ^ (n + 1) := by rw [Nat.pow_succ]; exact Nat.lt_of_le_of_lt (Nat.mul_le_mul_right _ (Nat.le_of_lt h.lt)) (Nat.mul_lt_mul_of_pos_left haw (by have := h.lt; omega))
      obtain ⟨g, o, rfl, hg, hcell⟩ := h'.1.at_ (by omega)
      have cb : wr.cell? ⟨g, o + i, none⟩ = some (.int .i64 (a : Int)) := by rw [ha]; exact (hbl.cell (by exact hg)).trans (hcell i (by omega))
      have iN : (i : Int) < (n' : Int) := by omega
      have ei : ((i + 1 : Nat) : Int) - 1 = (i : Int) := by omega
      rw [ei]
      have HN := Lib.hid (And.intro hn (And.intro hn' (And.intro q1 (And.intro hui hxy))))
      have q1a : n1 ≤ 4000000000 := by omega
      have D1 := h1.1
      have DX := h.1
      clear hcell ha hup ei hui hxy q1
      go_wp2_with fail
      refine wp_regionT (S := fun w' => w'.cell? ⟨g, o + i, none⟩ = some (.int .i64 (a : Int)) ∧ True) [] (by kernel_rfl) ⟨cellB (show Below wr.heap.size wr _ from (by with_reducible repeat (first | exact Below.refl _ _ | refine nxa ?_ _ | refine nxd ?_ _ | refine nxw ?_ | refine nx ?_ (by assumption)))) cb, trivial⟩ (fun hHeld => ?_)
      have hbd1 : Below wr.heap.size wr wr.drew := nxw (Below.refl _ _)
      generalize wr.drew = wd1 at hHeld hbd1 ⊢
      refine anyT_take (i := 0) (v := ?_) (by simp only [List.getElem?_toArray, List.getElem?_cons_succ, List.getElem?_cons_zero]; rfl) (by kernel_rfl) (by kernel_rfl) (by kernel_rfl) (by kernel_rfl) (by exact fun _ _ _ h => h) (Or.inl ⟨by rfl, ?_⟩) (by assumption) ?_
      rotate_left
      · intro w hSw; (try dsimp only at hSw); go_simp; try with_reducible rfl
      try simp only [Act.put, List.setIfInBounds_toArray, List.set_cons_zero, List.set_cons_succ]
      refine anyT_take (i := 2) (v := ?_) (by simp only [List.getElem?_toArray, List.getElem?_cons_succ, List.getElem?_cons_zero]; rfl) (by kernel_rfl) (by kernel_rfl) (by kernel_rfl) (by kernel_rfl) (by exact fun _ _ _ h => h) (Or.inl ⟨by rfl, ?_⟩) (by assumption) ?_
      rotate_left
      · intro w hSw; (try dsimp only at hSw); go_simp; try with_reducible rfl
      try simp only [Act.put, List.setIfInBounds_toArray, List.set_cons_zero, List.set_cons_succ]
      refine anyT_take (i := 3) (v := ?_) (by simp only [List.getElem?_toArray, List.getElem?_cons_succ, List.getElem?_cons_zero]; rfl) (by kernel_rfl) (by kernel_rfl) (by kernel_rfl) (by kernel_rfl) (by exact fun _ _ _ h => h) (Or.inl ⟨by rfl, ?_⟩) (by assumption) ?_
      rotate_left
      · intro w hSw; (try dsimp only at hSw); go_simp; try with_reducible rfl
      try simp only [Act.put, List.setIfInBounds_toArray, List.set_cons_zero, List.set_cons_succ]
      refine anyT_take (i := 4) (v := ?_) (by simp only [List.getElem?_toArray, List.getElem?_cons_succ, List.getElem?_cons_zero]; rfl) (by kernel_rfl) (by kernel_rfl) (by kernel_rfl) (by kernel_rfl) (by exact fun _ _ _ h => h) (Or.inl ⟨by rfl, ?_⟩) (by assumption) ?_
      rotate_left
      · intro w hSw; (try dsimp only at hSw); go_simp; try with_reducible rfl
      try simp only [Act.put, List.setIfInBounds_toArray, List.set_cons_zero, List.set_cons_succ]
      refine anyT_take (i := 5) (v := ?_) (by simp only [List.getElem?_toArray, List.getElem?_cons_succ, List.getElem?_cons_zero]; rfl) (by kernel_rfl) (by kernel_rfl) (by kernel_rfl) (by kernel_rfl) (by exact fun _ _ _ h => h) (Or.inl ⟨by rfl, ?_⟩) (by assumption) ?_
      rotate_left
      · intro w hSw; (try dsimp only at hSw); go_simp; try with_reducible rfl
      try simp only [Act.put, List.setIfInBounds_toArray, List.set_cons_zero, List.set_cons_succ]
      refine anyT_take (i := 6) (v := ?_) (by simp only [List.getElem?_toArray, List.getElem?_cons_succ, List.getElem?_cons_zero]; rfl) (by kernel_rfl) (by kernel_rfl) (by kernel_rfl) (by kernel_rfl) (by exact fun _ _ _ h => h) (Or.inl ⟨by rfl, ?_⟩) (by assumption) ?_
      rotate_left
      · intro w hSw; (try dsimp only at hSw); go_simp; try with_reducible rfl
      try simp only [Act.put, List.setIfInBounds_toArray, List.set_cons_zero, List.set_cons_succ]
      refine anyT_ready (rs := [1]) (by kernel_rfl) (by simp) (ReadyT.cons (by simp only [List.getElem?_toArray, List.getElem?_cons_succ, List.getElem?_cons_zero]; rfl) (fun K hK => ?_) ReadyT.nil)
      go_simp
      go_at_call 25
      refine (ref2_Shl _ _ _ _ 16 _ (D1.to (by with_reducible repeat (first | exact Below.refl _ _ | refine nxa ?_ _ | refine nxd ?_ _ | refine nxw ?_ | refine nx ?_ (by assumption)))) (by decide) (by omega)).mono ?_
      rintro e w2 ⟨A2, n2, c2, rfl, h2, hb2, hf2⟩
      go_simp
      refine hK.out _ _ ⟨cellB (show Below wr.heap.size wr _ from (by with_reducible repeat (first | exact Below.refl _ _ | refine nxa ?_ _ | refine nxd ?_ _ | refine nxw ?_ | refine nx ?_ (by assumption)))) cb, trivial⟩ (fun hHeld => ?_)
      clear hK K
      try simp only [Act.put, List.setIfInBounds_toArray, List.set_cons_zero, List.set_cons_succ]
      refine anyT_ready (rs := [7]) (by kernel_rfl) (by simp) (ReadyT.cons (by simp only [List.getElem?_toArray, List.getElem?_cons_succ, List.getElem?_cons_zero]; rfl) (fun K hK => ?_) ReadyT.nil)
      go_simp
      go_at_call 59
      refine (ref2_Small _ _ _ _ a 0 _ (DX.to (by exact nx hbl (by with_reducible repeat (first | exact Below.refl _ _ | refine nxa ?_ _ | refine nxd ?_ _ | refine nxw ?_ | refine nx ?_ (by assumption))))) (by omega) (by decide) (by omega)).mono ?_
      rintro e w3 ⟨A3, n3, c3, rfl, h3, hb3, hf3⟩
      go_simp
      refine hK.out _ _ ⟨cellB (show Below wr.heap.size wr _ from (by with_reducible repeat (first | exact Below.refl _ _ | refine nxa ?_ _ | refine nxd ?_ _ | refine nxw ?_ | refine nx ?_ (by assumption)))) cb, trivial⟩ (fun hHeld => ?_)
      clear hK K
      try simp only [Act.put, List.setIfInBounds_toArray, List.set_cons_zero, List.set_cons_succ]
      refine anyT_ready (rs := [8]) (by kernel_rfl) (by simp) (ReadyT.cons (by simp only [List.getElem?_toArray, List.getElem?_cons_succ, List.getElem?_cons_zero]; rfl) (fun K hK => ?_) ReadyT.nil)
      go_simp
      go_at_call 21
      (with_reducible refine (ref2_Add _ _ _ _ _ _ _ _ _ (h2.to (by with_reducible repeat (first | exact Below.refl _ _ | refine nxa ?_ _ | refine nxd ?_ _ | refine nxw ?_ | refine nx ?_ (by assumption)))) (h3.to (by with_reducible repeat (first | exact Below.refl _ _ | refine nxa ?_ _ | refine nxd ?_ _ | refine nxw ?_ | refine nx ?_ (by assumption)))) (by have := HN.out; have := h2.le_of (by decide) (n + n') (by have := HS.out; omega); omega) (by have := h3.le_of (by decide) (n + 1) (by omega); omega)).mono ?_)
      rintro e w4 ⟨A4, n4, c4, rfl, h4, hb4, hf4⟩
      go_simp
      refine hK.out _ _ ⟨cellB (show Below wr.heap.size wr _ from (by with_reducible repeat (first | exact Below.refl _ _ | refine nxa ?_ _ | refine nxd ?_ _ | refine nxw ?_ | refine nx ?_ (by assumption)))) cb, trivial⟩ (fun hHeld => ?_)
      clear hK K
      try simp only [Act.put, List.setIfInBounds_toArray, List.set_cons_zero, List.set_cons_succ]
      refine anyT_take (i := 9) (v := ?_) (by simp only [List.getElem?_toArray, List.getElem?_cons_succ, List.getElem?_cons_zero]; rfl) (by kernel_rfl) (by kernel_rfl) (by kernel_rfl) (by kernel_rfl) (by exact fun _ _ _ h => h) (Or.inl ⟨by rfl, ?_⟩) (by assumption) ?_
      rotate_left
      · intro w hSw; (try dsimp only at hSw); go_simp; try with_reducible rfl
      try simp only [Act.put, List.setIfInBounds_toArray, List.set_cons_zero, List.set_cons_succ]
      refine anyT_done (by kernel_rfl) ?_ _
      rw [HS.out] at h4
      have hw4 : Below wr.heap.size wr w4 := (by with_reducible repeat (first | exact Below.refl _ _ | refine nxa ?_ _ | refine nxd ?_ _ | refine nxw ?_ | refine nx ?_ (by assumption)))
      have hw3 : w.heap.size ≤ w3.heap.size := Nat.le_trans hbl.size (show Below wr.heap.size wr w3 from (by clear hw4; exact (by with_reducible repeat (first | exact Below.refl _ _ | refine nxa ?_ _ | refine nxd ?_ _ | refine nxw ?_ | refine nx ?_ (by assumption))))).size
      clear hb2 hb3 hb4 hHeld cb h2 h3 HN HS
      go_wp2_with fail
      go_roundw
      case rel => exact ⟨i, A4, n4, c4, by omega, rfl, rfl, h4, nx hbl hw4, hf4.mono hw3⟩
      case measure => simp [intOf]
end Go.Proofs.Ytfalfbidcebmgaa
