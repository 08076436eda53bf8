/- The walk of actuaryref03.Mul.
   The walk of ref04.DivMod: bit by bit. -/
import Derived.Test.YtihbpkljjmpkjaaKC
import Derived.Test.YtihbpkljjmpkjaaKD
import Derived.Test.YtihbpkljjmpkjaaKB
set_option linter.unusedVariables false
set_option linter.unusedSimpArgs false
namespace Go.Proofs.Ytihbpkljjmpkjaa
open Go.RowKit
set_option maxRecDepth 100000
theorem ref_up (b j y : Nat) : up b j y = dg b j y + b * up b (j + 1) y := by
  rw [← up_mod, ← up_succ]; exact (Nat.mod_add_div _ _).symm
theorem mul_lt_pow' {b x y n m : Nat} (hb : 0 < b) (hx : x < b ^ n) (hy : y < b ^ m) : x * y < b ^ (n + m) := by
  rw [Nat.pow_add]
  exact Nat.lt_of_le_of_lt (Nat.mul_le_mul_right _ (Nat.le_of_lt hx)) (Nat.mul_lt_mul_of_pos_left hy (by omega))
theorem NumAt.drew' {k : IntKind} {b : Nat} {w : World} {A : Option Addr} {n c x : Nat} (h : NumAt k b w A n c x) : NumAt k b w.drew A n c x := h
set_option maxHeartbeats 2000000 in
theorem ref3_Mul (A : Option Addr) (n c x : Nat) (A' : Option Addr) (n' c' y : Nat) (w : World) (h : NumAt .i64 65536 w A n c x) (h' : NumAt .i64 65536 w A' n' c' y) (hn : n ≤ 1000000000) (hn' : n' ≤ 1000000000) :
    Calls Try.prog 57 #[.slice A n c, .slice A' n' c'] w (RetRef 65536 w (x * y)) := by
  have m1 := h.1.max
  have m2 := h.1.cap
  have m3 := h'.1.max
  have m4 := h'.1.cap
  go_enter Try.func57, Try.ntmps57
  go_wp2_with fail
  go_loopw [5, 6] (fun o k wr => ∃ j A1 n1 c1, j ≤ n' ∧ k = .int .i64 ((j : Int) - 1) ∧ o = .slice A1 n1 c1 ∧ NumAt .i64 65536 wr A1 n1 c1 (x * up 65536 j y) ∧ Below w.heap.size w wr ∧ Fresh w.heap.size A1) (fun _ k _ => (intOf k + 1).toNat)
  case atStart => exact ⟨n', none, 0, 0, Nat.le_refl _, rfl, rfl, by rw [show up 65536 n' y = 0 from Nat.div_eq_of_lt h'.lt, Nat.mul_zero]; exact NumAt.nil _ _ _, Below.refl _ _, Fresh.none _⟩
  case round =>
    obtain ⟨j, A1, n1, c1, hj, rfl, rfl, h1, hbl, hf⟩ := hrel
    have hup : x * up 65536 j y ≤ x * y := Nat.mul_le_mul_left _ (up_le _ _ _)
    have hxy := mul_lt_pow' (b := 65536) (by decide) h.lt h'.lt
    have q1 := h1.le_of (by decide) (n + n') (by omega)
    rcases j with _ | i
    · rw [up_zero] at h1
      clear hup hxy
      go_wp2_with fail
      go_ret
      exact ⟨A1, n1, c1, rfl, h1, hbl, hf⟩
    · obtain ⟨a, ha⟩ : ∃ a, a = dg 65536 i y := ⟨_, rfl⟩
      have haw : a < 65536 := by rw [ha]; exact dg_lt (by decide) _ _
      have HS := Lib.hid (show x * up 65536 (i + 1) y * 2 ^ 16 + (x * a + 0) = x * up 65536 i y by rw [ref_up 65536 i y, ← ha, Nat.mul_add, Nat.mul_assoc, show (2 : Nat) ^ 16 = 65536 from rfl, Nat.mul_comm _ 65536]; omega)
      have hui : x * up 65536 i y ≤ x * y := Nat.mul_le_mul_left _ (up_le _ _ _)
      have hxa : x * a < 65536 ^ (n + 1) := by rw [Nat.pow_succ]; exact Nat.lt_of_le_of_lt (Nat.mul_le_mul_right _ (Nat.le_of_lt h.lt)) (Nat.mul_lt_mul_of_pos_left haw (by have := h.lt; omega))
      obtain ⟨g, o, rfl, hg, hcell⟩ := h'.1.at_ (by omega)
      have cb : wr.cell? ⟨g, o + i, none⟩ = some (.int .i64 (a : Int)) := by rw [ha]; exact (hbl.cell (by exact hg)).trans (hcell i (by omega))
      have iN : (i : Int) < (n' : Int) := by omega
      have ei : ((i + 1 : Nat) : Int) - 1 = (i : Int) := by omega
      rw [ei]
      have HN := Lib.hid (And.intro hn (And.intro hn' (And.intro q1 (And.intro hui hxy))))
      have q1a : n1 ≤ 4000000000 := by omega
      have D1 := h1.1
      have DX := h.1
      clear hcell ha hup ei hui hxy q1
      go_wp2_with fail
      refine wp_regionT (S := fun w' => w'.cell? ⟨g, o + i, none⟩ = some (.int .i64 (a : Int)) ∧ True) [] kR ⟨cellB (show Below wr.heap.size wr _ from bW) cb, trivial⟩ (fun hHeld => ?_)
      have hbd1 : Below wr.heap.size wr wr.drew := nxw (Below.refl _ _)
      generalize wr.drew = wd1 at hHeld hbd1 ⊢
      refine anyT_take (i := 0) (v := ?_) gO kR kR kR kR (by exact fun _ _ _ h => h) (Or.inl ⟨by rfl, ?_⟩) (by assumption) ?_
      rotate_left
      · intro w hSw; (try dsimp only at hSw); go_simp; try with_reducible rfl
      try simp only [Act.put, sX, sY, sZ]
      refine anyT_take (i := 2) (v := ?_) gO kR kR kR kR (by exact fun _ _ _ h => h) (Or.inl ⟨by rfl, ?_⟩) (by assumption) ?_
      rotate_left
      · intro w hSw; (try dsimp only at hSw); go_simp; try with_reducible rfl
      try simp only [Act.put, sX, sY, sZ]
      refine anyT_take (i := 3) (v := ?_) gO kR kR kR kR (by exact fun _ _ _ h => h) (Or.inl ⟨by rfl, ?_⟩) (by assumption) ?_
      rotate_left
      · intro w hSw; (try dsimp only at hSw); go_simp; try with_reducible rfl
      try simp only [Act.put, sX, sY, sZ]
      refine anyT_take (i := 4) (v := ?_) gO kR kR kR kR (by exact fun _ _ _ h => h) (Or.inl ⟨by rfl, ?_⟩) (by assumption) ?_
      rotate_left
      · intro w hSw; (try dsimp only at hSw); go_simp; try with_reducible rfl
      try simp only [Act.put, sX, sY, sZ]
      refine anyT_take (i := 5) (v := ?_) gO kR kR kR kR (by exact fun _ _ _ h => h) (Or.inl ⟨by rfl, ?_⟩) (by assumption) ?_
      rotate_left
      · intro w hSw; (try dsimp only at hSw); go_simp; try with_reducible rfl
      try simp only [Act.put, sX, sY, sZ]
      refine anyT_take (i := 6) (v := ?_) gO kR kR kR kR (by exact fun _ _ _ h => h) (Or.inl ⟨by rfl, ?_⟩) (by assumption) ?_
      rotate_left
      · intro w hSw; (try dsimp only at hSw); go_simp; try with_reducible rfl
      try simp only [Act.put, sX, sY, sZ]
      refine anyT_ready (rs := [1]) kR (by simp) (ReadyT.cons gO (fun K hK => ?_) ReadyT.nil)
      go_simp
      go_at_call 88
      refine (ref2_Shl _ _ _ _ 16 _ (D1.to bW) (by decide) (by omega)).mono ?_
      rintro e w2 ⟨A2, n2, c2, rfl, h2, hb2, hf2⟩
      go_simp
      refine hK.out _ _ ⟨cellB (show Below wr.heap.size wr _ from bW) cb, trivial⟩ (fun hHeld => ?_)
      clear hK K
      try simp only [Act.put, sX, sY, sZ]
      refine anyT_ready (rs := [7]) kR (by simp) (ReadyT.cons gO (fun K hK => ?_) ReadyT.nil)
      go_simp
      go_at_call 50
      refine (ref2_Small _ _ _ _ a 0 _ (DX.to (by exact nx hbl bW)) (by omega) (by decide) (by omega)).mono ?_
      rintro e w3 ⟨A3, n3, c3, rfl, h3, hb3, hf3⟩
      go_simp
      refine hK.out _ _ ⟨cellB (show Below wr.heap.size wr _ from bW) cb, trivial⟩ (fun hHeld => ?_)
      clear hK K
      try simp only [Act.put, sX, sY, sZ]
      refine anyT_ready (rs := [8]) kR (by simp) (ReadyT.cons gO (fun K hK => ?_) ReadyT.nil)
      go_simp
      go_at_call 45
      (with_reducible refine (ref2_Add _ _ _ _ _ _ _ _ _ (h2.to bW) (h3.to bW) (by have := HN.out; have := h2.le_of (by decide) (n + n') (by have := HS.out; omega); omega) (by have := h3.le_of (by decide) (n + 1) (by omega); omega)).mono ?_)
      rintro e w4 ⟨A4, n4, c4, rfl, h4, hb4, hf4⟩
      go_simp
      refine hK.out _ _ ⟨cellB (show Below wr.heap.size wr _ from bW) cb, trivial⟩ (fun hHeld => ?_)
      clear hK K
      try simp only [Act.put, sX, sY, sZ]
      refine anyT_take (i := 9) (v := ?_) gO kR kR kR kR (by exact fun _ _ _ h => h) (Or.inl ⟨by rfl, ?_⟩) (by assumption) ?_
      rotate_left
      · intro w hSw; (try dsimp only at hSw); go_simp; try with_reducible rfl
      try simp only [Act.put, sX, sY, sZ]
      refine anyT_done kR ?_ _
      rw [HS.out] at h4
      have hw4 : Below wr.heap.size wr w4 := bW
      have hw3 : w.heap.size ≤ w3.heap.size := Nat.le_trans hbl.size (show Below wr.heap.size wr w3 from (by clear hw4; exact bW)).size
      clear hb2 hb3 hb4 hHeld cb h2 h3 HN HS
      go_wp2_with fail
      go_roundw
      case rel => exact ⟨i, A4, n4, c4, by omega, rfl, rfl, h4, nx hbl hw4, hf4.mono hw3⟩
      case measure => simp [intOf]
end Go.Proofs.Ytihbpkljjmpkjaa
set_option linter.unusedVariables false
set_option linter.unusedSimpArgs false
namespace Go.Proofs.Ytihbpkljjmpkjaa
open Go.RowKit
set_option maxRecDepth 100000
def RetRef2 (w : World) (q r : Nat) (e : Ending) (w' : World) : Prop := ∃ A n c A' n' c', e = .returned (.tuple #[.slice A n c, .slice A' n' c']) ∧ NumAt .i64 65536 w' A n c q ∧ NumAt .i64 65536 w' A' n' c' r ∧ Below w.heap.size w w'
theorem divstep {X y b : Nat} (hy : 0 < y) (hb : b ≤ 1) :
    (y ≤ X % y * 2 + b → (2 * X + b) / y = X / y * 2 + 0 + 1 ∧ (2 * X + b) % y + y = X % y * 2 + b) ∧ (X % y * 2 + b < y → (2 * X + b) / y = X / y * 2 + 0 ∧ (2 * X + b) % y = X % y * 2 + b) := by
  have h1 : X = y * (X / y) + X % y := (Nat.div_add_mod X y).symm
  have h2 : X % y < y := Nat.mod_lt _ hy
  generalize X / y = q at *
  generalize X % y = r at *
  have e : 2 * X + b = (r * 2 + b) + y * (q * 2) := by rw [h1, Nat.mul_add, Nat.mul_comm q 2, Nat.mul_left_comm]; omega
  rw [e, Nat.add_mul_div_left _ _ hy, Nat.add_mul_mod_self_left]
  refine ⟨fun h => ?_, fun h => ?_⟩
  · have hd : (r * 2 + b) / y = 1 := Nat.div_eq_of_lt_le (by omega) (by omega)
    have hm := Nat.div_add_mod (r * 2 + b) y
    rw [hd] at hm ⊢
    omega
  · rw [Nat.div_eq_of_lt h, Nat.mod_eq_of_lt h]; omega
theorem bit_step (x j : Nat) : x / 2 ^ j = 2 * (x / 2 ^ (j + 1)) + x / 2 ^ j % 2 := by
  rw [Nat.pow_succ, ← Nat.div_div_eq_div_mul]; omega
set_option maxHeartbeats 4000000 in
theorem ref4_DivMod (A : Option Addr) (n c x : Nat) (A' : Option Addr) (n' c' y : Nat) (w : World) (h : NumAt .i64 65536 w A n c x) (h' : NumAt .i64 65536 w A' n' c' y) (hn : n ≤ 1000000000) (hn' : n' ≤ 1000000000) (hy : 0 < y) :
    Calls Try.prog 44 #[.slice A n c, .slice A' n' c'] w (RetRef2 w (x / y) (x % y)) := by
  have HX := Lib.hid (show x < 2 ^ blen x from blen_lt x)
  obtain ⟨L, hL⟩ : ∃ L, L = blen x := ⟨_, rfl⟩
  have HL := Lib.hid hL
  have lx : L ≤ 16 * n := by rw [hL]; exact blen_le_of_lt (by rw [Nat.pow_mul]; exact h.lt)
  clear hL
  go_enter Try.func44, Try.ntmps44
  go_wp2_with fail
  refine (ref2_Bits _ _ _ _ _ (h.to bW) (by omega)).mono ?_
  rw [← HL.out]
  rintro e w1 ⟨rfl, rfl⟩
  go_wp2_with fail
  go_loopw [6, 7, 8] (fun q r t wr => ∃ kk Aq nq cq Ar nr cr, kk ≤ L ∧ t = .int .i64 ((kk : Int) - 1) ∧ q = .slice Aq nq cq ∧ r = .slice Ar nr cr ∧ NumAt .i64 65536 wr Aq nq cq (x / 2 ^ kk / y) ∧ NumAt .i64 65536 wr Ar nr cr (x / 2 ^ kk % y) ∧ Below w.heap.size w wr) (fun _ _ t _ => (intOf t + 1).toNat)
  case atStart =>
    have h0 : x / 2 ^ L = 0 := Nat.div_eq_of_lt (by rw [HL.out]; exact HX.out)
    exact ⟨L, none, 0, 0, none, 0, 0, Nat.le_refl _, rfl, rfl, rfl, by rw [h0, Nat.zero_div]; exact NumAt.nil _ _ _, by rw [h0, Nat.zero_mod]; exact NumAt.nil _ _ _, Below.refl _ _⟩
  case round =>
    obtain ⟨kk, Aq, nq, cq, Ar, nr, cr, hk, rfl, rfl, rfl, hq, hr, hbw⟩ := hrel
    rcases kk with _ | j
    · rw [Nat.pow_zero, Nat.div_one] at hq hr
      go_wp2_with fail
      go_ret2
      exact ⟨_, _, _, _, _, _, rfl, hq, hr, hbw⟩
    · have ej : ((j + 1 : Nat) : Int) - 1 = (j : Int) := by omega
      rw [ej]
      clear ej
      have lq := hq.le_of (by decide) n (Nat.lt_of_le_of_lt (Nat.le_trans (Nat.div_le_self _ _) (Nat.div_le_self _ _)) h.lt)
      have lr := hr.le_of (by decide) n' (Nat.lt_trans (Nat.mod_lt _ hy) h'.lt)
      obtain ⟨X, hX⟩ : ∃ X, X = x / 2 ^ (j + 1) := ⟨_, rfl⟩
      obtain ⟨b, hb⟩ : ∃ b, b = x / 2 ^ j % 2 := ⟨_, rfl⟩
      have hb1 : b ≤ 1 := by omega
      have ES := Lib.hid (show x / 2 ^ j = 2 * X + b by rw [hX, hb]; exact bit_step x j)
      have HB := Lib.hid hb
      rw [← hX] at hq hr
      obtain ⟨s1, s2⟩ := divstep (X := X) hy hb1
      have fq : X / y * 2 + 0 < 65536 ^ (n + 1) := by have h1 := hq.lt; have h2 : 65536 ^ nq ≤ 65536 ^ n := Nat.pow_le_pow_right (by decide) lq; rw [Nat.pow_succ]; omega
      have fr : X % y * 2 + b < 65536 ^ (n' + 1) := by have h1 := hr.lt; have h2 : 65536 ^ nr ≤ 65536 ^ n' := Nat.pow_le_pow_right (by decide) lr; rw [Nat.pow_succ]; omega
      have fq1 : X / y * 2 + 0 + 1 < 65536 ^ (n + 1) := by have h1 := hq.lt; have h2 : 65536 ^ nq ≤ 65536 ^ n := Nat.pow_le_pow_right (by decide) lq; have h3 := Nat.pow_pos (n := n) (show 0 < 65536 by decide); rw [Nat.pow_succ]; omega
      clear hX hb
      by_cases hc : y ≤ X % y * 2 + b
      · obtain ⟨t1, t2⟩ := s1 hc
        rw [← ES.out] at t1 t2
        have T1 := Lib.hid t1
        have T2 := Lib.hid t2
        obtain ⟨v, hv, v0⟩ : ∃ v : Int, cmpI (X % y * 2 + b) y = v ∧ 0 ≤ v := ⟨_, rfl, by rcases Nat.lt_or_eq_of_le hc with h1 | h1; (rw [cmpI_gt h1]; decide); (rw [cmpI_eq h1.symm]; decide)⟩
        have HV := Lib.hid hv
        clear hv t1 t2 s1 s2 hc
        go_wp2_with fail
        refine (ref2_Bit _ _ _ _ j _ (h.to bW).1 (by omega)).mono ?_
        rw [← HB.out]
        rintro e w2 ⟨rfl, rfl⟩
        go_wp2_with fail
        refine (ref2_Small _ _ _ _ 2 b _ (hr.to bW).1 (by omega) (by omega) (by omega)).mono ?_
        rintro e w3 ⟨A3, n3, c3, rfl, h3, hb3, hf3⟩
        have l3 := h3.le_of (by decide) _ (fr)
        go_wp2_with fail
        refine (ref2_Small _ _ _ _ 2 0 _ (hq.to bW).1 (by omega) (by omega) (by omega)).mono ?_
        rintro e w4 ⟨A4, n4, c4, rfl, h4, hb4, hf4⟩
        have l4 := h4.le_of (by decide) _ (fq)
        go_wp2_with fail
        refine (ref2_Cmp _ _ _ _ _ _ _ _ _ (h3.to bW) (h'.to bW)).mono ?_
        rw [HV.out]
        rintro e w5 ⟨rfl, hb5⟩
        go_wp2_with fail
        refine (ref2_Sub _ _ _ (x / 2 ^ j % y) _ _ _ _ _ (show NumAt _ _ _ _ _ _ (x / 2 ^ j % y + y) from T2.out.symm ▸ (h3.to bW)) (h'.to bW) (by omega)).mono ?_
        rintro e w6 ⟨A6, n6, c6, rfl, h6, hb6, hf6⟩
        have l6 := h6.le_of (by decide) _ (Nat.lt_trans (Nat.mod_lt _ hy) h'.lt)
        go_wp2_with fail
        refine (ref2_Add_lit 1 _ _ _ _ _ _ _ (by first | rfl | simp) (h4.to bW) (by decide) (by decide) (by omega)).mono ?_
        rintro e w7 ⟨A7, n7, c7, rfl, h7, hb7, hf7⟩
        have l7 := h7.le_of (by decide) _ (fq1)
        go_wp2_with fail
        go_roundw
        case rel => exact ⟨j, _, _, _, _, _, _, by omega, rfl, rfl, rfl, by rw [T1.out]; exact h7.to bW, by skip; exact h6.to bW, bW⟩
        case measure => simp [intOf]
      · have hc := Nat.lt_of_not_le hc
        obtain ⟨t1, t2⟩ := s2 hc
        rw [← ES.out] at t1 t2
        have T1 := Lib.hid t1
        have T2 := Lib.hid t2
        obtain ⟨v, hv, v0⟩ : ∃ v : Int, cmpI (X % y * 2 + b) y = v ∧ ¬ 0 ≤ v := ⟨_, rfl, by rw [cmpI_lt hc]; decide⟩
        have HV := Lib.hid hv
        clear hv t1 t2 s1 s2 hc
        go_wp2_with fail
        refine (ref2_Bit _ _ _ _ j _ (h.to bW).1 (by omega)).mono ?_
        rw [← HB.out]
        rintro e w8 ⟨rfl, rfl⟩
        go_wp2_with fail
        refine (ref2_Small _ _ _ _ 2 b _ (hr.to bW).1 (by omega) (by omega) (by omega)).mono ?_
        rintro e w9 ⟨A9, n9, c9, rfl, h9, hb9, hf9⟩
        have l9 := h9.le_of (by decide) _ (fr)
        go_wp2_with fail
        refine (ref2_Small _ _ _ _ 2 0 _ (hq.to bW).1 (by omega) (by omega) (by omega)).mono ?_
        rintro e w10 ⟨A10, n10, c10, rfl, h10, hb10, hf10⟩
        have l10 := h10.le_of (by decide) _ (fq)
        go_wp2_with fail
        refine (ref2_Cmp _ _ _ _ _ _ _ _ _ (h9.to bW) (h'.to bW)).mono ?_
        rw [HV.out]
        rintro e w11 ⟨rfl, hb11⟩
        go_wp2_with fail
        go_roundw
        case rel => exact ⟨j, _, _, _, _, _, _, by omega, rfl, rfl, rfl, by rw [T1.out]; exact h10.to bW, by rw [T2.out]; exact h9.to bW, bW⟩
        case measure => simp [intOf]
end Go.Proofs.Ytihbpkljjmpkjaa
