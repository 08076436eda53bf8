/- The walk of prod.Mul.
   The walks of prod.Square and prod.Pow.
   The walks of prod.Of and prod.Sum: of a row of numbers. -/
import Derived.Deep.DeepCutAuto
import Derived.Test.YtflleaifmeiikaaKE
set_option linter.unusedVariables false
set_option linter.unusedSimpArgs false
namespace Go.Proofs.Ytflleaifmeiikaa
open Go.RowKit
set_option maxRecDepth 100000
def MulUpto (M : Nat) : Prop := ∀ (A : Option Addr) (n c x : Nat) (A' : Option Addr) (n' c' y : Nat) (w : World), NatAt w A n c x → NatAt w A' n' c' y → n + n' ≤ 17592186044416 → n < M → n' < M →
    Calls Try.prog 27 #[.agg #[.slice A n c], .agg #[.slice A' n' c']] w (RetNat w (x * y))
theorem use_mul {M : Nat} (IH : Hid (MulUpto M)) (A : Option Addr) (n c x : Nat) (A' : Option Addr) (n' c' y : Nat) (w : World) (h : NatAt w A n c x) (h' : NatAt w A' n' c' y) (hn : n + n' ≤ 17592186044416) (h1 : n < M) (h2 : n' < M) :
    Calls Try.prog 27 #[.agg #[.slice A n c], .agg #[.slice A' n' c']] w (RetNat w (x * y)) := IH.out A n c x A' n' c' y w h h' hn h1 h2
/-- two locals that a region which draws makes and fills -/
def Two (w0 : World) (T x y : Nat) (p q : Value) (w : World) : Prop := ∃ g A n c g' A' n' c', p = .pointer (some ⟨g, 0, none⟩) ∧ q = .pointer (some ⟨g', 0, none⟩) ∧ Loc w g T A n c x ∧ Loc w g' T A' n' c' y ∧ g ≠ g' ∧ Below w0.heap.size w0 w
def One (w0 : World) (T x : Nat) (p : Value) (w : World) : Prop := ∃ g A n c, p = .pointer (some ⟨g, 0, none⟩) ∧ Loc w g T A n c x ∧ Below w0.heap.size w0 w
theorem mul_facts {x y n n' t : Nat} (hx : x < W ^ n) (hy : y < W ^ n') (h1 : n ≤ 2 * t) (h2 : n' ≤ 2 * t) (h3 : 2 * t ≤ n + n') :
    (low W t x < W ^ t ∧ low W t y < W ^ t) ∧ (up W t x < W ^ t ∧ up W t y < W ^ t) ∧ (low W t x ≤ x ∧ low W t y ≤ y) ∧ (up W t x ≤ x ∧ up W t y ≤ y) ∧ (low W t x + up W t x < W ^ (t + 1) ∧ low W t x + up W t x ≤ x) ∧ (low W t y + up W t y < W ^ (t + 1) ∧ low W t y + up W t y ≤ y) ∧
    (low W t x + up W t x) * (low W t y + up W t y) < W ^ (n + n') ∧
    ((low W t x + up W t x) * (low W t y + up W t y) - (low W t x * low W t y + up W t x * up W t y)) * W ^ t < W ^ (n + n') ∧ up W t x * up W t y * W ^ (2 * t) < W ^ (n + n') ∧
    low W t x * low W t y + up W t x * up W t y ≤ (low W t x + up W t x) * (low W t y + up W t y) ∧
    low W t x * low W t y + (((low W t x + up W t x) * (low W t y + up W t y) - (low W t x * low W t y + up W t x * up W t y)) * W ^ t + up W t x * up W t y * W ^ (2 * t)) = x * y := by
  have hxy := mul_lt_pow hx hy
  have ex := low_add_up W t x
  have ey := low_add_up W t y
  have a1 := low_bound W_pos t x
  have a2 := low_bound W_pos t y
  have u : ∀ {z m : Nat}, z < W ^ m → m ≤ 2 * t → up W t z < W ^ t := fun hz hm => by
    unfold up
    apply Nat.div_lt_of_lt_mul
    rw [← Nat.pow_add]
    exact Nat.lt_of_lt_of_le hz (Nat.pow_le_pow_right W_pos (by omega))
  have b1 := u hx h1
  have b2 := u hy h2
  have hp : 1 ≤ W ^ t := Nat.pow_pos W_pos
  have c1 : up W t x * 1 ≤ up W t x * W ^ t := Nat.mul_le_mul_left _ hp
  have c2 : up W t y * 1 ≤ up W t y * W ^ t := Nat.mul_le_mul_left _ hp
  have hs : ∀ {u v : Nat}, u < W ^ t → v < W ^ t → u + v < W ^ (t + 1) := fun h h' => by
    have : W ^ t * 2 ≤ W ^ t * W := Nat.mul_le_mul_left _ (by decide)
    rw [Nat.pow_succ]; omega
  have d1 : low W t x + up W t x ≤ x := by omega
  have d2 : low W t y + up W t y ≤ y := by omega
  have e1 := kara (low W t x) (up W t x) (low W t y) (up W t y) (W ^ t)
  have e2 := kara_mid (low W t x) (up W t x) (low W t y) (up W t y) (W ^ t)
  have e3 := kara_hi (low W t x) (up W t x) (low W t y) (up W t y) (W ^ t)
  rw [ex, ey] at e1 e2 e3
  have e4 : W ^ (2 * t) = W ^ t * W ^ t := by rw [Nat.two_mul, Nat.pow_add]
  rw [e4]
  refine ⟨⟨a1, a2⟩, ⟨b1, b2⟩, ⟨by omega, by omega⟩, ⟨by omega, by omega⟩, ⟨hs a1 b1, d1⟩, ⟨hs a2 b2, d2⟩, ?_, ?_, ?_, kara_le _ _ _ _, e1⟩
  · exact Nat.lt_of_le_of_lt (Nat.mul_le_mul d1 d2) hxy
  · exact Nat.lt_of_le_of_lt e2 hxy
  · exact Nat.lt_of_le_of_lt e3 hxy
theorem lt_of_shift {a t m : Nat} (h : a * W ^ t < W ^ m) (ht : t ≤ m) : a < W ^ (m - t) := by
  have : a * W ^ t < W ^ (m - t) * W ^ t := by rw [← Nat.pow_add, show m - t + t = m by omega]; exact h
  exact Nat.lt_of_mul_lt_mul_right this
set_option maxHeartbeats 4000000 in
theorem mul_s (A : Option Addr) (n c x : Nat) (A' : Option Addr) (n' c' y : Nat) (w : World) (h : NatAt w A n c x) (h' : NatAt w A' n' c' y) (hn : n + n' ≤ 17592186044416)
    (hsm : min n n' < 8) (M : Nat) (hM : max n n' ≤ M) (IH : Hid (MulUpto M)) :
    Calls Try.prog 27 #[.agg #[.slice A n c], .agg #[.slice A' n' c']] w (RetNat w (x * y)) := by
  have B0 := ((Blk1.new w 25 (.slice A n c)).alloc (.cells #[.slice A' n' c'] 25)).alloc (.cells #[.slice none 0 0] 25)
  have B1 := (Blk1.new (w.alloc (.cells #[.slice A n c] 25)) 25 (.slice A' n' c')).alloc (.cells #[.slice none 0 0] 25)
  have B2 := Blk1.new ((w.alloc (.cells #[.slice A n c] 25)).alloc (.cells #[.slice A' n' c'] 25)) 25 (.slice none 0 0)
  simp only [World.size_alloc] at B1 B2
  have hbe : Below w.heap.size w (((w.alloc (.cells #[.slice A n c] 25)).alloc (.cells #[.slice A' n' c'] 25)).alloc (.cells #[.slice none 0 0] 25)) := bW
  go_enter Try.func27, Try.ntmps27
  go_wp2_with fail
  generalize (((w.alloc (.cells #[.slice A n c] 25)).alloc (.cells #[.slice A' n' c'] 25)).alloc (.cells #[.slice none 0 0] 25)) = we at B0 B1 B2 hbe ⊢
  have s0 := B2.lt
  have hx := h.to hbe
  have hy := h'.to hbe
  go_cut [20] (fun b wc => b = .bool true ∧ Below we.heap.size we wc)
  case first =>
    rcases Nat.lt_trichotomy n n' with hr | hr | hr
    · skip
      have hl1 : (n : Int) < (n' : Int) := by omega
      have hl2 : ¬ n' < n := by omega
      have hsI : (n : Int) < 8 := by omega
      have CB0 := (show Blk1 we _ _ _ from B0.to bW).cell
      have CB1 := (show Blk1 we _ _ _ from B1.to bW).cell
      have KP1 : ∀ w', Below we.heap.size we w' → w'.cell? ⟨w.heap.size, 0, none⟩ = some (.slice A n c) ∧ w'.cell? ⟨w.heap.size + 1, 0, none⟩ = some (.slice A' n' c') ∧ True := fun w' hw' => ⟨cellB hw' CB0, cellB hw' CB1, trivial⟩
      refine wp_regionT (S := fun w' => w'.cell? ⟨w.heap.size, 0, none⟩ = some (.slice A n c) ∧ w'.cell? ⟨w.heap.size + 1, 0, none⟩ = some (.slice A' n' c') ∧ True) [] kR (KP1 _ bW) (fun hHeld => ?_)
      have hbd1 : Below we.heap.size we we.drew := nxw (Below.refl _ _)
      generalize we.drew = wd1 at hHeld hbd1 ⊢
      refine anyT_take (i := 0) (v := ?_) gO kR kR kR kR (by exact fun _ _ _ h => h) (Or.inl ⟨by rfl, ?_⟩) (by assumption) ?_
      rotate_left
      · intro w hSw; (try dsimp only at hSw); go_simp; try with_reducible rfl
      try simp only [Act.put, sX, sY, sZ]
      refine anyT_take (i := 2) (v := ?_) gO kR kR kR kR (by exact fun _ _ _ h => h) (Or.inl ⟨by rfl, ?_⟩) (by assumption) ?_
      rotate_left
      · intro w hSw; (try dsimp only at hSw); go_simp; try with_reducible rfl
      try simp only [Act.put, sX, sY, sZ]
      refine anyT_ready (rs := [1]) kR (by simp) (ReadyT.cons gO (fun K hK => ?_) ReadyT.nil)
      go_simp
      go_at_call 43
      (with_reducible refine (nat_Len A n c _).mono ?_)
      rintro e w1 ⟨rfl, hb1⟩
      go_simp
      refine hK.out _ _ (KP1 _ bW) (fun hHeld => ?_)
      clear hK K
      try simp only [Act.put, sX, sY, sZ]
      refine anyT_ready (rs := [3]) kR (by simp) (ReadyT.cons gO (fun K hK => ?_) ReadyT.nil)
      go_simp
      go_at_call 43
      (with_reducible refine (nat_Len A' n' c' _).mono ?_)
      rintro e w2 ⟨rfl, hb2⟩
      go_simp
      refine hK.out _ _ (KP1 _ bW) (fun hHeld => ?_)
      clear hK K
      try simp only [Act.put, sX, sY, sZ]
      refine anyT_take (i := 4) (v := ?_) gO kR kR kR kR (by exact fun _ _ _ h => h) (Or.inl ⟨by rfl, ?_⟩) (by assumption) ?_
      rotate_left
      · intro w hSw; (try dsimp only at hSw); go_simp; try with_reducible rfl
      try simp only [Act.put, sX, sY, sZ]
      refine anyT_take (i := 5) (v := ?_) gO kR kR kR kR (by exact fun _ _ _ h => h) (Or.inl ⟨by rfl, ?_⟩) (by assumption) ?_
      rotate_left
      · intro w hSw; (try dsimp only at hSw); go_simp; try with_reducible rfl
      try simp only [Act.put, sX, sY, sZ]
      refine anyT_done kR ?_ _
      skip
      go_wp2_with fail
      go_meet
      exact ⟨by simp <;> omega, bW⟩
    · subst hr
      have hsI : (n : Int) < 8 := by omega
      have CB0 := (show Blk1 we _ _ _ from B0.to bW).cell
      have CB1 := (show Blk1 we _ _ _ from B1.to bW).cell
      have KP2 : ∀ w', Below we.heap.size we w' → w'.cell? ⟨w.heap.size, 0, none⟩ = some (.slice A n c) ∧ w'.cell? ⟨w.heap.size + 1, 0, none⟩ = some (.slice A' n c') ∧ True := fun w' hw' => ⟨cellB hw' CB0, cellB hw' CB1, trivial⟩
      refine wp_regionT (S := fun w' => w'.cell? ⟨w.heap.size, 0, none⟩ = some (.slice A n c) ∧ w'.cell? ⟨w.heap.size + 1, 0, none⟩ = some (.slice A' n c') ∧ True) [] kR (KP2 _ bW) (fun hHeld => ?_)
      have hbd2 : Below we.heap.size we we.drew := nxw (Below.refl _ _)
      generalize we.drew = wd2 at hHeld hbd2 ⊢
      refine anyT_take (i := 0) (v := ?_) gO kR kR kR kR (by exact fun _ _ _ h => h) (Or.inl ⟨by rfl, ?_⟩) (by assumption) ?_
      rotate_left
      · intro w hSw; (try dsimp only at hSw); go_simp; try with_reducible rfl
      try simp only [Act.put, sX, sY, sZ]
      refine anyT_take (i := 2) (v := ?_) gO kR kR kR kR (by exact fun _ _ _ h => h) (Or.inl ⟨by rfl, ?_⟩) (by assumption) ?_
      rotate_left
      · intro w hSw; (try dsimp only at hSw); go_simp; try with_reducible rfl
      try simp only [Act.put, sX, sY, sZ]
      refine anyT_ready (rs := [1]) kR (by simp) (ReadyT.cons gO (fun K hK => ?_) ReadyT.nil)
      go_simp
      go_at_call 43
      (with_reducible refine (nat_Len A n c _).mono ?_)
      rintro e w1 ⟨rfl, hb1⟩
      go_simp
      refine hK.out _ _ (KP2 _ bW) (fun hHeld => ?_)
      clear hK K
      try simp only [Act.put, sX, sY, sZ]
      refine anyT_ready (rs := [3]) kR (by simp) (ReadyT.cons gO (fun K hK => ?_) ReadyT.nil)
      go_simp
      go_at_call 43
      (with_reducible refine (nat_Len A' n c' _).mono ?_)
      rintro e w2 ⟨rfl, hb2⟩
      go_simp
      refine hK.out _ _ (KP2 _ bW) (fun hHeld => ?_)
      clear hK K
      try simp only [Act.put, sX, sY, sZ]
      refine anyT_take (i := 4) (v := ?_) gO kR kR kR kR (by exact fun _ _ _ h => h) (Or.inl ⟨by rfl, ?_⟩) (by assumption) ?_
      rotate_left
      · intro w hSw; (try dsimp only at hSw); go_simp; try with_reducible rfl
      try simp only [Act.put, sX, sY, sZ]
      refine anyT_take (i := 5) (v := ?_) gO kR kR kR kR (by exact fun _ _ _ h => h) (Or.inl ⟨by rfl, ?_⟩) (by assumption) ?_
      rotate_left
      · intro w hSw; (try dsimp only at hSw); go_simp; try with_reducible rfl
      try simp only [Act.put, sX, sY, sZ]
      refine anyT_done kR ?_ _
      skip
      go_wp2_with fail
      go_meet
      exact ⟨by simp <;> omega, bW⟩
    · skip
      have hl1 : (n' : Int) < (n : Int) := by omega
      have hl2 : ¬ n < n' := by omega
      have hl3 : ¬ (n : Int) < (n' : Int) := by omega
      have hsI : (n' : Int) < 8 := by omega
      have CB0 := (show Blk1 we _ _ _ from B0.to bW).cell
      have CB1 := (show Blk1 we _ _ _ from B1.to bW).cell
      have KP3 : ∀ w', Below we.heap.size we w' → w'.cell? ⟨w.heap.size, 0, none⟩ = some (.slice A n c) ∧ w'.cell? ⟨w.heap.size + 1, 0, none⟩ = some (.slice A' n' c') ∧ True := fun w' hw' => ⟨cellB hw' CB0, cellB hw' CB1, trivial⟩
      refine wp_regionT (S := fun w' => w'.cell? ⟨w.heap.size, 0, none⟩ = some (.slice A n c) ∧ w'.cell? ⟨w.heap.size + 1, 0, none⟩ = some (.slice A' n' c') ∧ True) [] kR (KP3 _ bW) (fun hHeld => ?_)
      have hbd3 : Below we.heap.size we we.drew := nxw (Below.refl _ _)
      generalize we.drew = wd3 at hHeld hbd3 ⊢
      refine anyT_take (i := 0) (v := ?_) gO kR kR kR kR (by exact fun _ _ _ h => h) (Or.inl ⟨by rfl, ?_⟩) (by assumption) ?_
      rotate_left
      · intro w hSw; (try dsimp only at hSw); go_simp; try with_reducible rfl
      try simp only [Act.put, sX, sY, sZ]
      refine anyT_take (i := 2) (v := ?_) gO kR kR kR kR (by exact fun _ _ _ h => h) (Or.inl ⟨by rfl, ?_⟩) (by assumption) ?_
      rotate_left
      · intro w hSw; (try dsimp only at hSw); go_simp; try with_reducible rfl
      try simp only [Act.put, sX, sY, sZ]
      refine anyT_ready (rs := [1]) kR (by simp) (ReadyT.cons gO (fun K hK => ?_) ReadyT.nil)
      go_simp
      go_at_call 43
      (with_reducible refine (nat_Len A n c _).mono ?_)
      rintro e w1 ⟨rfl, hb1⟩
      go_simp
      refine hK.out _ _ (KP3 _ bW) (fun hHeld => ?_)
      clear hK K
      try simp only [Act.put, sX, sY, sZ]
      refine anyT_ready (rs := [3]) kR (by simp) (ReadyT.cons gO (fun K hK => ?_) ReadyT.nil)
      go_simp
      go_at_call 43
      (with_reducible refine (nat_Len A' n' c' _).mono ?_)
      rintro e w2 ⟨rfl, hb2⟩
      go_simp
      refine hK.out _ _ (KP3 _ bW) (fun hHeld => ?_)
      clear hK K
      try simp only [Act.put, sX, sY, sZ]
      refine anyT_take (i := 4) (v := ?_) gO kR kR kR kR (by exact fun _ _ _ h => h) (Or.inl ⟨by rfl, ?_⟩) (by assumption) ?_
      rotate_left
      · intro w hSw; (try dsimp only at hSw); go_simp; try with_reducible rfl
      try simp only [Act.put, sX, sY, sZ]
      refine anyT_take (i := 5) (v := ?_) gO kR kR kR kR (by exact fun _ _ _ h => h) (Or.inl ⟨by rfl, ?_⟩) (by assumption) ?_
      rotate_left
      · intro w hSw; (try dsimp only at hSw); go_simp; try with_reducible rfl
      try simp only [Act.put, sX, sY, sZ]
      refine anyT_done kR ?_ _
      skip
      go_wp2_with fail
      go_meet
      exact ⟨by simp <;> omega, bW⟩
  case rest =>
    rename World => w2
    obtain ⟨rfl, hbl⟩ := hcut
    have c0 := (B0.to hbl).cell
    have c1 := (B1.to hbl).cell
    go_wp2_with fail
    refine (prod_school A n c x A' n' c' y _ (hx.to hbl) (hy.to hbl) hn).mono ?_
    rintro e w3 ⟨A2, n2, c2, rfl, h2, hb3⟩
    have Y := (B2.to hbl).to hb3
    obtain ⟨l1, hb⟩ := store1 (w0 := w) (nx hbe (nx hbl hb3)) (by show w.heap.size ≤ w.heap.size + 1 + 1; omega) Y h2
    have c6 := Y.cell
    have f6 := Y.free
    have e1 := l1.1.cell
    clear hb3 c0 c1
    go_wp2_with fail
    exact bodyPost_ret (v := .agg #[.slice A2 n2 c2]) (by simp [results, Try.results27, go_sem, e1]) rfl ⟨A2, n2, c2, rfl, l1.2, hb⟩
set_option maxHeartbeats 4000000 in
theorem mul_g (A : Option Addr) (n c x : Nat) (A' : Option Addr) (n' c' y : Nat) (w : World) (h : NatAt w A n c x) (h' : NatAt w A' n' c' y) (hn : n + n' ≤ 17592186044416)
    (hsm : 8 ≤ min n n') (M : Nat) (hM : max n n' ≤ M) (IH : Hid (MulUpto M)) :
    Calls Try.prog 27 #[.agg #[.slice A n c], .agg #[.slice A' n' c']] w (RetNat w (x * y)) := by
  have B0 := ((Blk1.new w 25 (.slice A n c)).alloc (.cells #[.slice A' n' c'] 25)).alloc (.cells #[.slice none 0 0] 25)
  have B1 := (Blk1.new (w.alloc (.cells #[.slice A n c] 25)) 25 (.slice A' n' c')).alloc (.cells #[.slice none 0 0] 25)
  have B2 := Blk1.new ((w.alloc (.cells #[.slice A n c] 25)).alloc (.cells #[.slice A' n' c'] 25)) 25 (.slice none 0 0)
  simp only [World.size_alloc] at B1 B2
  have hbe : Below w.heap.size w (((w.alloc (.cells #[.slice A n c] 25)).alloc (.cells #[.slice A' n' c'] 25)).alloc (.cells #[.slice none 0 0] 25)) := bW
  go_enter Try.func27, Try.ntmps27
  go_wp2_with fail
  generalize (((w.alloc (.cells #[.slice A n c] 25)).alloc (.cells #[.slice A' n' c'] 25)).alloc (.cells #[.slice none 0 0] 25)) = we at B0 B1 B2 hbe ⊢
  have s0 := B2.lt
  have hx := h.to hbe
  have hy := h'.to hbe
  go_cut [20] (fun b wc => b = .bool false ∧ Below we.heap.size we wc)
  case first =>
    rcases Nat.lt_trichotomy n n' with hr | hr | hr
    · skip
      have hl1 : (n : Int) < (n' : Int) := by omega
      have hl2 : ¬ n' < n := by omega
      have hsI : ¬ (n : Int) < 8 := by omega
      have CB0 := (show Blk1 we _ _ _ from B0.to bW).cell
      have CB1 := (show Blk1 we _ _ _ from B1.to bW).cell
      have KP1 : ∀ w', Below we.heap.size we w' → w'.cell? ⟨w.heap.size, 0, none⟩ = some (.slice A n c) ∧ w'.cell? ⟨w.heap.size + 1, 0, none⟩ = some (.slice A' n' c') ∧ True := fun w' hw' => ⟨cellB hw' CB0, cellB hw' CB1, trivial⟩
      refine wp_regionT (S := fun w' => w'.cell? ⟨w.heap.size, 0, none⟩ = some (.slice A n c) ∧ w'.cell? ⟨w.heap.size + 1, 0, none⟩ = some (.slice A' n' c') ∧ True) [] kR (KP1 _ bW) (fun hHeld => ?_)
      have hbd1 : Below we.heap.size we we.drew := nxw (Below.refl _ _)
      generalize we.drew = wd1 at hHeld hbd1 ⊢
      refine anyT_take (i := 0) (v := ?_) gO kR kR kR kR (by exact fun _ _ _ h => h) (Or.inl ⟨by rfl, ?_⟩) (by assumption) ?_
      rotate_left
      · intro w hSw; (try dsimp only at hSw); go_simp; try with_reducible rfl
      try simp only [Act.put, sX, sY, sZ]
      refine anyT_take (i := 2) (v := ?_) gO kR kR kR kR (by exact fun _ _ _ h => h) (Or.inl ⟨by rfl, ?_⟩) (by assumption) ?_
      rotate_left
      · intro w hSw; (try dsimp only at hSw); go_simp; try with_reducible rfl
      try simp only [Act.put, sX, sY, sZ]
      refine anyT_ready (rs := [1]) kR (by simp) (ReadyT.cons gO (fun K hK => ?_) ReadyT.nil)
      go_simp
      go_at_call 43
      (with_reducible refine (nat_Len A n c _).mono ?_)
      rintro e w1 ⟨rfl, hb1⟩
      go_simp
      refine hK.out _ _ (KP1 _ bW) (fun hHeld => ?_)
      clear hK K
      try simp only [Act.put, sX, sY, sZ]
      refine anyT_ready (rs := [3]) kR (by simp) (ReadyT.cons gO (fun K hK => ?_) ReadyT.nil)
      go_simp
      go_at_call 43
      (with_reducible refine (nat_Len A' n' c' _).mono ?_)
      rintro e w2 ⟨rfl, hb2⟩
      go_simp
      refine hK.out _ _ (KP1 _ bW) (fun hHeld => ?_)
      clear hK K
      try simp only [Act.put, sX, sY, sZ]
      refine anyT_take (i := 4) (v := ?_) gO kR kR kR kR (by exact fun _ _ _ h => h) (Or.inl ⟨by rfl, ?_⟩) (by assumption) ?_
      rotate_left
      · intro w hSw; (try dsimp only at hSw); go_simp; try with_reducible rfl
      try simp only [Act.put, sX, sY, sZ]
      refine anyT_take (i := 5) (v := ?_) gO kR kR kR kR (by exact fun _ _ _ h => h) (Or.inl ⟨by rfl, ?_⟩) (by assumption) ?_
      rotate_left
      · intro w hSw; (try dsimp only at hSw); go_simp; try with_reducible rfl
      try simp only [Act.put, sX, sY, sZ]
      refine anyT_done kR ?_ _
      skip
      go_wp2_with fail
      go_meet
      exact ⟨by simp <;> omega, bW⟩
    · subst hr
      have hsI : ¬ (n : Int) < 8 := by omega
      have CB0 := (show Blk1 we _ _ _ from B0.to bW).cell
      have CB1 := (show Blk1 we _ _ _ from B1.to bW).cell
      have KP2 : ∀ w', Below we.heap.size we w' → w'.cell? ⟨w.heap.size, 0, none⟩ = some (.slice A n c) ∧ w'.cell? ⟨w.heap.size + 1, 0, none⟩ = some (.slice A' n c') ∧ True := fun w' hw' => ⟨cellB hw' CB0, cellB hw' CB1, trivial⟩
      refine wp_regionT (S := fun w' => w'.cell? ⟨w.heap.size, 0, none⟩ = some (.slice A n c) ∧ w'.cell? ⟨w.heap.size + 1, 0, none⟩ = some (.slice A' n c') ∧ True) [] kR (KP2 _ bW) (fun hHeld => ?_)
      have hbd2 : Below we.heap.size we we.drew := nxw (Below.refl _ _)
      generalize we.drew = wd2 at hHeld hbd2 ⊢
      refine anyT_take (i := 0) (v := ?_) gO kR kR kR kR (by exact fun _ _ _ h => h) (Or.inl ⟨by rfl, ?_⟩) (by assumption) ?_
      rotate_left
      · intro w hSw; (try dsimp only at hSw); go_simp; try with_reducible rfl
      try simp only [Act.put, sX, sY, sZ]
      refine anyT_take (i := 2) (v := ?_) gO kR kR kR kR (by exact fun _ _ _ h => h) (Or.inl ⟨by rfl, ?_⟩) (by assumption) ?_
      rotate_left
      · intro w hSw; (try dsimp only at hSw); go_simp; try with_reducible rfl
      try simp only [Act.put, sX, sY, sZ]
      refine anyT_ready (rs := [1]) kR (by simp) (ReadyT.cons gO (fun K hK => ?_) ReadyT.nil)
      go_simp
      go_at_call 43
      (with_reducible refine (nat_Len A n c _).mono ?_)
      rintro e w1 ⟨rfl, hb1⟩
      go_simp
      refine hK.out _ _ (KP2 _ bW) (fun hHeld => ?_)
      clear hK K
      try simp only [Act.put, sX, sY, sZ]
      refine anyT_ready (rs := [3]) kR (by simp) (ReadyT.cons gO (fun K hK => ?_) ReadyT.nil)
      go_simp
      go_at_call 43
      (with_reducible refine (nat_Len A' n c' _).mono ?_)
      rintro e w2 ⟨rfl, hb2⟩
      go_simp
      refine hK.out _ _ (KP2 _ bW) (fun hHeld => ?_)
      clear hK K
      try simp only [Act.put, sX, sY, sZ]
      refine anyT_take (i := 4) (v := ?_) gO kR kR kR kR (by exact fun _ _ _ h => h) (Or.inl ⟨by rfl, ?_⟩) (by assumption) ?_
      rotate_left
      · intro w hSw; (try dsimp only at hSw); go_simp; try with_reducible rfl
      try simp only [Act.put, sX, sY, sZ]
      refine anyT_take (i := 5) (v := ?_) gO kR kR kR kR (by exact fun _ _ _ h => h) (Or.inl ⟨by rfl, ?_⟩) (by assumption) ?_
      rotate_left
      · intro w hSw; (try dsimp only at hSw); go_simp; try with_reducible rfl
      try simp only [Act.put, sX, sY, sZ]
      refine anyT_done kR ?_ _
      skip
      go_wp2_with fail
      go_meet
      exact ⟨by simp <;> omega, bW⟩
    · skip
      have hl1 : (n' : Int) < (n : Int) := by omega
      have hl2 : ¬ n < n' := by omega
      have hl3 : ¬ (n : Int) < (n' : Int) := by omega
      have hsI : ¬ (n' : Int) < 8 := by omega
      have CB0 := (show Blk1 we _ _ _ from B0.to bW).cell
      have CB1 := (show Blk1 we _ _ _ from B1.to bW).cell
      have KP3 : ∀ w', Below we.heap.size we w' → w'.cell? ⟨w.heap.size, 0, none⟩ = some (.slice A n c) ∧ w'.cell? ⟨w.heap.size + 1, 0, none⟩ = some (.slice A' n' c') ∧ True := fun w' hw' => ⟨cellB hw' CB0, cellB hw' CB1, trivial⟩
      refine wp_regionT (S := fun w' => w'.cell? ⟨w.heap.size, 0, none⟩ = some (.slice A n c) ∧ w'.cell? ⟨w.heap.size + 1, 0, none⟩ = some (.slice A' n' c') ∧ True) [] kR (KP3 _ bW) (fun hHeld => ?_)
      have hbd3 : Below we.heap.size we we.drew := nxw (Below.refl _ _)
      generalize we.drew = wd3 at hHeld hbd3 ⊢
      refine anyT_take (i := 0) (v := ?_) gO kR kR kR kR (by exact fun _ _ _ h => h) (Or.inl ⟨by rfl, ?_⟩) (by assumption) ?_
      rotate_left
      · intro w hSw; (try dsimp only at hSw); go_simp; try with_reducible rfl
      try simp only [Act.put, sX, sY, sZ]
      refine anyT_take (i := 2) (v := ?_) gO kR kR kR kR (by exact fun _ _ _ h => h) (Or.inl ⟨by rfl, ?_⟩) (by assumption) ?_
      rotate_left
      · intro w hSw; (try dsimp only at hSw); go_simp; try with_reducible rfl
      try simp only [Act.put, sX, sY, sZ]
      refine anyT_ready (rs := [1]) kR (by simp) (ReadyT.cons gO (fun K hK => ?_) ReadyT.nil)
      go_simp
      go_at_call 43
      (with_reducible refine (nat_Len A n c _).mono ?_)
      rintro e w1 ⟨rfl, hb1⟩
      go_simp
      refine hK.out _ _ (KP3 _ bW) (fun hHeld => ?_)
      clear hK K
      try simp only [Act.put, sX, sY, sZ]
      refine anyT_ready (rs := [3]) kR (by simp) (ReadyT.cons gO (fun K hK => ?_) ReadyT.nil)
      go_simp
      go_at_call 43
      (with_reducible refine (nat_Len A' n' c' _).mono ?_)
      rintro e w2 ⟨rfl, hb2⟩
      go_simp
      refine hK.out _ _ (KP3 _ bW) (fun hHeld => ?_)
      clear hK K
      try simp only [Act.put, sX, sY, sZ]
      refine anyT_take (i := 4) (v := ?_) gO kR kR kR kR (by exact fun _ _ _ h => h) (Or.inl ⟨by rfl, ?_⟩) (by assumption) ?_
      rotate_left
      · intro w hSw; (try dsimp only at hSw); go_simp; try with_reducible rfl
      try simp only [Act.put, sX, sY, sZ]
      refine anyT_take (i := 5) (v := ?_) gO kR kR kR kR (by exact fun _ _ _ h => h) (Or.inl ⟨by rfl, ?_⟩) (by assumption) ?_
      rotate_left
      · intro w hSw; (try dsimp only at hSw); go_simp; try with_reducible rfl
      try simp only [Act.put, sX, sY, sZ]
      refine anyT_done kR ?_ _
      skip
      go_wp2_with fail
      go_meet
      exact ⟨by simp <;> omega, bW⟩
  case rest =>
    rename World => w2
    obtain ⟨rfl, hbl⟩ := hcut
    have c0 := (B0.to hbl).cell
    have c1 := (B1.to hbl).cell
    go_wp2_with fail
    obtain ⟨t, ht⟩ : ∃ t, t = (max n n' + 1) / 2 := ⟨_, rfl⟩
    have HT0 := Lib.hid ht
    have tm : t ≤ 17592186044416 := by omega
    have t1 : t < max n n' ∧ 4 ≤ t ∧ 2 * t ≤ max n n' + 1 ∧ n ≤ 2 * t ∧ n' ≤ 2 * t ∧ t + 1 < max n n' ∧ n + n' ≤ 17592186044416 ∧ max n n' ≤ M ∧ 2 * t ≤ n + n' := by omega
    have HT := Lib.hid t1
    have nm : n ≤ 17592186044416 := by omega
    have nm' : n' ≤ 17592186044416 := by omega
    have hn0 := Lib.hid hn
    clear t1 ht hsm hM hn
    go_cut [5] (fun b wc => b = .int .i64 (t : Nat) ∧ Below w2.heap.size w2 wc)
    case first =>
      rcases Nat.lt_trichotomy n n' with hr | hr | hr
      · skip
        have hl1 : (n : Int) < (n' : Int) := by omega
        have hl2 : ¬ n' < n := by omega
        have z1 : IntKind.i64.wrap ((n' : Int) + 1) = (n' : Int) + 1 := IntWalk.i64_in _ (by omega)
        have z2 : ((n' : Int) + 1).tdiv 2 = (t : Int) := by have := HT0.out; rw [Int.tdiv_eq_ediv_of_nonneg (by omega)]; omega
        have z3 : IntKind.i64.wrap (t : Int) = (t : Int) := IntWalk.i64_in _ (by omega)
        have CB0 := (show Blk1 w2 _ _ _ from B0.to bW).cell
        have CB1 := (show Blk1 w2 _ _ _ from B1.to bW).cell
        have KP4 : ∀ w', Below w2.heap.size w2 w' → w'.cell? ⟨w.heap.size, 0, none⟩ = some (.slice A n c) ∧ w'.cell? ⟨w.heap.size + 1, 0, none⟩ = some (.slice A' n' c') ∧ True := fun w' hw' => ⟨cellB hw' CB0, cellB hw' CB1, trivial⟩
        refine wp_regionT (S := fun w' => w'.cell? ⟨w.heap.size, 0, none⟩ = some (.slice A n c) ∧ w'.cell? ⟨w.heap.size + 1, 0, none⟩ = some (.slice A' n' c') ∧ True) [] kR (KP4 _ bW) (fun hHeld => ?_)
        have hbd4 : Below w2.heap.size w2 w2.drew := nxw (Below.refl _ _)
        generalize w2.drew = wd4 at hHeld hbd4 ⊢
        refine anyT_take (i := 0) (v := ?_) gO kR kR kR kR (by exact fun _ _ _ h => h) (Or.inl ⟨by rfl, ?_⟩) (by assumption) ?_
        rotate_left
        · intro w hSw; (try dsimp only at hSw); go_simp; try with_reducible rfl
        try simp only [Act.put, sX, sY, sZ]
        refine anyT_take (i := 2) (v := ?_) gO kR kR kR kR (by exact fun _ _ _ h => h) (Or.inl ⟨by rfl, ?_⟩) (by assumption) ?_
        rotate_left
        · intro w hSw; (try dsimp only at hSw); go_simp; try with_reducible rfl
        try simp only [Act.put, sX, sY, sZ]
        refine anyT_ready (rs := [1]) kR (by simp) (ReadyT.cons gO (fun K hK => ?_) ReadyT.nil)
        go_simp
        go_at_call 43
        (with_reducible refine (nat_Len A n c _).mono ?_)
        rintro e w3 ⟨rfl, hb3⟩
        go_simp
        refine hK.out _ _ (KP4 _ bW) (fun hHeld => ?_)
        clear hK K
        try simp only [Act.put, sX, sY, sZ]
        refine anyT_ready (rs := [3]) kR (by simp) (ReadyT.cons gO (fun K hK => ?_) ReadyT.nil)
        go_simp
        go_at_call 43
        (with_reducible refine (nat_Len A' n' c' _).mono ?_)
        rintro e w4 ⟨rfl, hb4⟩
        go_simp
        refine hK.out _ _ (KP4 _ bW) (fun hHeld => ?_)
        clear hK K
        try simp only [Act.put, sX, sY, sZ]
        refine anyT_take (i := 4) (v := ?_) gO kR kR kR kR (by exact fun _ _ _ h => h) (Or.inl ⟨by rfl, ?_⟩) (by assumption) ?_
        rotate_left
        · intro w hSw; (try dsimp only at hSw); go_simp; try with_reducible rfl
        try simp only [Act.put, sX, sY, sZ]
        refine anyT_take (i := 5) (v := ?_) gO kR kR kR kR (by exact fun _ _ _ h => h) (Or.inl ⟨by rfl, ?_⟩) (by assumption) ?_
        rotate_left
        · intro w hSw; (try dsimp only at hSw); go_simp; try with_reducible rfl
        try simp only [Act.put, sX, sY, sZ]
        refine anyT_take (i := 6) (v := ?_) gO kR kR kR kR (by exact fun _ _ _ h => h) (Or.inl ⟨by rfl, ?_⟩) (by assumption) ?_
        rotate_left
        · intro w hSw; (try dsimp only at hSw); go_simp; try with_reducible rfl
        try simp only [Act.put, sX, sY, sZ]
        refine anyT_take (i := 7) (v := ?_) gO kR kR kR kR (by exact fun _ _ _ h => h) (Or.inl ⟨by rfl, ?_⟩) (by assumption) ?_
        rotate_left
        · intro w hSw; (try dsimp only at hSw); go_simp; try with_reducible rfl
        try simp only [Act.put, sX, sY, sZ]
        refine anyT_done kR ?_ _
        clear z1 z2 z3
        go_wp2_with fail
        go_meet
        exact ⟨rfl, bW⟩
      · subst hr
        have z1 : IntKind.i64.wrap ((n : Int) + 1) = (n : Int) + 1 := IntWalk.i64_in _ (by omega)
        have z2 : ((n : Int) + 1).tdiv 2 = (t : Int) := by have := HT0.out; rw [Int.tdiv_eq_ediv_of_nonneg (by omega)]; omega
        have z3 : IntKind.i64.wrap (t : Int) = (t : Int) := IntWalk.i64_in _ (by omega)
        have CB0 := (show Blk1 w2 _ _ _ from B0.to bW).cell
        have CB1 := (show Blk1 w2 _ _ _ from B1.to bW).cell
        have KP5 : ∀ w', Below w2.heap.size w2 w' → w'.cell? ⟨w.heap.size, 0, none⟩ = some (.slice A n c) ∧ w'.cell? ⟨w.heap.size + 1, 0, none⟩ = some (.slice A' n c') ∧ True := fun w' hw' => ⟨cellB hw' CB0, cellB hw' CB1, trivial⟩
        refine wp_regionT (S := fun w' => w'.cell? ⟨w.heap.size, 0, none⟩ = some (.slice A n c) ∧ w'.cell? ⟨w.heap.size + 1, 0, none⟩ = some (.slice A' n c') ∧ True) [] kR (KP5 _ bW) (fun hHeld => ?_)
        have hbd5 : Below w2.heap.size w2 w2.drew := nxw (Below.refl _ _)
        generalize w2.drew = wd5 at hHeld hbd5 ⊢
        refine anyT_take (i := 0) (v := ?_) gO kR kR kR kR (by exact fun _ _ _ h => h) (Or.inl ⟨by rfl, ?_⟩) (by assumption) ?_
        rotate_left
        · intro w hSw; (try dsimp only at hSw); go_simp; try with_reducible rfl
        try simp only [Act.put, sX, sY, sZ]
        refine anyT_take (i := 2) (v := ?_) gO kR kR kR kR (by exact fun _ _ _ h => h) (Or.inl ⟨by rfl, ?_⟩) (by assumption) ?_
        rotate_left
        · intro w hSw; (try dsimp only at hSw); go_simp; try with_reducible rfl
        try simp only [Act.put, sX, sY, sZ]
        refine anyT_ready (rs := [1]) kR (by simp) (ReadyT.cons gO (fun K hK => ?_) ReadyT.nil)
        go_simp
        go_at_call 43
        (with_reducible refine (nat_Len A n c _).mono ?_)
        rintro e w3 ⟨rfl, hb3⟩
        go_simp
        refine hK.out _ _ (KP5 _ bW) (fun hHeld => ?_)
        clear hK K
        try simp only [Act.put, sX, sY, sZ]
        refine anyT_ready (rs := [3]) kR (by simp) (ReadyT.cons gO (fun K hK => ?_) ReadyT.nil)
        go_simp
        go_at_call 43
        (with_reducible refine (nat_Len A' n c' _).mono ?_)
        rintro e w4 ⟨rfl, hb4⟩
        go_simp
        refine hK.out _ _ (KP5 _ bW) (fun hHeld => ?_)
        clear hK K
        try simp only [Act.put, sX, sY, sZ]
        refine anyT_take (i := 4) (v := ?_) gO kR kR kR kR (by exact fun _ _ _ h => h) (Or.inl ⟨by rfl, ?_⟩) (by assumption) ?_
        rotate_left
        · intro w hSw; (try dsimp only at hSw); go_simp; try with_reducible rfl
        try simp only [Act.put, sX, sY, sZ]
        refine anyT_take (i := 5) (v := ?_) gO kR kR kR kR (by exact fun _ _ _ h => h) (Or.inl ⟨by rfl, ?_⟩) (by assumption) ?_
        rotate_left
        · intro w hSw; (try dsimp only at hSw); go_simp; try with_reducible rfl
        try simp only [Act.put, sX, sY, sZ]
        refine anyT_take (i := 6) (v := ?_) gO kR kR kR kR (by exact fun _ _ _ h => h) (Or.inl ⟨by rfl, ?_⟩) (by assumption) ?_
        rotate_left
        · intro w hSw; (try dsimp only at hSw); go_simp; try with_reducible rfl
        try simp only [Act.put, sX, sY, sZ]
        refine anyT_take (i := 7) (v := ?_) gO kR kR kR kR (by exact fun _ _ _ h => h) (Or.inl ⟨by rfl, ?_⟩) (by assumption) ?_
        rotate_left
        · intro w hSw; (try dsimp only at hSw); go_simp; try with_reducible rfl
        try simp only [Act.put, sX, sY, sZ]
        refine anyT_done kR ?_ _
        clear z1 z2 z3
        go_wp2_with fail
        go_meet
        exact ⟨rfl, bW⟩
      · skip
        have hl1 : (n' : Int) < (n : Int) := by omega
        have hl2 : ¬ n < n' := by omega
        have hl3 : ¬ (n : Int) < (n' : Int) := by omega
        have z1 : IntKind.i64.wrap ((n : Int) + 1) = (n : Int) + 1 := IntWalk.i64_in _ (by omega)
        have z2 : ((n : Int) + 1).tdiv 2 = (t : Int) := by have := HT0.out; rw [Int.tdiv_eq_ediv_of_nonneg (by omega)]; omega
        have z3 : IntKind.i64.wrap (t : Int) = (t : Int) := IntWalk.i64_in _ (by omega)
        have CB0 := (show Blk1 w2 _ _ _ from B0.to bW).cell
        have CB1 := (show Blk1 w2 _ _ _ from B1.to bW).cell
        have KP6 : ∀ w', Below w2.heap.size w2 w' → w'.cell? ⟨w.heap.size, 0, none⟩ = some (.slice A n c) ∧ w'.cell? ⟨w.heap.size + 1, 0, none⟩ = some (.slice A' n' c') ∧ True := fun w' hw' => ⟨cellB hw' CB0, cellB hw' CB1, trivial⟩
        refine wp_regionT (S := fun w' => w'.cell? ⟨w.heap.size, 0, none⟩ = some (.slice A n c) ∧ w'.cell? ⟨w.heap.size + 1, 0, none⟩ = some (.slice A' n' c') ∧ True) [] kR (KP6 _ bW) (fun hHeld => ?_)
        have hbd6 : Below w2.heap.size w2 w2.drew := nxw (Below.refl _ _)
        generalize w2.drew = wd6 at hHeld hbd6 ⊢
        refine anyT_take (i := 0) (v := ?_) gO kR kR kR kR (by exact fun _ _ _ h => h) (Or.inl ⟨by rfl, ?_⟩) (by assumption) ?_
        rotate_left
        · intro w hSw; (try dsimp only at hSw); go_simp; try with_reducible rfl
        try simp only [Act.put, sX, sY, sZ]
        refine anyT_take (i := 2) (v := ?_) gO kR kR kR kR (by exact fun _ _ _ h => h) (Or.inl ⟨by rfl, ?_⟩) (by assumption) ?_
        rotate_left
        · intro w hSw; (try dsimp only at hSw); go_simp; try with_reducible rfl
        try simp only [Act.put, sX, sY, sZ]
        refine anyT_ready (rs := [1]) kR (by simp) (ReadyT.cons gO (fun K hK => ?_) ReadyT.nil)
        go_simp
        go_at_call 43
        (with_reducible refine (nat_Len A n c _).mono ?_)
        rintro e w3 ⟨rfl, hb3⟩
        go_simp
        refine hK.out _ _ (KP6 _ bW) (fun hHeld => ?_)
        clear hK K
        try simp only [Act.put, sX, sY, sZ]
        refine anyT_ready (rs := [3]) kR (by simp) (ReadyT.cons gO (fun K hK => ?_) ReadyT.nil)
        go_simp
        go_at_call 43
        (with_reducible refine (nat_Len A' n' c' _).mono ?_)
        rintro e w4 ⟨rfl, hb4⟩
        go_simp
        refine hK.out _ _ (KP6 _ bW) (fun hHeld => ?_)
        clear hK K
        try simp only [Act.put, sX, sY, sZ]
        refine anyT_take (i := 4) (v := ?_) gO kR kR kR kR (by exact fun _ _ _ h => h) (Or.inl ⟨by rfl, ?_⟩) (by assumption) ?_
        rotate_left
        · intro w hSw; (try dsimp only at hSw); go_simp; try with_reducible rfl
        try simp only [Act.put, sX, sY, sZ]
        refine anyT_take (i := 5) (v := ?_) gO kR kR kR kR (by exact fun _ _ _ h => h) (Or.inl ⟨by rfl, ?_⟩) (by assumption) ?_
        rotate_left
        · intro w hSw; (try dsimp only at hSw); go_simp; try with_reducible rfl
        try simp only [Act.put, sX, sY, sZ]
        refine anyT_take (i := 6) (v := ?_) gO kR kR kR kR (by exact fun _ _ _ h => h) (Or.inl ⟨by rfl, ?_⟩) (by assumption) ?_
        rotate_left
        · intro w hSw; (try dsimp only at hSw); go_simp; try with_reducible rfl
        try simp only [Act.put, sX, sY, sZ]
        refine anyT_take (i := 7) (v := ?_) gO kR kR kR kR (by exact fun _ _ _ h => h) (Or.inl ⟨by rfl, ?_⟩) (by assumption) ?_
        rotate_left
        · intro w hSw; (try dsimp only at hSw); go_simp; try with_reducible rfl
        try simp only [Act.put, sX, sY, sZ]
        refine anyT_done kR ?_ _
        clear z1 z2 z3
        go_wp2_with fail
        go_meet
        exact ⟨rfl, bW⟩
    case rest =>
      rename World => w4
      obtain ⟨rfl, hb24⟩ := hcut
      have hbl4 : Below we.heap.size we w4 := nx hbl hb24
      clear hb24 hbl c0 c1
      have c0 := (B0.to hbl4).cell
      go_wp2_with fail
      refine (prod_cut A n c x t _ (hx.to hbl4) (by have := HT.out; omega) (by have := HT.out; omega)).mono ?_
      rintro e w5 ⟨A0, n0, d0, A1, n1, d1, rfl, h0, h1, hb5⟩
      have hbl5 : Below we.heap.size we w5 := nx hbl4 hb5
      clear hbl4 hb5 c0
      have L0 := (Blk1.new w5 25 (.slice A0 n0 d0)).alloc (.cells #[.slice A1 n1 d1] 25)
      have L1 := Blk1.new (w5.alloc (.cells #[.slice A0 n0 d0] 25)) 25 (.slice A1 n1 d1)
      simp only [World.size_alloc] at L1
      have hbl6 : Below we.heap.size we ((w5.alloc (.cells #[.slice A0 n0 d0] 25)).alloc (.cells #[.slice A1 n1 d1] 25)) := bW
      have c1 := (B1.to hbl6).cell
      go_wp2_with fail
      refine (prod_cut A' n' c' y t _ (hy.to hbl6) (by have := HT.out; omega) (by have := HT.out; omega)).mono ?_
      rintro e w6 ⟨A2, n2, d2, A3, n3, d3, rfl, h2, h3, hb6⟩
      have hbl7 : Below we.heap.size we w6 := nx hbl6 hb6
      replace L0 := L0.to hb6
      replace L1 := L1.to hb6
      replace h0 := h0.to (nx (nxa (nxa (Below.refl _ _) _) _) hb6)
      replace h1 := h1.to (nx (nxa (nxa (Below.refl _ _) _) _) hb6)
      clear hbl5 hbl6 hb6 c1
      have L2 := (Blk1.new w6 25 (.slice A2 n2 d2)).alloc (.cells #[.slice A3 n3 d3] 25)
      have L3 := Blk1.new (w6.alloc (.cells #[.slice A2 n2 d2] 25)) 25 (.slice A3 n3 d3)
      simp only [World.size_alloc] at L3
      have hbf : Below we.heap.size we ((w6.alloc (.cells #[.slice A2 n2 d2] 25)).alloc (.cells #[.slice A3 n3 d3] 25)) := nx hbl7 bW
      replace L0 := (L0.alloc (.cells #[.slice A2 n2 d2] 25)).alloc (.cells #[.slice A3 n3 d3] 25)
      replace L1 := (L1.alloc (.cells #[.slice A2 n2 d2] 25)).alloc (.cells #[.slice A3 n3 d3] 25)
      replace h0 := (h0.alloc (.cells #[.slice A2 n2 d2] 25)).alloc (.cells #[.slice A3 n3 d3] 25)
      replace h1 := (h1.alloc (.cells #[.slice A2 n2 d2] 25)).alloc (.cells #[.slice A3 n3 d3] 25)
      replace h2 := (h2.alloc (.cells #[.slice A2 n2 d2] 25)).alloc (.cells #[.slice A3 n3 d3] 25)
      replace h3 := (h3.alloc (.cells #[.slice A2 n2 d2] 25)).alloc (.cells #[.slice A3 n3 d3] 25)
      clear hbl7
      obtain ⟨p1, p2, p3, p4, p5, p6, p7, p8, p9, p10, p11⟩ := mul_facts (t := t) hx.lt hy.lt (by have := HT.out; omega) (by have := HT.out; omega) (by have := HT.out; omega)
      generalize low W t x = x0 at h0 h1 h2 h3 p1 p2 p3 p4 p5 p6 p7 p8 p9 p10 p11
      generalize up W t x = x1 at h0 h1 h2 h3 p1 p2 p3 p4 p5 p6 p7 p8 p9 p10 p11
      generalize low W t y = y0 at h0 h1 h2 h3 p1 p2 p3 p4 p5 p6 p7 p8 p9 p10 p11
      generalize up W t y = y1 at h0 h1 h2 h3 p1 p2 p3 p4 p5 p6 p7 p8 p9 p10 p11
      go_wp2_with fail
      generalize ((w6.alloc (.cells #[.slice A2 n2 d2] 25)).alloc (.cells #[.slice A3 n3 d3] 25)) = wf at L0 L1 L2 L3 h0 h1 h2 h3 hbf ⊢
      go_cut [10, 11] (fun p q wc => Two wf 25 (x0 * y0) (x1 * y1) p q wc)
      case first =>
        have CL0 := (show Blk1 wf _ _ _ from L0.to bW).cell
        have CL2 := (show Blk1 wf _ _ _ from L2.to bW).cell
        have CL1 := (show Blk1 wf _ _ _ from L1.to bW).cell
        have CL3 := (show Blk1 wf _ _ _ from L3.to bW).cell
        have KP7 : ∀ w', Below wf.heap.size wf w' → w'.cell? ⟨w5.heap.size, 0, none⟩ = some (.slice A0 n0 d0) ∧ w'.cell? ⟨w6.heap.size, 0, none⟩ = some (.slice A2 n2 d2) ∧ w'.cell? ⟨w5.heap.size + 1, 0, none⟩ = some (.slice A1 n1 d1) ∧ w'.cell? ⟨w6.heap.size + 1, 0, none⟩ = some (.slice A3 n3 d3) ∧ True := fun w' hw' => ⟨cellB hw' CL0, cellB hw' CL2, cellB hw' CL1, cellB hw' CL3, trivial⟩
        refine wp_regionT (S := fun w' => w'.cell? ⟨w5.heap.size, 0, none⟩ = some (.slice A0 n0 d0) ∧ w'.cell? ⟨w6.heap.size, 0, none⟩ = some (.slice A2 n2 d2) ∧ w'.cell? ⟨w5.heap.size + 1, 0, none⟩ = some (.slice A1 n1 d1) ∧ w'.cell? ⟨w6.heap.size + 1, 0, none⟩ = some (.slice A3 n3 d3) ∧ True) [] kR (KP7 _ bW) (fun hHeld => ?_)
        have hbd7 : Below wf.heap.size wf wf.drew := nxw (Below.refl _ _)
        generalize wf.drew = wd7 at hHeld hbd7 ⊢
        refine anyT_take (i := 0) (v := ?_) gO kR kR kR kR (by exact fun _ _ _ h => h) (Or.inl ⟨by rfl, ?_⟩) (by assumption) ?_
        rotate_left
        · intro w hSw; (try dsimp only at hSw); go_simp; try with_reducible rfl
        try simp only [Act.put, sX, sY, sZ]
        refine anyT_take (i := 1) (v := ?_) gO kR kR kR kR (by exact fun _ _ _ h => h) (Or.inl ⟨by rfl, ?_⟩) (by assumption) ?_
        rotate_left
        · intro w hSw; (try dsimp only at hSw); go_simp; try with_reducible rfl
        try simp only [Act.put, sX, sY, sZ]
        refine anyT_take (i := 3) (v := ?_) gO kR kR kR kR (by exact fun _ _ _ h => h) (Or.inl ⟨by rfl, ?_⟩) (by assumption) ?_
        rotate_left
        · intro w hSw; (try dsimp only at hSw); go_simp; try with_reducible rfl
        try simp only [Act.put, sX, sY, sZ]
        refine anyT_take (i := 4) (v := ?_) gO kR kR kR kR (by exact fun _ _ _ h => h) (Or.inl ⟨by rfl, ?_⟩) (by assumption) ?_
        rotate_left
        · intro w hSw; (try dsimp only at hSw); go_simp; try with_reducible rfl
        try simp only [Act.put, sX, sY, sZ]
        refine anyT_ready (rs := [2, 6, 7]) kR (by simp) (ReadyT.cons gO (fun K hK => ?_) (ReadyT.cons gO (fun K hK => ?_) (ReadyT.cons gO (fun K hK => ?_) ReadyT.nil)))
        · skip
          go_simp
          go_at_call 27
          (with_reducible refine (use_mul IH _ _ _ _ _ _ _ _ _ (h0.to bW) (h2.to bW) (by have := h0.le_of _ (Nat.lt_of_le_of_lt p3.1 hx.lt); have := h2.le_of _ (Nat.lt_of_le_of_lt p3.2 hy.lt); have := HT.out; omega) (by have := h0.le_of _ p1.1; have := HT.out; omega) (by have := h2.le_of _ p1.2; have := HT.out; omega)).mono ?_)
          rintro e w7 ⟨A4, n4, d4, rfl, h4, hb7⟩
          go_simp
          refine hK.out _ _ (KP7 _ bW) (fun hHeld => ?_)
          clear hK K
          try simp only [Act.put, sX, sY, sZ]
          refine anyT_ready (rs := [5, 6, 7]) kR (by simp) (ReadyT.cons gO (fun K hK => ?_) (ReadyT.cons gO (fun K hK => ?_) (ReadyT.cons gO (fun K hK => ?_) ReadyT.nil)))
          · skip
            go_simp
            go_at_call 27
            (with_reducible refine (use_mul IH _ _ _ _ _ _ _ _ _ (h1.to bW) (h3.to bW) (by have := h1.le_of _ (Nat.lt_of_le_of_lt p4.1 hx.lt); have := h3.le_of _ (Nat.lt_of_le_of_lt p4.2 hy.lt); have := HT.out; omega) (by have := h1.le_of _ p2.1; have := HT.out; omega) (by have := h3.le_of _ p2.2; have := HT.out; omega)).mono ?_)
            rintro e w8 ⟨A5, n5, d5, rfl, h5, hb8⟩
            go_simp
            refine hK.out _ _ (KP7 _ bW) (fun hHeld => ?_)
            clear hK K
            try simp only [Act.put, sX, sY, sZ]
            refine anyT_ready (rs := [6, 7]) kR (by simp) (ReadyT.cons gO (fun K hK => ?_) (ReadyT.cons gO (fun K hK => ?_) ReadyT.nil))
            · skip
              go_simp
              have X6 := Blk1.newAt w8 w8.heap.size 25 (.slice none 0 0) rfl
              have X6g : wf.heap.size ≤ w8.heap.size := (show Below wf.heap.size wf w8 from bW).size
              have hbwa8 := nxa (Below.refl w8.heap.size w8) (.cells #[.slice none 0 0] 25)
              generalize w8.alloc (.cells #[.slice none 0 0] 25) = wa8 at X6 hbwa8 ⊢
              refine hK.out _ _ (KP7 _ bW) (fun hHeld => ?_)
              clear hK K
              try simp only [Act.put, sX, sY, sZ]
              refine anyT_ready (rs := [7]) kR (by simp) (ReadyT.cons gO (fun K hK => ?_) ReadyT.nil)
              go_simp
              have X7 := Blk1.newAt wa8 wa8.heap.size 25 (.slice none 0 0) rfl
              have X7g : wf.heap.size ≤ wa8.heap.size := (show Below wf.heap.size wf wa8 from bW).size
              have X6X7n := (show Blk1 wa8 _ _ _ from X6.to bW).lt
              have hbwa9 := nxa (Below.refl wa8.heap.size wa8) (.cells #[.slice none 0 0] 25)
              generalize wa8.alloc (.cells #[.slice none 0 0] 25) = wa9 at X7 hbwa9 ⊢
              refine hK.out _ _ (KP7 _ bW) (fun hHeld => ?_)
              clear hK K
              try simp only [Act.put, sX, sY, sZ]
              refine anyT_ready (rs := [8]) kR (by simp) (ReadyT.cons gO (fun K hK => ?_) ReadyT.nil)
              replace X6 := (show Blk1 wa9 _ _ _ from X6.to bW)
              rw [if_pos (by rfl)]
              refine wp_store_nat _ _ rfl rfl rfl X6 ?_
              replace X7 := (show Blk1 wa9 _ _ _ from X7.to bW).far (p := ⟨w8.heap.size, 0, none⟩) (Nat.ne_of_gt X6X7n) (.slice A4 n4 d4)
              replace h4 := (show NatAt wa9 _ _ _ _ from h4.to bW).put_ X6.cell (.slice A4 n4 d4)
              replace h5 := (show NatAt wa9 _ _ _ _ from h5.to bW).put_ X6.cell (.slice A4 n4 d4)
              have hbws10 := nxs (show Below wf.heap.size wf wa9 from bW) (p := ⟨w8.heap.size, 0, none⟩) X6g (.slice A4 n4 d4)
              replace X6 := X6.set (.slice A4 n4 d4)
              generalize wa9.setCell ⟨w8.heap.size, 0, none⟩ (.slice A4 n4 d4) = ws10 at X6 X7 h4 h5 hbws10 ⊢
              refine hK.out _ _ (KP7 _ bW) (fun hHeld => ?_)
              clear hK K
              try simp only [Act.put, sX, sY, sZ]
              refine anyT_ready (rs := [9]) kR (by simp) (ReadyT.cons gO (fun K hK => ?_) ReadyT.nil)
              replace X7 := (show Blk1 ws10 _ _ _ from X7.to bW)
              rw [if_pos (by rfl)]
              refine wp_store_nat _ _ rfl rfl rfl X7 ?_
              replace X6 := (show Blk1 ws10 _ _ _ from X6.to bW).far (p := ⟨wa8.heap.size, 0, none⟩) (Nat.ne_of_lt X6X7n) (.slice A5 n5 d5)
              replace h4 := (show NatAt ws10 _ _ _ _ from h4.to bW).put_ X7.cell (.slice A5 n5 d5)
              replace h5 := (show NatAt ws10 _ _ _ _ from h5.to bW).put_ X7.cell (.slice A5 n5 d5)
              have hbws11 := nxs (show Below wf.heap.size wf ws10 from bW) (p := ⟨wa8.heap.size, 0, none⟩) X7g (.slice A5 n5 d5)
              replace X7 := X7.set (.slice A5 n5 d5)
              generalize ws10.setCell ⟨wa8.heap.size, 0, none⟩ (.slice A5 n5 d5) = ws11 at X7 X6 h4 h5 hbws11 ⊢
              refine hK.out _ _ (KP7 _ bW) (fun hHeld => ?_)
              clear hK K
              try simp only [Act.put, sX, sY, sZ]
              refine anyT_done kR ?_ _
              go_wp2_with fail
              go_meet
              exact ⟨_, A4, n4, d4, _, A5, n5, d5, rfl, rfl, ⟨X6, h4⟩, ⟨X7, h5⟩, (Nat.ne_of_lt X6X7n), bW⟩
            · skip
              go_simp
              have X7 := Blk1.newAt w8 w8.heap.size 25 (.slice none 0 0) rfl
              have X7g : wf.heap.size ≤ w8.heap.size := (show Below wf.heap.size wf w8 from bW).size
              have hbwa12 := nxa (Below.refl w8.heap.size w8) (.cells #[.slice none 0 0] 25)
              generalize w8.alloc (.cells #[.slice none 0 0] 25) = wa12 at X7 hbwa12 ⊢
              refine hK.out _ _ (KP7 _ bW) (fun hHeld => ?_)
              clear hK K
              try simp only [Act.put, sX, sY, sZ]
              refine anyT_ready (rs := [6]) kR (by simp) (ReadyT.cons gO (fun K hK => ?_) ReadyT.nil)
              go_simp
              have X6 := Blk1.newAt wa12 wa12.heap.size 25 (.slice none 0 0) rfl
              have X6g : wf.heap.size ≤ wa12.heap.size := (show Below wf.heap.size wf wa12 from bW).size
              have X7X6n := (show Blk1 wa12 _ _ _ from X7.to bW).lt
              have hbwa13 := nxa (Below.refl wa12.heap.size wa12) (.cells #[.slice none 0 0] 25)
              generalize wa12.alloc (.cells #[.slice none 0 0] 25) = wa13 at X6 hbwa13 ⊢
              refine hK.out _ _ (KP7 _ bW) (fun hHeld => ?_)
              clear hK K
              try simp only [Act.put, sX, sY, sZ]
              refine anyT_ready (rs := [8]) kR (by simp) (ReadyT.cons gO (fun K hK => ?_) ReadyT.nil)
              replace X6 := (show Blk1 wa13 _ _ _ from X6.to bW)
              rw [if_pos (by rfl)]
              refine wp_store_nat _ _ rfl rfl rfl X6 ?_
              replace X7 := (show Blk1 wa13 _ _ _ from X7.to bW).far (p := ⟨wa12.heap.size, 0, none⟩) (Nat.ne_of_lt X7X6n) (.slice A4 n4 d4)
              replace h4 := (show NatAt wa13 _ _ _ _ from h4.to bW).put_ X6.cell (.slice A4 n4 d4)
              replace h5 := (show NatAt wa13 _ _ _ _ from h5.to bW).put_ X6.cell (.slice A4 n4 d4)
              have hbws14 := nxs (show Below wf.heap.size wf wa13 from bW) (p := ⟨wa12.heap.size, 0, none⟩) X6g (.slice A4 n4 d4)
              replace X6 := X6.set (.slice A4 n4 d4)
              generalize wa13.setCell ⟨wa12.heap.size, 0, none⟩ (.slice A4 n4 d4) = ws14 at X6 X7 h4 h5 hbws14 ⊢
              refine hK.out _ _ (KP7 _ bW) (fun hHeld => ?_)
              clear hK K
              try simp only [Act.put, sX, sY, sZ]
              refine anyT_ready (rs := [9]) kR (by simp) (ReadyT.cons gO (fun K hK => ?_) ReadyT.nil)
              replace X7 := (show Blk1 ws14 _ _ _ from X7.to bW)
              rw [if_pos (by rfl)]
              refine wp_store_nat _ _ rfl rfl rfl X7 ?_
              replace X6 := (show Blk1 ws14 _ _ _ from X6.to bW).far (p := ⟨w8.heap.size, 0, none⟩) (Nat.ne_of_gt X7X6n) (.slice A5 n5 d5)
              replace h4 := (show NatAt ws14 _ _ _ _ from h4.to bW).put_ X7.cell (.slice A5 n5 d5)
              replace h5 := (show NatAt ws14 _ _ _ _ from h5.to bW).put_ X7.cell (.slice A5 n5 d5)
              have hbws15 := nxs (show Below wf.heap.size wf ws14 from bW) (p := ⟨w8.heap.size, 0, none⟩) X7g (.slice A5 n5 d5)
              replace X7 := X7.set (.slice A5 n5 d5)
              generalize ws14.setCell ⟨w8.heap.size, 0, none⟩ (.slice A5 n5 d5) = ws15 at X7 X6 h4 h5 hbws15 ⊢
              refine hK.out _ _ (KP7 _ bW) (fun hHeld => ?_)
              clear hK K
              try simp only [Act.put, sX, sY, sZ]
              refine anyT_done kR ?_ _
              go_wp2_with fail
              go_meet
              exact ⟨_, A4, n4, d4, _, A5, n5, d5, rfl, rfl, ⟨X6, h4⟩, ⟨X7, h5⟩, (Nat.ne_of_gt X7X6n), bW⟩
          · skip
            go_simp
            have X6 := Blk1.newAt w7 w7.heap.size 25 (.slice none 0 0) rfl
            have X6g : wf.heap.size ≤ w7.heap.size := (show Below wf.heap.size wf w7 from bW).size
            have hbwa16 := nxa (Below.refl w7.heap.size w7) (.cells #[.slice none 0 0] 25)
            generalize w7.alloc (.cells #[.slice none 0 0] 25) = wa16 at X6 hbwa16 ⊢
            refine hK.out _ _ (KP7 _ bW) (fun hHeld => ?_)
            clear hK K
            try simp only [Act.put, sX, sY, sZ]
            refine anyT_ready (rs := [5, 7]) kR (by simp) (ReadyT.cons gO (fun K hK => ?_) (ReadyT.cons gO (fun K hK => ?_) ReadyT.nil))
            · skip
              go_simp
              go_at_call 27
              (with_reducible refine (use_mul IH _ _ _ _ _ _ _ _ _ (h1.to bW) (h3.to bW) (by have := h1.le_of _ (Nat.lt_of_le_of_lt p4.1 hx.lt); have := h3.le_of _ (Nat.lt_of_le_of_lt p4.2 hy.lt); have := HT.out; omega) (by have := h1.le_of _ p2.1; have := HT.out; omega) (by have := h3.le_of _ p2.2; have := HT.out; omega)).mono ?_)
              rintro e w8 ⟨A5, n5, d5, rfl, h5, hb8⟩
              go_simp
              refine hK.out _ _ (KP7 _ bW) (fun hHeld => ?_)
              clear hK K
              try simp only [Act.put, sX, sY, sZ]
              refine anyT_ready (rs := [7]) kR (by simp) (ReadyT.cons gO (fun K hK => ?_) ReadyT.nil)
              go_simp
              have X7 := Blk1.newAt w8 w8.heap.size 25 (.slice none 0 0) rfl
              have X7g : wf.heap.size ≤ w8.heap.size := (show Below wf.heap.size wf w8 from bW).size
              have X6X7n := (show Blk1 w8 _ _ _ from X6.to bW).lt
              have hbwa17 := nxa (Below.refl w8.heap.size w8) (.cells #[.slice none 0 0] 25)
              generalize w8.alloc (.cells #[.slice none 0 0] 25) = wa17 at X7 hbwa17 ⊢
              refine hK.out _ _ (KP7 _ bW) (fun hHeld => ?_)
              clear hK K
              try simp only [Act.put, sX, sY, sZ]
              refine anyT_ready (rs := [8]) kR (by simp) (ReadyT.cons gO (fun K hK => ?_) ReadyT.nil)
              replace X6 := (show Blk1 wa17 _ _ _ from X6.to bW)
              rw [if_pos (by rfl)]
              refine wp_store_nat _ _ rfl rfl rfl X6 ?_
              replace X7 := (show Blk1 wa17 _ _ _ from X7.to bW).far (p := ⟨w7.heap.size, 0, none⟩) (Nat.ne_of_gt X6X7n) (.slice A4 n4 d4)
              replace h4 := (show NatAt wa17 _ _ _ _ from h4.to bW).put_ X6.cell (.slice A4 n4 d4)
              replace h5 := (show NatAt wa17 _ _ _ _ from h5.to bW).put_ X6.cell (.slice A4 n4 d4)
              have hbws18 := nxs (show Below wf.heap.size wf wa17 from bW) (p := ⟨w7.heap.size, 0, none⟩) X6g (.slice A4 n4 d4)
              replace X6 := X6.set (.slice A4 n4 d4)
              generalize wa17.setCell ⟨w7.heap.size, 0, none⟩ (.slice A4 n4 d4) = ws18 at X6 X7 h4 h5 hbws18 ⊢
              refine hK.out _ _ (KP7 _ bW) (fun hHeld => ?_)
              clear hK K
              try simp only [Act.put, sX, sY, sZ]
              refine anyT_ready (rs := [9]) kR (by simp) (ReadyT.cons gO (fun K hK => ?_) ReadyT.nil)
              replace X7 := (show Blk1 ws18 _ _ _ from X7.to bW)
              rw [if_pos (by rfl)]
              refine wp_store_nat _ _ rfl rfl rfl X7 ?_
              replace X6 := (show Blk1 ws18 _ _ _ from X6.to bW).far (p := ⟨w8.heap.size, 0, none⟩) (Nat.ne_of_lt X6X7n) (.slice A5 n5 d5)
              replace h4 := (show NatAt ws18 _ _ _ _ from h4.to bW).put_ X7.cell (.slice A5 n5 d5)
              replace h5 := (show NatAt ws18 _ _ _ _ from h5.to bW).put_ X7.cell (.slice A5 n5 d5)
              have hbws19 := nxs (show Below wf.heap.size wf ws18 from bW) (p := ⟨w8.heap.size, 0, none⟩) X7g (.slice A5 n5 d5)
              replace X7 := X7.set (.slice A5 n5 d5)
              generalize ws18.setCell ⟨w8.heap.size, 0, none⟩ (.slice A5 n5 d5) = ws19 at X7 X6 h4 h5 hbws19 ⊢
              refine hK.out _ _ (KP7 _ bW) (fun hHeld => ?_)
              clear hK K
              try simp only [Act.put, sX, sY, sZ]
              refine anyT_done kR ?_ _
              go_wp2_with fail
              go_meet
              exact ⟨_, A4, n4, d4, _, A5, n5, d5, rfl, rfl, ⟨X6, h4⟩, ⟨X7, h5⟩, (Nat.ne_of_lt X6X7n), bW⟩
            · skip
              go_simp
              have X7 := Blk1.newAt wa16 wa16.heap.size 25 (.slice none 0 0) rfl
              have X7g : wf.heap.size ≤ wa16.heap.size := (show Below wf.heap.size wf wa16 from bW).size
              have X6X7n := (show Blk1 wa16 _ _ _ from X6.to bW).lt
              have hbwa20 := nxa (Below.refl wa16.heap.size wa16) (.cells #[.slice none 0 0] 25)
              generalize wa16.alloc (.cells #[.slice none 0 0] 25) = wa20 at X7 hbwa20 ⊢
              refine hK.out _ _ (KP7 _ bW) (fun hHeld => ?_)
              clear hK K
              try simp only [Act.put, sX, sY, sZ]
              refine anyT_ready (rs := [5]) kR (by simp) (ReadyT.cons gO (fun K hK => ?_) ReadyT.nil)
              go_simp
              go_at_call 27
              (with_reducible refine (use_mul IH _ _ _ _ _ _ _ _ _ (h1.to bW) (h3.to bW) (by have := h1.le_of _ (Nat.lt_of_le_of_lt p4.1 hx.lt); have := h3.le_of _ (Nat.lt_of_le_of_lt p4.2 hy.lt); have := HT.out; omega) (by have := h1.le_of _ p2.1; have := HT.out; omega) (by have := h3.le_of _ p2.2; have := HT.out; omega)).mono ?_)
              rintro e w8 ⟨A5, n5, d5, rfl, h5, hb8⟩
              go_simp
              refine hK.out _ _ (KP7 _ bW) (fun hHeld => ?_)
              clear hK K
              try simp only [Act.put, sX, sY, sZ]
              refine anyT_ready (rs := [8]) kR (by simp) (ReadyT.cons gO (fun K hK => ?_) ReadyT.nil)
              replace X6 := (show Blk1 w8 _ _ _ from X6.to bW)
              rw [if_pos (by rfl)]
              refine wp_store_nat _ _ rfl rfl rfl X6 ?_
              replace X7 := (show Blk1 w8 _ _ _ from X7.to bW).far (p := ⟨w7.heap.size, 0, none⟩) (Nat.ne_of_gt X6X7n) (.slice A4 n4 d4)
              replace h4 := (show NatAt w8 _ _ _ _ from h4.to bW).put_ X6.cell (.slice A4 n4 d4)
              replace h5 := (show NatAt w8 _ _ _ _ from h5.to bW).put_ X6.cell (.slice A4 n4 d4)
              have hbws21 := nxs (show Below wf.heap.size wf w8 from bW) (p := ⟨w7.heap.size, 0, none⟩) X6g (.slice A4 n4 d4)
              replace X6 := X6.set (.slice A4 n4 d4)
              generalize w8.setCell ⟨w7.heap.size, 0, none⟩ (.slice A4 n4 d4) = ws21 at X6 X7 h4 h5 hbws21 ⊢
              refine hK.out _ _ (KP7 _ bW) (fun hHeld => ?_)
              clear hK K
              try simp only [Act.put, sX, sY, sZ]
              refine anyT_ready (rs := [9]) kR (by simp) (ReadyT.cons gO (fun K hK => ?_) ReadyT.nil)
              replace X7 := (show Blk1 ws21 _ _ _ from X7.to bW)
              rw [if_pos (by rfl)]
              refine wp_store_nat _ _ rfl rfl rfl X7 ?_
              replace X6 := (show Blk1 ws21 _ _ _ from X6.to bW).far (p := ⟨wa16.heap.size, 0, none⟩) (Nat.ne_of_lt X6X7n) (.slice A5 n5 d5)
              replace h4 := (show NatAt ws21 _ _ _ _ from h4.to bW).put_ X7.cell (.slice A5 n5 d5)
              replace h5 := (show NatAt ws21 _ _ _ _ from h5.to bW).put_ X7.cell (.slice A5 n5 d5)
              have hbws22 := nxs (show Below wf.heap.size wf ws21 from bW) (p := ⟨wa16.heap.size, 0, none⟩) X7g (.slice A5 n5 d5)
              replace X7 := X7.set (.slice A5 n5 d5)
              generalize ws21.setCell ⟨wa16.heap.size, 0, none⟩ (.slice A5 n5 d5) = ws22 at X7 X6 h4 h5 hbws22 ⊢
              refine hK.out _ _ (KP7 _ bW) (fun hHeld => ?_)
              clear hK K
              try simp only [Act.put, sX, sY, sZ]
              refine anyT_done kR ?_ _
              go_wp2_with fail
              go_meet
              exact ⟨_, A4, n4, d4, _, A5, n5, d5, rfl, rfl, ⟨X6, h4⟩, ⟨X7, h5⟩, (Nat.ne_of_lt X6X7n), bW⟩
          · skip
            go_simp
            have X7 := Blk1.newAt w7 w7.heap.size 25 (.slice none 0 0) rfl
            have X7g : wf.heap.size ≤ w7.heap.size := (show Below wf.heap.size wf w7 from bW).size
            have hbwa23 := nxa (Below.refl w7.heap.size w7) (.cells #[.slice none 0 0] 25)
            generalize w7.alloc (.cells #[.slice none 0 0] 25) = wa23 at X7 hbwa23 ⊢
            refine hK.out _ _ (KP7 _ bW) (fun hHeld => ?_)
            clear hK K
            try simp only [Act.put, sX, sY, sZ]
            refine anyT_ready (rs := [5, 6]) kR (by simp) (ReadyT.cons gO (fun K hK => ?_) (ReadyT.cons gO (fun K hK => ?_) ReadyT.nil))
            · skip
              go_simp
              go_at_call 27
              (with_reducible refine (use_mul IH _ _ _ _ _ _ _ _ _ (h1.to bW) (h3.to bW) (by have := h1.le_of _ (Nat.lt_of_le_of_lt p4.1 hx.lt); have := h3.le_of _ (Nat.lt_of_le_of_lt p4.2 hy.lt); have := HT.out; omega) (by have := h1.le_of _ p2.1; have := HT.out; omega) (by have := h3.le_of _ p2.2; have := HT.out; omega)).mono ?_)
              rintro e w8 ⟨A5, n5, d5, rfl, h5, hb8⟩
              go_simp
              refine hK.out _ _ (KP7 _ bW) (fun hHeld => ?_)
              clear hK K
              try simp only [Act.put, sX, sY, sZ]
              refine anyT_ready (rs := [6]) kR (by simp) (ReadyT.cons gO (fun K hK => ?_) ReadyT.nil)
              go_simp
              have X6 := Blk1.newAt w8 w8.heap.size 25 (.slice none 0 0) rfl
              have X6g : wf.heap.size ≤ w8.heap.size := (show Below wf.heap.size wf w8 from bW).size
              have X7X6n := (show Blk1 w8 _ _ _ from X7.to bW).lt
              have hbwa24 := nxa (Below.refl w8.heap.size w8) (.cells #[.slice none 0 0] 25)
              generalize w8.alloc (.cells #[.slice none 0 0] 25) = wa24 at X6 hbwa24 ⊢
              refine hK.out _ _ (KP7 _ bW) (fun hHeld => ?_)
              clear hK K
              try simp only [Act.put, sX, sY, sZ]
              refine anyT_ready (rs := [8]) kR (by simp) (ReadyT.cons gO (fun K hK => ?_) ReadyT.nil)
              replace X6 := (show Blk1 wa24 _ _ _ from X6.to bW)
              rw [if_pos (by rfl)]
              refine wp_store_nat _ _ rfl rfl rfl X6 ?_
              replace X7 := (show Blk1 wa24 _ _ _ from X7.to bW).far (p := ⟨w8.heap.size, 0, none⟩) (Nat.ne_of_lt X7X6n) (.slice A4 n4 d4)
              replace h4 := (show NatAt wa24 _ _ _ _ from h4.to bW).put_ X6.cell (.slice A4 n4 d4)
              replace h5 := (show NatAt wa24 _ _ _ _ from h5.to bW).put_ X6.cell (.slice A4 n4 d4)
              have hbws25 := nxs (show Below wf.heap.size wf wa24 from bW) (p := ⟨w8.heap.size, 0, none⟩) X6g (.slice A4 n4 d4)
              replace X6 := X6.set (.slice A4 n4 d4)
              generalize wa24.setCell ⟨w8.heap.size, 0, none⟩ (.slice A4 n4 d4) = ws25 at X6 X7 h4 h5 hbws25 ⊢
              refine hK.out _ _ (KP7 _ bW) (fun hHeld => ?_)
              clear hK K
              try simp only [Act.put, sX, sY, sZ]
              refine anyT_ready (rs := [9]) kR (by simp) (ReadyT.cons gO (fun K hK => ?_) ReadyT.nil)
              replace X7 := (show Blk1 ws25 _ _ _ from X7.to bW)
              rw [if_pos (by rfl)]
              refine wp_store_nat _ _ rfl rfl rfl X7 ?_
              replace X6 := (show Blk1 ws25 _ _ _ from X6.to bW).far (p := ⟨w7.heap.size, 0, none⟩) (Nat.ne_of_gt X7X6n) (.slice A5 n5 d5)
              replace h4 := (show NatAt ws25 _ _ _ _ from h4.to bW).put_ X7.cell (.slice A5 n5 d5)
              replace h5 := (show NatAt ws25 _ _ _ _ from h5.to bW).put_ X7.cell (.slice A5 n5 d5)
              have hbws26 := nxs (show Below wf.heap.size wf ws25 from bW) (p := ⟨w7.heap.size, 0, none⟩) X7g (.slice A5 n5 d5)
              replace X7 := X7.set (.slice A5 n5 d5)
              generalize ws25.setCell ⟨w7.heap.size, 0, none⟩ (.slice A5 n5 d5) = ws26 at X7 X6 h4 h5 hbws26 ⊢
              refine hK.out _ _ (KP7 _ bW) (fun hHeld => ?_)
              clear hK K
              try simp only [Act.put, sX, sY, sZ]
              refine anyT_done kR ?_ _
              go_wp2_with fail
              go_meet
              exact ⟨_, A4, n4, d4, _, A5, n5, d5, rfl, rfl, ⟨X6, h4⟩, ⟨X7, h5⟩, (Nat.ne_of_gt X7X6n), bW⟩
            · skip
              go_simp
              have X6 := Blk1.newAt wa23 wa23.heap.size 25 (.slice none 0 0) rfl
              have X6g : wf.heap.size ≤ wa23.heap.size := (show Below wf.heap.size wf wa23 from bW).size
              have X7X6n := (show Blk1 wa23 _ _ _ from X7.to bW).lt
              have hbwa27 := nxa (Below.refl wa23.heap.size wa23) (.cells #[.slice none 0 0] 25)
              generalize wa23.alloc (.cells #[.slice none 0 0] 25) = wa27 at X6 hbwa27 ⊢
              refine hK.out _ _ (KP7 _ bW) (fun hHeld => ?_)
              clear hK K
              try simp only [Act.put, sX, sY, sZ]
              refine anyT_ready (rs := [5]) kR (by simp) (ReadyT.cons gO (fun K hK => ?_) ReadyT.nil)
              go_simp
              go_at_call 27
              (with_reducible refine (use_mul IH _ _ _ _ _ _ _ _ _ (h1.to bW) (h3.to bW) (by have := h1.le_of _ (Nat.lt_of_le_of_lt p4.1 hx.lt); have := h3.le_of _ (Nat.lt_of_le_of_lt p4.2 hy.lt); have := HT.out; omega) (by have := h1.le_of _ p2.1; have := HT.out; omega) (by have := h3.le_of _ p2.2; have := HT.out; omega)).mono ?_)
              rintro e w8 ⟨A5, n5, d5, rfl, h5, hb8⟩
              go_simp
              refine hK.out _ _ (KP7 _ bW) (fun hHeld => ?_)
              clear hK K
              try simp only [Act.put, sX, sY, sZ]
              refine anyT_ready (rs := [8]) kR (by simp) (ReadyT.cons gO (fun K hK => ?_) ReadyT.nil)
              replace X6 := (show Blk1 w8 _ _ _ from X6.to bW)
              rw [if_pos (by rfl)]
              refine wp_store_nat _ _ rfl rfl rfl X6 ?_
              replace X7 := (show Blk1 w8 _ _ _ from X7.to bW).far (p := ⟨wa23.heap.size, 0, none⟩) (Nat.ne_of_lt X7X6n) (.slice A4 n4 d4)
              replace h4 := (show NatAt w8 _ _ _ _ from h4.to bW).put_ X6.cell (.slice A4 n4 d4)
              replace h5 := (show NatAt w8 _ _ _ _ from h5.to bW).put_ X6.cell (.slice A4 n4 d4)
              have hbws28 := nxs (show Below wf.heap.size wf w8 from bW) (p := ⟨wa23.heap.size, 0, none⟩) X6g (.slice A4 n4 d4)
              replace X6 := X6.set (.slice A4 n4 d4)
              generalize w8.setCell ⟨wa23.heap.size, 0, none⟩ (.slice A4 n4 d4) = ws28 at X6 X7 h4 h5 hbws28 ⊢
              refine hK.out _ _ (KP7 _ bW) (fun hHeld => ?_)
              clear hK K
              try simp only [Act.put, sX, sY, sZ]
              refine anyT_ready (rs := [9]) kR (by simp) (ReadyT.cons gO (fun K hK => ?_) ReadyT.nil)
              replace X7 := (show Blk1 ws28 _ _ _ from X7.to bW)
              rw [if_pos (by rfl)]
              refine wp_store_nat _ _ rfl rfl rfl X7 ?_
              replace X6 := (show Blk1 ws28 _ _ _ from X6.to bW).far (p := ⟨w7.heap.size, 0, none⟩) (Nat.ne_of_gt X7X6n) (.slice A5 n5 d5)
              replace h4 := (show NatAt ws28 _ _ _ _ from h4.to bW).put_ X7.cell (.slice A5 n5 d5)
              replace h5 := (show NatAt ws28 _ _ _ _ from h5.to bW).put_ X7.cell (.slice A5 n5 d5)
              have hbws29 := nxs (show Below wf.heap.size wf ws28 from bW) (p := ⟨w7.heap.size, 0, none⟩) X7g (.slice A5 n5 d5)
              replace X7 := X7.set (.slice A5 n5 d5)
              generalize ws28.setCell ⟨w7.heap.size, 0, none⟩ (.slice A5 n5 d5) = ws29 at X7 X6 h4 h5 hbws29 ⊢
              refine hK.out _ _ (KP7 _ bW) (fun hHeld => ?_)
              clear hK K
              try simp only [Act.put, sX, sY, sZ]
              refine anyT_done kR ?_ _
              go_wp2_with fail
              go_meet
              exact ⟨_, A4, n4, d4, _, A5, n5, d5, rfl, rfl, ⟨X6, h4⟩, ⟨X7, h5⟩, (Nat.ne_of_gt X7X6n), bW⟩
        · skip
          go_simp
          have X6 := Blk1.newAt wd7 wd7.heap.size 25 (.slice none 0 0) rfl
          have X6g : wf.heap.size ≤ wd7.heap.size := (show Below wf.heap.size wf wd7 from bW).size
          have hbwa30 := nxa (Below.refl wd7.heap.size wd7) (.cells #[.slice none 0 0] 25)
          generalize wd7.alloc (.cells #[.slice none 0 0] 25) = wa30 at X6 hbwa30 ⊢
          refine hK.out _ _ (KP7 _ bW) (fun hHeld => ?_)
          clear hK K
          try simp only [Act.put, sX, sY, sZ]
          refine anyT_ready (rs := [2, 7]) kR (by simp) (ReadyT.cons gO (fun K hK => ?_) (ReadyT.cons gO (fun K hK => ?_) ReadyT.nil))
          · skip
            go_simp
            go_at_call 27
            (with_reducible refine (use_mul IH _ _ _ _ _ _ _ _ _ (h0.to bW) (h2.to bW) (by have := h0.le_of _ (Nat.lt_of_le_of_lt p3.1 hx.lt); have := h2.le_of _ (Nat.lt_of_le_of_lt p3.2 hy.lt); have := HT.out; omega) (by have := h0.le_of _ p1.1; have := HT.out; omega) (by have := h2.le_of _ p1.2; have := HT.out; omega)).mono ?_)
            rintro e w7 ⟨A4, n4, d4, rfl, h4, hb7⟩
            go_simp
            refine hK.out _ _ (KP7 _ bW) (fun hHeld => ?_)
            clear hK K
            try simp only [Act.put, sX, sY, sZ]
            refine anyT_ready (rs := [5, 7]) kR (by simp) (ReadyT.cons gO (fun K hK => ?_) (ReadyT.cons gO (fun K hK => ?_) ReadyT.nil))
            · skip
              go_simp
              go_at_call 27
              (with_reducible refine (use_mul IH _ _ _ _ _ _ _ _ _ (h1.to bW) (h3.to bW) (by have := h1.le_of _ (Nat.lt_of_le_of_lt p4.1 hx.lt); have := h3.le_of _ (Nat.lt_of_le_of_lt p4.2 hy.lt); have := HT.out; omega) (by have := h1.le_of _ p2.1; have := HT.out; omega) (by have := h3.le_of _ p2.2; have := HT.out; omega)).mono ?_)
              rintro e w8 ⟨A5, n5, d5, rfl, h5, hb8⟩
              go_simp
              refine hK.out _ _ (KP7 _ bW) (fun hHeld => ?_)
              clear hK K
              try simp only [Act.put, sX, sY, sZ]
              refine anyT_ready (rs := [7]) kR (by simp) (ReadyT.cons gO (fun K hK => ?_) ReadyT.nil)
              go_simp
              have X7 := Blk1.newAt w8 w8.heap.size 25 (.slice none 0 0) rfl
              have X7g : wf.heap.size ≤ w8.heap.size := (show Below wf.heap.size wf w8 from bW).size
              have X6X7n := (show Blk1 w8 _ _ _ from X6.to bW).lt
              have hbwa31 := nxa (Below.refl w8.heap.size w8) (.cells #[.slice none 0 0] 25)
              generalize w8.alloc (.cells #[.slice none 0 0] 25) = wa31 at X7 hbwa31 ⊢
              refine hK.out _ _ (KP7 _ bW) (fun hHeld => ?_)
              clear hK K
              try simp only [Act.put, sX, sY, sZ]
              refine anyT_ready (rs := [8]) kR (by simp) (ReadyT.cons gO (fun K hK => ?_) ReadyT.nil)
              replace X6 := (show Blk1 wa31 _ _ _ from X6.to bW)
              rw [if_pos (by rfl)]
              refine wp_store_nat _ _ rfl rfl rfl X6 ?_
              replace X7 := (show Blk1 wa31 _ _ _ from X7.to bW).far (p := ⟨wd7.heap.size, 0, none⟩) (Nat.ne_of_gt X6X7n) (.slice A4 n4 d4)
              replace h4 := (show NatAt wa31 _ _ _ _ from h4.to bW).put_ X6.cell (.slice A4 n4 d4)
              replace h5 := (show NatAt wa31 _ _ _ _ from h5.to bW).put_ X6.cell (.slice A4 n4 d4)
              have hbws32 := nxs (show Below wf.heap.size wf wa31 from bW) (p := ⟨wd7.heap.size, 0, none⟩) X6g (.slice A4 n4 d4)
              replace X6 := X6.set (.slice A4 n4 d4)
              generalize wa31.setCell ⟨wd7.heap.size, 0, none⟩ (.slice A4 n4 d4) = ws32 at X6 X7 h4 h5 hbws32 ⊢
              refine hK.out _ _ (KP7 _ bW) (fun hHeld => ?_)
              clear hK K
              try simp only [Act.put, sX, sY, sZ]
              refine anyT_ready (rs := [9]) kR (by simp) (ReadyT.cons gO (fun K hK => ?_) ReadyT.nil)
              replace X7 := (show Blk1 ws32 _ _ _ from X7.to bW)
              rw [if_pos (by rfl)]
              refine wp_store_nat _ _ rfl rfl rfl X7 ?_
              replace X6 := (show Blk1 ws32 _ _ _ from X6.to bW).far (p := ⟨w8.heap.size, 0, none⟩) (Nat.ne_of_lt X6X7n) (.slice A5 n5 d5)
              replace h4 := (show NatAt ws32 _ _ _ _ from h4.to bW).put_ X7.cell (.slice A5 n5 d5)
              replace h5 := (show NatAt ws32 _ _ _ _ from h5.to bW).put_ X7.cell (.slice A5 n5 d5)
              have hbws33 := nxs (show Below wf.heap.size wf ws32 from bW) (p := ⟨w8.heap.size, 0, none⟩) X7g (.slice A5 n5 d5)
              replace X7 := X7.set (.slice A5 n5 d5)
              generalize ws32.setCell ⟨w8.heap.size, 0, none⟩ (.slice A5 n5 d5) = ws33 at X7 X6 h4 h5 hbws33 ⊢
              refine hK.out _ _ (KP7 _ bW) (fun hHeld => ?_)
              clear hK K
              try simp only [Act.put, sX, sY, sZ]
              refine anyT_done kR ?_ _
              go_wp2_with fail
              go_meet
              exact ⟨_, A4, n4, d4, _, A5, n5, d5, rfl, rfl, ⟨X6, h4⟩, ⟨X7, h5⟩, (Nat.ne_of_lt X6X7n), bW⟩
            · skip
              go_simp
              have X7 := Blk1.newAt w7 w7.heap.size 25 (.slice none 0 0) rfl
              have X7g : wf.heap.size ≤ w7.heap.size := (show Below wf.heap.size wf w7 from bW).size
              have X6X7n := (show Blk1 w7 _ _ _ from X6.to bW).lt
              have hbwa34 := nxa (Below.refl w7.heap.size w7) (.cells #[.slice none 0 0] 25)
              generalize w7.alloc (.cells #[.slice none 0 0] 25) = wa34 at X7 hbwa34 ⊢
              refine hK.out _ _ (KP7 _ bW) (fun hHeld => ?_)
              clear hK K
              try simp only [Act.put, sX, sY, sZ]
              refine anyT_ready (rs := [5]) kR (by simp) (ReadyT.cons gO (fun K hK => ?_) ReadyT.nil)
              go_simp
              go_at_call 27
              (with_reducible refine (use_mul IH _ _ _ _ _ _ _ _ _ (h1.to bW) (h3.to bW) (by have := h1.le_of _ (Nat.lt_of_le_of_lt p4.1 hx.lt); have := h3.le_of _ (Nat.lt_of_le_of_lt p4.2 hy.lt); have := HT.out; omega) (by have := h1.le_of _ p2.1; have := HT.out; omega) (by have := h3.le_of _ p2.2; have := HT.out; omega)).mono ?_)
              rintro e w8 ⟨A5, n5, d5, rfl, h5, hb8⟩
              go_simp
              refine hK.out _ _ (KP7 _ bW) (fun hHeld => ?_)
              clear hK K
              try simp only [Act.put, sX, sY, sZ]
              refine anyT_ready (rs := [8]) kR (by simp) (ReadyT.cons gO (fun K hK => ?_) ReadyT.nil)
              replace X6 := (show Blk1 w8 _ _ _ from X6.to bW)
              rw [if_pos (by rfl)]
              refine wp_store_nat _ _ rfl rfl rfl X6 ?_
              replace X7 := (show Blk1 w8 _ _ _ from X7.to bW).far (p := ⟨wd7.heap.size, 0, none⟩) (Nat.ne_of_gt X6X7n) (.slice A4 n4 d4)
              replace h4 := (show NatAt w8 _ _ _ _ from h4.to bW).put_ X6.cell (.slice A4 n4 d4)
              replace h5 := (show NatAt w8 _ _ _ _ from h5.to bW).put_ X6.cell (.slice A4 n4 d4)
              have hbws35 := nxs (show Below wf.heap.size wf w8 from bW) (p := ⟨wd7.heap.size, 0, none⟩) X6g (.slice A4 n4 d4)
              replace X6 := X6.set (.slice A4 n4 d4)
              generalize w8.setCell ⟨wd7.heap.size, 0, none⟩ (.slice A4 n4 d4) = ws35 at X6 X7 h4 h5 hbws35 ⊢
              refine hK.out _ _ (KP7 _ bW) (fun hHeld => ?_)
              clear hK K
              try simp only [Act.put, sX, sY, sZ]
              refine anyT_ready (rs := [9]) kR (by simp) (ReadyT.cons gO (fun K hK => ?_) ReadyT.nil)
              replace X7 := (show Blk1 ws35 _ _ _ from X7.to bW)
              rw [if_pos (by rfl)]
              refine wp_store_nat _ _ rfl rfl rfl X7 ?_
              replace X6 := (show Blk1 ws35 _ _ _ from X6.to bW).far (p := ⟨w7.heap.size, 0, none⟩) (Nat.ne_of_lt X6X7n) (.slice A5 n5 d5)
              replace h4 := (show NatAt ws35 _ _ _ _ from h4.to bW).put_ X7.cell (.slice A5 n5 d5)
              replace h5 := (show NatAt ws35 _ _ _ _ from h5.to bW).put_ X7.cell (.slice A5 n5 d5)
              have hbws36 := nxs (show Below wf.heap.size wf ws35 from bW) (p := ⟨w7.heap.size, 0, none⟩) X7g (.slice A5 n5 d5)
              replace X7 := X7.set (.slice A5 n5 d5)
              generalize ws35.setCell ⟨w7.heap.size, 0, none⟩ (.slice A5 n5 d5) = ws36 at X7 X6 h4 h5 hbws36 ⊢
              refine hK.out _ _ (KP7 _ bW) (fun hHeld => ?_)
              clear hK K
              try simp only [Act.put, sX, sY, sZ]
              refine anyT_done kR ?_ _
              go_wp2_with fail
              go_meet
              exact ⟨_, A4, n4, d4, _, A5, n5, d5, rfl, rfl, ⟨X6, h4⟩, ⟨X7, h5⟩, (Nat.ne_of_lt X6X7n), bW⟩
          · skip
            go_simp
            have X7 := Blk1.newAt wa30 wa30.heap.size 25 (.slice none 0 0) rfl
            have X7g : wf.heap.size ≤ wa30.heap.size := (show Below wf.heap.size wf wa30 from bW).size
            have X6X7n := (show Blk1 wa30 _ _ _ from X6.to bW).lt
            have hbwa37 := nxa (Below.refl wa30.heap.size wa30) (.cells #[.slice none 0 0] 25)
            generalize wa30.alloc (.cells #[.slice none 0 0] 25) = wa37 at X7 hbwa37 ⊢
            refine hK.out _ _ (KP7 _ bW) (fun hHeld => ?_)
            clear hK K
            try simp only [Act.put, sX, sY, sZ]
            refine anyT_ready (rs := [2]) kR (by simp) (ReadyT.cons gO (fun K hK => ?_) ReadyT.nil)
            go_simp
            go_at_call 27
            (with_reducible refine (use_mul IH _ _ _ _ _ _ _ _ _ (h0.to bW) (h2.to bW) (by have := h0.le_of _ (Nat.lt_of_le_of_lt p3.1 hx.lt); have := h2.le_of _ (Nat.lt_of_le_of_lt p3.2 hy.lt); have := HT.out; omega) (by have := h0.le_of _ p1.1; have := HT.out; omega) (by have := h2.le_of _ p1.2; have := HT.out; omega)).mono ?_)
            rintro e w7 ⟨A4, n4, d4, rfl, h4, hb7⟩
            go_simp
            refine hK.out _ _ (KP7 _ bW) (fun hHeld => ?_)
            clear hK K
            try simp only [Act.put, sX, sY, sZ]
            refine anyT_ready (rs := [5]) kR (by simp) (ReadyT.cons gO (fun K hK => ?_) ReadyT.nil)
            go_simp
            go_at_call 27
            (with_reducible refine (use_mul IH _ _ _ _ _ _ _ _ _ (h1.to bW) (h3.to bW) (by have := h1.le_of _ (Nat.lt_of_le_of_lt p4.1 hx.lt); have := h3.le_of _ (Nat.lt_of_le_of_lt p4.2 hy.lt); have := HT.out; omega) (by have := h1.le_of _ p2.1; have := HT.out; omega) (by have := h3.le_of _ p2.2; have := HT.out; omega)).mono ?_)
            rintro e w8 ⟨A5, n5, d5, rfl, h5, hb8⟩
            go_simp
            refine hK.out _ _ (KP7 _ bW) (fun hHeld => ?_)
            clear hK K
            try simp only [Act.put, sX, sY, sZ]
            refine anyT_ready (rs := [8]) kR (by simp) (ReadyT.cons gO (fun K hK => ?_) ReadyT.nil)
            replace X6 := (show Blk1 w8 _ _ _ from X6.to bW)
            rw [if_pos (by rfl)]
            refine wp_store_nat _ _ rfl rfl rfl X6 ?_
            replace X7 := (show Blk1 w8 _ _ _ from X7.to bW).far (p := ⟨wd7.heap.size, 0, none⟩) (Nat.ne_of_gt X6X7n) (.slice A4 n4 d4)
            replace h4 := (show NatAt w8 _ _ _ _ from h4.to bW).put_ X6.cell (.slice A4 n4 d4)
            replace h5 := (show NatAt w8 _ _ _ _ from h5.to bW).put_ X6.cell (.slice A4 n4 d4)
            have hbws38 := nxs (show Below wf.heap.size wf w8 from bW) (p := ⟨wd7.heap.size, 0, none⟩) X6g (.slice A4 n4 d4)
            replace X6 := X6.set (.slice A4 n4 d4)
            generalize w8.setCell ⟨wd7.heap.size, 0, none⟩ (.slice A4 n4 d4) = ws38 at X6 X7 h4 h5 hbws38 ⊢
            refine hK.out _ _ (KP7 _ bW) (fun hHeld => ?_)
            clear hK K
            try simp only [Act.put, sX, sY, sZ]
            refine anyT_ready (rs := [9]) kR (by simp) (ReadyT.cons gO (fun K hK => ?_) ReadyT.nil)
            replace X7 := (show Blk1 ws38 _ _ _ from X7.to bW)
            rw [if_pos (by rfl)]
            refine wp_store_nat _ _ rfl rfl rfl X7 ?_
            replace X6 := (show Blk1 ws38 _ _ _ from X6.to bW).far (p := ⟨wa30.heap.size, 0, none⟩) (Nat.ne_of_lt X6X7n) (.slice A5 n5 d5)
            replace h4 := (show NatAt ws38 _ _ _ _ from h4.to bW).put_ X7.cell (.slice A5 n5 d5)
            replace h5 := (show NatAt ws38 _ _ _ _ from h5.to bW).put_ X7.cell (.slice A5 n5 d5)
            have hbws39 := nxs (show Below wf.heap.size wf ws38 from bW) (p := ⟨wa30.heap.size, 0, none⟩) X7g (.slice A5 n5 d5)
            replace X7 := X7.set (.slice A5 n5 d5)
            generalize ws38.setCell ⟨wa30.heap.size, 0, none⟩ (.slice A5 n5 d5) = ws39 at X7 X6 h4 h5 hbws39 ⊢
            refine hK.out _ _ (KP7 _ bW) (fun hHeld => ?_)
            clear hK K
            try simp only [Act.put, sX, sY, sZ]
            refine anyT_done kR ?_ _
            go_wp2_with fail
            go_meet
            exact ⟨_, A4, n4, d4, _, A5, n5, d5, rfl, rfl, ⟨X6, h4⟩, ⟨X7, h5⟩, (Nat.ne_of_lt X6X7n), bW⟩
        · skip
          go_simp
          have X7 := Blk1.newAt wd7 wd7.heap.size 25 (.slice none 0 0) rfl
          have X7g : wf.heap.size ≤ wd7.heap.size := (show Below wf.heap.size wf wd7 from bW).size
          have hbwa40 := nxa (Below.refl wd7.heap.size wd7) (.cells #[.slice none 0 0] 25)
          generalize wd7.alloc (.cells #[.slice none 0 0] 25) = wa40 at X7 hbwa40 ⊢
          refine hK.out _ _ (KP7 _ bW) (fun hHeld => ?_)
          clear hK K
          try simp only [Act.put, sX, sY, sZ]
          refine anyT_ready (rs := [2, 6]) kR (by simp) (ReadyT.cons gO (fun K hK => ?_) (ReadyT.cons gO (fun K hK => ?_) ReadyT.nil))
          · skip
            go_simp
            go_at_call 27
            (with_reducible refine (use_mul IH _ _ _ _ _ _ _ _ _ (h0.to bW) (h2.to bW) (by have := h0.le_of _ (Nat.lt_of_le_of_lt p3.1 hx.lt); have := h2.le_of _ (Nat.lt_of_le_of_lt p3.2 hy.lt); have := HT.out; omega) (by have := h0.le_of _ p1.1; have := HT.out; omega) (by have := h2.le_of _ p1.2; have := HT.out; omega)).mono ?_)
            rintro e w7 ⟨A4, n4, d4, rfl, h4, hb7⟩
            go_simp
            refine hK.out _ _ (KP7 _ bW) (fun hHeld => ?_)
            clear hK K
            try simp only [Act.put, sX, sY, sZ]
            refine anyT_ready (rs := [5, 6]) kR (by simp) (ReadyT.cons gO (fun K hK => ?_) (ReadyT.cons gO (fun K hK => ?_) ReadyT.nil))
            · skip
              go_simp
              go_at_call 27
              (with_reducible refine (use_mul IH _ _ _ _ _ _ _ _ _ (h1.to bW) (h3.to bW) (by have := h1.le_of _ (Nat.lt_of_le_of_lt p4.1 hx.lt); have := h3.le_of _ (Nat.lt_of_le_of_lt p4.2 hy.lt); have := HT.out; omega) (by have := h1.le_of _ p2.1; have := HT.out; omega) (by have := h3.le_of _ p2.2; have := HT.out; omega)).mono ?_)
              rintro e w8 ⟨A5, n5, d5, rfl, h5, hb8⟩
              go_simp
              refine hK.out _ _ (KP7 _ bW) (fun hHeld => ?_)
              clear hK K
              try simp only [Act.put, sX, sY, sZ]
              refine anyT_ready (rs := [6]) kR (by simp) (ReadyT.cons gO (fun K hK => ?_) ReadyT.nil)
              go_simp
              have X6 := Blk1.newAt w8 w8.heap.size 25 (.slice none 0 0) rfl
              have X6g : wf.heap.size ≤ w8.heap.size := (show Below wf.heap.size wf w8 from bW).size
              have X7X6n := (show Blk1 w8 _ _ _ from X7.to bW).lt
              have hbwa41 := nxa (Below.refl w8.heap.size w8) (.cells #[.slice none 0 0] 25)
              generalize w8.alloc (.cells #[.slice none 0 0] 25) = wa41 at X6 hbwa41 ⊢
              refine hK.out _ _ (KP7 _ bW) (fun hHeld => ?_)
              clear hK K
              try simp only [Act.put, sX, sY, sZ]
              refine anyT_ready (rs := [8]) kR (by simp) (ReadyT.cons gO (fun K hK => ?_) ReadyT.nil)
              replace X6 := (show Blk1 wa41 _ _ _ from X6.to bW)
              rw [if_pos (by rfl)]
              refine wp_store_nat _ _ rfl rfl rfl X6 ?_
              replace X7 := (show Blk1 wa41 _ _ _ from X7.to bW).far (p := ⟨w8.heap.size, 0, none⟩) (Nat.ne_of_lt X7X6n) (.slice A4 n4 d4)
              replace h4 := (show NatAt wa41 _ _ _ _ from h4.to bW).put_ X6.cell (.slice A4 n4 d4)
              replace h5 := (show NatAt wa41 _ _ _ _ from h5.to bW).put_ X6.cell (.slice A4 n4 d4)
              have hbws42 := nxs (show Below wf.heap.size wf wa41 from bW) (p := ⟨w8.heap.size, 0, none⟩) X6g (.slice A4 n4 d4)
              replace X6 := X6.set (.slice A4 n4 d4)
              generalize wa41.setCell ⟨w8.heap.size, 0, none⟩ (.slice A4 n4 d4) = ws42 at X6 X7 h4 h5 hbws42 ⊢
              refine hK.out _ _ (KP7 _ bW) (fun hHeld => ?_)
              clear hK K
              try simp only [Act.put, sX, sY, sZ]
              refine anyT_ready (rs := [9]) kR (by simp) (ReadyT.cons gO (fun K hK => ?_) ReadyT.nil)
              replace X7 := (show Blk1 ws42 _ _ _ from X7.to bW)
              rw [if_pos (by rfl)]
              refine wp_store_nat _ _ rfl rfl rfl X7 ?_
              replace X6 := (show Blk1 ws42 _ _ _ from X6.to bW).far (p := ⟨wd7.heap.size, 0, none⟩) (Nat.ne_of_gt X7X6n) (.slice A5 n5 d5)
              replace h4 := (show NatAt ws42 _ _ _ _ from h4.to bW).put_ X7.cell (.slice A5 n5 d5)
              replace h5 := (show NatAt ws42 _ _ _ _ from h5.to bW).put_ X7.cell (.slice A5 n5 d5)
              have hbws43 := nxs (show Below wf.heap.size wf ws42 from bW) (p := ⟨wd7.heap.size, 0, none⟩) X7g (.slice A5 n5 d5)
              replace X7 := X7.set (.slice A5 n5 d5)
              generalize ws42.setCell ⟨wd7.heap.size, 0, none⟩ (.slice A5 n5 d5) = ws43 at X7 X6 h4 h5 hbws43 ⊢
              refine hK.out _ _ (KP7 _ bW) (fun hHeld => ?_)
              clear hK K
              try simp only [Act.put, sX, sY, sZ]
              refine anyT_done kR ?_ _
              go_wp2_with fail
              go_meet
              exact ⟨_, A4, n4, d4, _, A5, n5, d5, rfl, rfl, ⟨X6, h4⟩, ⟨X7, h5⟩, (Nat.ne_of_gt X7X6n), bW⟩
            · skip
              go_simp
              have X6 := Blk1.newAt w7 w7.heap.size 25 (.slice none 0 0) rfl
              have X6g : wf.heap.size ≤ w7.heap.size := (show Below wf.heap.size wf w7 from bW).size
              have X7X6n := (show Blk1 w7 _ _ _ from X7.to bW).lt
              have hbwa44 := nxa (Below.refl w7.heap.size w7) (.cells #[.slice none 0 0] 25)
              generalize w7.alloc (.cells #[.slice none 0 0] 25) = wa44 at X6 hbwa44 ⊢
              refine hK.out _ _ (KP7 _ bW) (fun hHeld => ?_)
              clear hK K
              try simp only [Act.put, sX, sY, sZ]
              refine anyT_ready (rs := [5]) kR (by simp) (ReadyT.cons gO (fun K hK => ?_) ReadyT.nil)
              go_simp
              go_at_call 27
              (with_reducible refine (use_mul IH _ _ _ _ _ _ _ _ _ (h1.to bW) (h3.to bW) (by have := h1.le_of _ (Nat.lt_of_le_of_lt p4.1 hx.lt); have := h3.le_of _ (Nat.lt_of_le_of_lt p4.2 hy.lt); have := HT.out; omega) (by have := h1.le_of _ p2.1; have := HT.out; omega) (by have := h3.le_of _ p2.2; have := HT.out; omega)).mono ?_)
              rintro e w8 ⟨A5, n5, d5, rfl, h5, hb8⟩
              go_simp
              refine hK.out _ _ (KP7 _ bW) (fun hHeld => ?_)
              clear hK K
              try simp only [Act.put, sX, sY, sZ]
              refine anyT_ready (rs := [8]) kR (by simp) (ReadyT.cons gO (fun K hK => ?_) ReadyT.nil)
              replace X6 := (show Blk1 w8 _ _ _ from X6.to bW)
              rw [if_pos (by rfl)]
              refine wp_store_nat _ _ rfl rfl rfl X6 ?_
              replace X7 := (show Blk1 w8 _ _ _ from X7.to bW).far (p := ⟨w7.heap.size, 0, none⟩) (Nat.ne_of_lt X7X6n) (.slice A4 n4 d4)
              replace h4 := (show NatAt w8 _ _ _ _ from h4.to bW).put_ X6.cell (.slice A4 n4 d4)
              replace h5 := (show NatAt w8 _ _ _ _ from h5.to bW).put_ X6.cell (.slice A4 n4 d4)
              have hbws45 := nxs (show Below wf.heap.size wf w8 from bW) (p := ⟨w7.heap.size, 0, none⟩) X6g (.slice A4 n4 d4)
              replace X6 := X6.set (.slice A4 n4 d4)
              generalize w8.setCell ⟨w7.heap.size, 0, none⟩ (.slice A4 n4 d4) = ws45 at X6 X7 h4 h5 hbws45 ⊢
              refine hK.out _ _ (KP7 _ bW) (fun hHeld => ?_)
              clear hK K
              try simp only [Act.put, sX, sY, sZ]
              refine anyT_ready (rs := [9]) kR (by simp) (ReadyT.cons gO (fun K hK => ?_) ReadyT.nil)
              replace X7 := (show Blk1 ws45 _ _ _ from X7.to bW)
              rw [if_pos (by rfl)]
              refine wp_store_nat _ _ rfl rfl rfl X7 ?_
              replace X6 := (show Blk1 ws45 _ _ _ from X6.to bW).far (p := ⟨wd7.heap.size, 0, none⟩) (Nat.ne_of_gt X7X6n) (.slice A5 n5 d5)
              replace h4 := (show NatAt ws45 _ _ _ _ from h4.to bW).put_ X7.cell (.slice A5 n5 d5)
              replace h5 := (show NatAt ws45 _ _ _ _ from h5.to bW).put_ X7.cell (.slice A5 n5 d5)
              have hbws46 := nxs (show Below wf.heap.size wf ws45 from bW) (p := ⟨wd7.heap.size, 0, none⟩) X7g (.slice A5 n5 d5)
              replace X7 := X7.set (.slice A5 n5 d5)
              generalize ws45.setCell ⟨wd7.heap.size, 0, none⟩ (.slice A5 n5 d5) = ws46 at X7 X6 h4 h5 hbws46 ⊢
              refine hK.out _ _ (KP7 _ bW) (fun hHeld => ?_)
              clear hK K
              try simp only [Act.put, sX, sY, sZ]
              refine anyT_done kR ?_ _
              go_wp2_with fail
              go_meet
              exact ⟨_, A4, n4, d4, _, A5, n5, d5, rfl, rfl, ⟨X6, h4⟩, ⟨X7, h5⟩, (Nat.ne_of_gt X7X6n), bW⟩
          · skip
            go_simp
            have X6 := Blk1.newAt wa40 wa40.heap.size 25 (.slice none 0 0) rfl
            have X6g : wf.heap.size ≤ wa40.heap.size := (show Below wf.heap.size wf wa40 from bW).size
            have X7X6n := (show Blk1 wa40 _ _ _ from X7.to bW).lt
            have hbwa47 := nxa (Below.refl wa40.heap.size wa40) (.cells #[.slice none 0 0] 25)
            generalize wa40.alloc (.cells #[.slice none 0 0] 25) = wa47 at X6 hbwa47 ⊢
            refine hK.out _ _ (KP7 _ bW) (fun hHeld => ?_)
            clear hK K
            try simp only [Act.put, sX, sY, sZ]
            refine anyT_ready (rs := [2]) kR (by simp) (ReadyT.cons gO (fun K hK => ?_) ReadyT.nil)
            go_simp
            go_at_call 27
            (with_reducible refine (use_mul IH _ _ _ _ _ _ _ _ _ (h0.to bW) (h2.to bW) (by have := h0.le_of _ (Nat.lt_of_le_of_lt p3.1 hx.lt); have := h2.le_of _ (Nat.lt_of_le_of_lt p3.2 hy.lt); have := HT.out; omega) (by have := h0.le_of _ p1.1; have := HT.out; omega) (by have := h2.le_of _ p1.2; have := HT.out; omega)).mono ?_)
            rintro e w7 ⟨A4, n4, d4, rfl, h4, hb7⟩
            go_simp
            refine hK.out _ _ (KP7 _ bW) (fun hHeld => ?_)
            clear hK K
            try simp only [Act.put, sX, sY, sZ]
            refine anyT_ready (rs := [5]) kR (by simp) (ReadyT.cons gO (fun K hK => ?_) ReadyT.nil)
            go_simp
            go_at_call 27
            (with_reducible refine (use_mul IH _ _ _ _ _ _ _ _ _ (h1.to bW) (h3.to bW) (by have := h1.le_of _ (Nat.lt_of_le_of_lt p4.1 hx.lt); have := h3.le_of _ (Nat.lt_of_le_of_lt p4.2 hy.lt); have := HT.out; omega) (by have := h1.le_of _ p2.1; have := HT.out; omega) (by have := h3.le_of _ p2.2; have := HT.out; omega)).mono ?_)
            rintro e w8 ⟨A5, n5, d5, rfl, h5, hb8⟩
            go_simp
            refine hK.out _ _ (KP7 _ bW) (fun hHeld => ?_)
            clear hK K
            try simp only [Act.put, sX, sY, sZ]
            refine anyT_ready (rs := [8]) kR (by simp) (ReadyT.cons gO (fun K hK => ?_) ReadyT.nil)
            replace X6 := (show Blk1 w8 _ _ _ from X6.to bW)
            rw [if_pos (by rfl)]
            refine wp_store_nat _ _ rfl rfl rfl X6 ?_
            replace X7 := (show Blk1 w8 _ _ _ from X7.to bW).far (p := ⟨wa40.heap.size, 0, none⟩) (Nat.ne_of_lt X7X6n) (.slice A4 n4 d4)
            replace h4 := (show NatAt w8 _ _ _ _ from h4.to bW).put_ X6.cell (.slice A4 n4 d4)
            replace h5 := (show NatAt w8 _ _ _ _ from h5.to bW).put_ X6.cell (.slice A4 n4 d4)
            have hbws48 := nxs (show Below wf.heap.size wf w8 from bW) (p := ⟨wa40.heap.size, 0, none⟩) X6g (.slice A4 n4 d4)
            replace X6 := X6.set (.slice A4 n4 d4)
            generalize w8.setCell ⟨wa40.heap.size, 0, none⟩ (.slice A4 n4 d4) = ws48 at X6 X7 h4 h5 hbws48 ⊢
            refine hK.out _ _ (KP7 _ bW) (fun hHeld => ?_)
            clear hK K
            try simp only [Act.put, sX, sY, sZ]
            refine anyT_ready (rs := [9]) kR (by simp) (ReadyT.cons gO (fun K hK => ?_) ReadyT.nil)
            replace X7 := (show Blk1 ws48 _ _ _ from X7.to bW)
            rw [if_pos (by rfl)]
            refine wp_store_nat _ _ rfl rfl rfl X7 ?_
            replace X6 := (show Blk1 ws48 _ _ _ from X6.to bW).far (p := ⟨wd7.heap.size, 0, none⟩) (Nat.ne_of_gt X7X6n) (.slice A5 n5 d5)
            replace h4 := (show NatAt ws48 _ _ _ _ from h4.to bW).put_ X7.cell (.slice A5 n5 d5)
            replace h5 := (show NatAt ws48 _ _ _ _ from h5.to bW).put_ X7.cell (.slice A5 n5 d5)
            have hbws49 := nxs (show Below wf.heap.size wf ws48 from bW) (p := ⟨wd7.heap.size, 0, none⟩) X7g (.slice A5 n5 d5)
            replace X7 := X7.set (.slice A5 n5 d5)
            generalize ws48.setCell ⟨wd7.heap.size, 0, none⟩ (.slice A5 n5 d5) = ws49 at X7 X6 h4 h5 hbws49 ⊢
            refine hK.out _ _ (KP7 _ bW) (fun hHeld => ?_)
            clear hK K
            try simp only [Act.put, sX, sY, sZ]
            refine anyT_done kR ?_ _
            go_wp2_with fail
            go_meet
            exact ⟨_, A4, n4, d4, _, A5, n5, d5, rfl, rfl, ⟨X6, h4⟩, ⟨X7, h5⟩, (Nat.ne_of_gt X7X6n), bW⟩
      case rest =>
        rename World => wq
        obtain ⟨g6, A4, n4, d4, g7, A5, n5, d5, rfl, rfl, ⟨L4, h4⟩, ⟨L5, h5⟩, hne, hbc⟩ := hcut
        replace L0 := L0.to hbc
        replace h0 := h0.to hbc
        replace L1 := L1.to hbc
        replace h1 := h1.to hbc
        replace L2 := L2.to hbc
        replace h2 := h2.to hbc
        replace L3 := L3.to hbc
        replace h3 := h3.to hbc
        replace hbf := nx hbf hbc
        clear hbc
        have q0 := h0.le_of n (Nat.lt_of_le_of_lt p3.1 hx.lt)
        have q1 := h1.le_of n (Nat.lt_of_le_of_lt p4.1 hx.lt)
        have q2 := h2.le_of n' (Nat.lt_of_le_of_lt p3.2 hy.lt)
        have q3 := h3.le_of n' (Nat.lt_of_le_of_lt p4.2 hy.lt)
        go_wp2_with fail
        go_cut [12] (fun p wc => One wq 25 ((x0 + x1) * (y0 + y1)) p wc)
        case first =>
          have CL0 := (show Blk1 wq _ _ _ from L0.to bW).cell
          have CL1 := (show Blk1 wq _ _ _ from L1.to bW).cell
          have CL2 := (show Blk1 wq _ _ _ from L2.to bW).cell
          have CL3 := (show Blk1 wq _ _ _ from L3.to bW).cell
          have KP8 : ∀ w', Below wq.heap.size wq w' → w'.cell? ⟨w5.heap.size, 0, none⟩ = some (.slice A0 n0 d0) ∧ w'.cell? ⟨w5.heap.size + 1, 0, none⟩ = some (.slice A1 n1 d1) ∧ w'.cell? ⟨w6.heap.size, 0, none⟩ = some (.slice A2 n2 d2) ∧ w'.cell? ⟨w6.heap.size + 1, 0, none⟩ = some (.slice A3 n3 d3) ∧ True := fun w' hw' => ⟨cellB hw' CL0, cellB hw' CL1, cellB hw' CL2, cellB hw' CL3, trivial⟩
          refine wp_regionT (S := fun w' => w'.cell? ⟨w5.heap.size, 0, none⟩ = some (.slice A0 n0 d0) ∧ w'.cell? ⟨w5.heap.size + 1, 0, none⟩ = some (.slice A1 n1 d1) ∧ w'.cell? ⟨w6.heap.size, 0, none⟩ = some (.slice A2 n2 d2) ∧ w'.cell? ⟨w6.heap.size + 1, 0, none⟩ = some (.slice A3 n3 d3) ∧ True) [] kR (KP8 _ bW) (fun hHeld => ?_)
          have hbd50 : Below wq.heap.size wq wq.drew := nxw (Below.refl _ _)
          generalize wq.drew = wd50 at hHeld hbd50 ⊢
          refine anyT_take (i := 0) (v := ?_) gO kR kR kR kR (by exact fun _ _ _ h => h) (Or.inl ⟨by rfl, ?_⟩) (by assumption) ?_
          rotate_left
          · intro w hSw; (try dsimp only at hSw); go_simp; try with_reducible rfl
          try simp only [Act.put, sX, sY, sZ]
          refine anyT_take (i := 1) (v := ?_) gO kR kR kR kR (by exact fun _ _ _ h => h) (Or.inl ⟨by rfl, ?_⟩) (by assumption) ?_
          rotate_left
          · intro w hSw; (try dsimp only at hSw); go_simp; try with_reducible rfl
          try simp only [Act.put, sX, sY, sZ]
          refine anyT_take (i := 3) (v := ?_) gO kR kR kR kR (by exact fun _ _ _ h => h) (Or.inl ⟨by rfl, ?_⟩) (by assumption) ?_
          rotate_left
          · intro w hSw; (try dsimp only at hSw); go_simp; try with_reducible rfl
          try simp only [Act.put, sX, sY, sZ]
          refine anyT_take (i := 4) (v := ?_) gO kR kR kR kR (by exact fun _ _ _ h => h) (Or.inl ⟨by rfl, ?_⟩) (by assumption) ?_
          rotate_left
          · intro w hSw; (try dsimp only at hSw); go_simp; try with_reducible rfl
          try simp only [Act.put, sX, sY, sZ]
          refine anyT_ready (rs := [2, 7]) kR (by simp) (ReadyT.cons gO (fun K hK => ?_) (ReadyT.cons gO (fun K hK => ?_) ReadyT.nil))
          · skip
            go_simp
            go_at_call 28
            (with_reducible refine (nat_Add _ _ _ _ _ _ _ _ _ (h0.to bW) (h1.to bW) (by have := HT.out; omega) (by have := HT.out; omega)).mono ?_)
            rintro e w7 ⟨A6, n6, d6, rfl, h6, hb7⟩
            have q6 := h6.le_of n (Nat.lt_of_le_of_lt p5.2 hx.lt)
            have r6 := h6.le_of _ p5.1
            go_simp
            refine hK.out _ _ (KP8 _ bW) (fun hHeld => ?_)
            clear hK K
            try simp only [Act.put, sX, sY, sZ]
            refine anyT_ready (rs := [5, 7]) kR (by simp) (ReadyT.cons gO (fun K hK => ?_) (ReadyT.cons gO (fun K hK => ?_) ReadyT.nil))
            · skip
              go_simp
              go_at_call 28
              (with_reducible refine (nat_Add _ _ _ _ _ _ _ _ _ (h2.to bW) (h3.to bW) (by have := HT.out; omega) (by have := HT.out; omega)).mono ?_)
              rintro e w8 ⟨A7, n7, d7, rfl, h7, hb8⟩
              have q7 := h7.le_of n' (Nat.lt_of_le_of_lt p6.2 hy.lt)
              have r7 := h7.le_of _ p6.1
              go_simp
              refine hK.out _ _ (KP8 _ bW) (fun hHeld => ?_)
              clear hK K
              try simp only [Act.put, sX, sY, sZ]
              refine anyT_ready (rs := [6, 7]) kR (by simp) (ReadyT.cons gO (fun K hK => ?_) (ReadyT.cons gO (fun K hK => ?_) ReadyT.nil))
              · skip
                go_simp
                go_at_call 27
                (with_reducible refine (use_mul IH _ _ _ _ _ _ _ _ _ (h6.to bW) (h7.to bW) (by have := HT.out; omega) (by have := HT.out; omega) (by have := HT.out; omega)).mono ?_)
                rintro e w9 ⟨A8, n8, d8, rfl, h8, hb9⟩
                go_simp
                refine hK.out _ _ (KP8 _ bW) (fun hHeld => ?_)
                clear hK K
                try simp only [Act.put, sX, sY, sZ]
                refine anyT_ready (rs := [7]) kR (by simp) (ReadyT.cons gO (fun K hK => ?_) ReadyT.nil)
                go_simp
                have X6 := Blk1.newAt w9 w9.heap.size 25 (.slice none 0 0) rfl
                have X6g : wq.heap.size ≤ w9.heap.size := (show Below wq.heap.size wq w9 from bW).size
                have hbwa51 := nxa (Below.refl w9.heap.size w9) (.cells #[.slice none 0 0] 25)
                generalize w9.alloc (.cells #[.slice none 0 0] 25) = wa51 at X6 hbwa51 ⊢
                refine hK.out _ _ (KP8 _ bW) (fun hHeld => ?_)
                clear hK K
                try simp only [Act.put, sX, sY, sZ]
                refine anyT_ready (rs := [8]) kR (by simp) (ReadyT.cons gO (fun K hK => ?_) ReadyT.nil)
                replace X6 := (show Blk1 wa51 _ _ _ from X6.to bW)
                rw [if_pos (by rfl)]
                refine wp_store_nat _ _ rfl rfl rfl X6 ?_
                replace h8 := (show NatAt wa51 _ _ _ _ from h8.to bW).put_ X6.cell (.slice A8 n8 d8)
                have hbws52 := nxs (show Below wq.heap.size wq wa51 from bW) (p := ⟨w9.heap.size, 0, none⟩) X6g (.slice A8 n8 d8)
                replace X6 := X6.set (.slice A8 n8 d8)
                generalize wa51.setCell ⟨w9.heap.size, 0, none⟩ (.slice A8 n8 d8) = ws52 at X6 h8 hbws52 ⊢
                refine hK.out _ _ (KP8 _ bW) (fun hHeld => ?_)
                clear hK K
                try simp only [Act.put, sX, sY, sZ]
                refine anyT_done kR ?_ _
                go_wp2_with fail
                go_meet
                exact ⟨_, A8, n8, d8, rfl, ⟨X6, h8⟩, bW⟩
              · skip
                go_simp
                have X6 := Blk1.newAt w8 w8.heap.size 25 (.slice none 0 0) rfl
                have X6g : wq.heap.size ≤ w8.heap.size := (show Below wq.heap.size wq w8 from bW).size
                have hbwa53 := nxa (Below.refl w8.heap.size w8) (.cells #[.slice none 0 0] 25)
                generalize w8.alloc (.cells #[.slice none 0 0] 25) = wa53 at X6 hbwa53 ⊢
                refine hK.out _ _ (KP8 _ bW) (fun hHeld => ?_)
                clear hK K
                try simp only [Act.put, sX, sY, sZ]
                refine anyT_ready (rs := [6]) kR (by simp) (ReadyT.cons gO (fun K hK => ?_) ReadyT.nil)
                go_simp
                go_at_call 27
                (with_reducible refine (use_mul IH _ _ _ _ _ _ _ _ _ (h6.to bW) (h7.to bW) (by have := HT.out; omega) (by have := HT.out; omega) (by have := HT.out; omega)).mono ?_)
                rintro e w9 ⟨A8, n8, d8, rfl, h8, hb9⟩
                go_simp
                refine hK.out _ _ (KP8 _ bW) (fun hHeld => ?_)
                clear hK K
                try simp only [Act.put, sX, sY, sZ]
                refine anyT_ready (rs := [8]) kR (by simp) (ReadyT.cons gO (fun K hK => ?_) ReadyT.nil)
                replace X6 := (show Blk1 w9 _ _ _ from X6.to bW)
                rw [if_pos (by rfl)]
                refine wp_store_nat _ _ rfl rfl rfl X6 ?_
                replace h8 := (show NatAt w9 _ _ _ _ from h8.to bW).put_ X6.cell (.slice A8 n8 d8)
                have hbws54 := nxs (show Below wq.heap.size wq w9 from bW) (p := ⟨w8.heap.size, 0, none⟩) X6g (.slice A8 n8 d8)
                replace X6 := X6.set (.slice A8 n8 d8)
                generalize w9.setCell ⟨w8.heap.size, 0, none⟩ (.slice A8 n8 d8) = ws54 at X6 h8 hbws54 ⊢
                refine hK.out _ _ (KP8 _ bW) (fun hHeld => ?_)
                clear hK K
                try simp only [Act.put, sX, sY, sZ]
                refine anyT_done kR ?_ _
                go_wp2_with fail
                go_meet
                exact ⟨_, A8, n8, d8, rfl, ⟨X6, h8⟩, bW⟩
            · skip
              go_simp
              have X6 := Blk1.newAt w7 w7.heap.size 25 (.slice none 0 0) rfl
              have X6g : wq.heap.size ≤ w7.heap.size := (show Below wq.heap.size wq w7 from bW).size
              have hbwa55 := nxa (Below.refl w7.heap.size w7) (.cells #[.slice none 0 0] 25)
              generalize w7.alloc (.cells #[.slice none 0 0] 25) = wa55 at X6 hbwa55 ⊢
              refine hK.out _ _ (KP8 _ bW) (fun hHeld => ?_)
              clear hK K
              try simp only [Act.put, sX, sY, sZ]
              refine anyT_ready (rs := [5]) kR (by simp) (ReadyT.cons gO (fun K hK => ?_) ReadyT.nil)
              go_simp
              go_at_call 28
              (with_reducible refine (nat_Add _ _ _ _ _ _ _ _ _ (h2.to bW) (h3.to bW) (by have := HT.out; omega) (by have := HT.out; omega)).mono ?_)
              rintro e w8 ⟨A7, n7, d7, rfl, h7, hb8⟩
              have q7 := h7.le_of n' (Nat.lt_of_le_of_lt p6.2 hy.lt)
              have r7 := h7.le_of _ p6.1
              go_simp
              refine hK.out _ _ (KP8 _ bW) (fun hHeld => ?_)
              clear hK K
              try simp only [Act.put, sX, sY, sZ]
              refine anyT_ready (rs := [6]) kR (by simp) (ReadyT.cons gO (fun K hK => ?_) ReadyT.nil)
              go_simp
              go_at_call 27
              (with_reducible refine (use_mul IH _ _ _ _ _ _ _ _ _ (h6.to bW) (h7.to bW) (by have := HT.out; omega) (by have := HT.out; omega) (by have := HT.out; omega)).mono ?_)
              rintro e w9 ⟨A8, n8, d8, rfl, h8, hb9⟩
              go_simp
              refine hK.out _ _ (KP8 _ bW) (fun hHeld => ?_)
              clear hK K
              try simp only [Act.put, sX, sY, sZ]
              refine anyT_ready (rs := [8]) kR (by simp) (ReadyT.cons gO (fun K hK => ?_) ReadyT.nil)
              replace X6 := (show Blk1 w9 _ _ _ from X6.to bW)
              rw [if_pos (by rfl)]
              refine wp_store_nat _ _ rfl rfl rfl X6 ?_
              replace h8 := (show NatAt w9 _ _ _ _ from h8.to bW).put_ X6.cell (.slice A8 n8 d8)
              have hbws56 := nxs (show Below wq.heap.size wq w9 from bW) (p := ⟨w7.heap.size, 0, none⟩) X6g (.slice A8 n8 d8)
              replace X6 := X6.set (.slice A8 n8 d8)
              generalize w9.setCell ⟨w7.heap.size, 0, none⟩ (.slice A8 n8 d8) = ws56 at X6 h8 hbws56 ⊢
              refine hK.out _ _ (KP8 _ bW) (fun hHeld => ?_)
              clear hK K
              try simp only [Act.put, sX, sY, sZ]
              refine anyT_done kR ?_ _
              go_wp2_with fail
              go_meet
              exact ⟨_, A8, n8, d8, rfl, ⟨X6, h8⟩, bW⟩
          · skip
            go_simp
            have X6 := Blk1.newAt wd50 wd50.heap.size 25 (.slice none 0 0) rfl
            have X6g : wq.heap.size ≤ wd50.heap.size := (show Below wq.heap.size wq wd50 from bW).size
            have hbwa57 := nxa (Below.refl wd50.heap.size wd50) (.cells #[.slice none 0 0] 25)
            generalize wd50.alloc (.cells #[.slice none 0 0] 25) = wa57 at X6 hbwa57 ⊢
            refine hK.out _ _ (KP8 _ bW) (fun hHeld => ?_)
            clear hK K
            try simp only [Act.put, sX, sY, sZ]
            refine anyT_ready (rs := [2]) kR (by simp) (ReadyT.cons gO (fun K hK => ?_) ReadyT.nil)
            go_simp
            go_at_call 28
            (with_reducible refine (nat_Add _ _ _ _ _ _ _ _ _ (h0.to bW) (h1.to bW) (by have := HT.out; omega) (by have := HT.out; omega)).mono ?_)
            rintro e w7 ⟨A6, n6, d6, rfl, h6, hb7⟩
            have q6 := h6.le_of n (Nat.lt_of_le_of_lt p5.2 hx.lt)
            have r6 := h6.le_of _ p5.1
            go_simp
            refine hK.out _ _ (KP8 _ bW) (fun hHeld => ?_)
            clear hK K
            try simp only [Act.put, sX, sY, sZ]
            refine anyT_ready (rs := [5]) kR (by simp) (ReadyT.cons gO (fun K hK => ?_) ReadyT.nil)
            go_simp
            go_at_call 28
            (with_reducible refine (nat_Add _ _ _ _ _ _ _ _ _ (h2.to bW) (h3.to bW) (by have := HT.out; omega) (by have := HT.out; omega)).mono ?_)
            rintro e w8 ⟨A7, n7, d7, rfl, h7, hb8⟩
            have q7 := h7.le_of n' (Nat.lt_of_le_of_lt p6.2 hy.lt)
            have r7 := h7.le_of _ p6.1
            go_simp
            refine hK.out _ _ (KP8 _ bW) (fun hHeld => ?_)
            clear hK K
            try simp only [Act.put, sX, sY, sZ]
            refine anyT_ready (rs := [6]) kR (by simp) (ReadyT.cons gO (fun K hK => ?_) ReadyT.nil)
            go_simp
            go_at_call 27
            (with_reducible refine (use_mul IH _ _ _ _ _ _ _ _ _ (h6.to bW) (h7.to bW) (by have := HT.out; omega) (by have := HT.out; omega) (by have := HT.out; omega)).mono ?_)
            rintro e w9 ⟨A8, n8, d8, rfl, h8, hb9⟩
            go_simp
            refine hK.out _ _ (KP8 _ bW) (fun hHeld => ?_)
            clear hK K
            try simp only [Act.put, sX, sY, sZ]
            refine anyT_ready (rs := [8]) kR (by simp) (ReadyT.cons gO (fun K hK => ?_) ReadyT.nil)
            replace X6 := (show Blk1 w9 _ _ _ from X6.to bW)
            rw [if_pos (by rfl)]
            refine wp_store_nat _ _ rfl rfl rfl X6 ?_
            replace h8 := (show NatAt w9 _ _ _ _ from h8.to bW).put_ X6.cell (.slice A8 n8 d8)
            have hbws58 := nxs (show Below wq.heap.size wq w9 from bW) (p := ⟨wd50.heap.size, 0, none⟩) X6g (.slice A8 n8 d8)
            replace X6 := X6.set (.slice A8 n8 d8)
            generalize w9.setCell ⟨wd50.heap.size, 0, none⟩ (.slice A8 n8 d8) = ws58 at X6 h8 hbws58 ⊢
            refine hK.out _ _ (KP8 _ bW) (fun hHeld => ?_)
            clear hK K
            try simp only [Act.put, sX, sY, sZ]
            refine anyT_done kR ?_ _
            go_wp2_with fail
            go_meet
            exact ⟨_, A8, n8, d8, rfl, ⟨X6, h8⟩, bW⟩
        case rest =>
          rename World => wr
          obtain ⟨g8, A6, n6, d6, rfl, ⟨L6, h6⟩, hbc⟩ := hcut
          replace L4 := L4.to hbc
          replace h4 := h4.to hbc
          replace L5 := L5.to hbc
          replace h5 := h5.to hbc
          replace hbf := nx hbf hbc
          clear hbc L0 L1 L2 L3 h0 h1 h2 h3
          have q6 := h6.le_of _ p7
          have e10 := Nat.lt_of_le_of_lt p10 p7
          have q4 := h4.le_of (n + n') (by have := HT.out; omega)
          have q5 := h5.le_of (n + n') (by have := HT.out; omega)
          clear e10
          go_wp2_with fail
          go_cut [13, 14] (fun p q wc => One wr 25 ((x0 + x1) * (y0 + y1) - (x0 * y0 + x1 * y1)) p wc)
          case first =>
            have CL6 := (show Blk1 wr _ _ _ from L6.to bW).cell
            have CL4 := (show Blk1 wr _ _ _ from L4.to bW).cell
            have CL5 := (show Blk1 wr _ _ _ from L5.to bW).cell
            have KP9 : ∀ w', Below wr.heap.size wr w' → w'.cell? ⟨g8, 0, none⟩ = some (.slice A6 n6 d6) ∧ w'.cell? ⟨g6, 0, none⟩ = some (.slice A4 n4 d4) ∧ w'.cell? ⟨g7, 0, none⟩ = some (.slice A5 n5 d5) ∧ True := fun w' hw' => ⟨cellB hw' CL6, cellB hw' CL4, cellB hw' CL5, trivial⟩
            refine wp_regionT (S := fun w' => w'.cell? ⟨g8, 0, none⟩ = some (.slice A6 n6 d6) ∧ w'.cell? ⟨g6, 0, none⟩ = some (.slice A4 n4 d4) ∧ w'.cell? ⟨g7, 0, none⟩ = some (.slice A5 n5 d5) ∧ True) [] kR (KP9 _ bW) (fun hHeld => ?_)
            have hbd59 : Below wr.heap.size wr wr.drew := nxw (Below.refl _ _)
            generalize wr.drew = wd59 at hHeld hbd59 ⊢
            refine anyT_take (i := 0) (v := ?_) gO kR kR kR kR (by exact fun _ _ _ h => h) (Or.inl ⟨by rfl, ?_⟩) (by assumption) ?_
            rotate_left
            · intro w hSw; (try dsimp only at hSw); go_simp; try with_reducible rfl
            try simp only [Act.put, sX, sY, sZ]
            refine anyT_take (i := 1) (v := ?_) gO kR kR kR kR (by exact fun _ _ _ h => h) (Or.inl ⟨by rfl, ?_⟩) (by assumption) ?_
            rotate_left
            · intro w hSw; (try dsimp only at hSw); go_simp; try with_reducible rfl
            try simp only [Act.put, sX, sY, sZ]
            refine anyT_take (i := 2) (v := ?_) gO kR kR kR kR (by exact fun _ _ _ h => h) (Or.inl ⟨by rfl, ?_⟩) (by assumption) ?_
            rotate_left
            · intro w hSw; (try dsimp only at hSw); go_simp; try with_reducible rfl
            try simp only [Act.put, sX, sY, sZ]
            refine anyT_ready (rs := [3, 8]) kR (by simp) (ReadyT.cons gO (fun K hK => ?_) (ReadyT.cons gO (fun K hK => ?_) ReadyT.nil))
            · skip
              go_simp
              go_at_call 28
              (with_reducible refine (nat_Add _ _ _ _ _ _ _ _ _ (h4.to bW) (h5.to bW) (by have := HT.out; omega) (by have := HT.out; omega)).mono ?_)
              rintro e w7 ⟨A7, n7, d7, rfl, h7, hb7⟩
              go_simp
              refine hK.out _ _ (KP9 _ bW) (fun hHeld => ?_)
              clear hK K
              try simp only [Act.put, sX, sY, sZ]
              refine anyT_ready (rs := [4, 8]) kR (by simp) (ReadyT.cons gO (fun K hK => ?_) (ReadyT.cons gO (fun K hK => ?_) ReadyT.nil))
              · skip
                go_simp
                go_at_call 40
                (with_reducible refine (nat_Sub _ _ _ _ _ _ _ _ _ (h6.to bW) (h7.to bW) (by have := HT.out; omega)).mono ?_)
                rintro e w9 ⟨A8, n8, d8, rfl, h8, hb9⟩
                go_simp
                refine hK.out _ _ (KP9 _ bW) (fun hHeld => ?_)
                clear hK K
                try simp only [Act.put, sX, sY, sZ]
                refine anyT_take (i := 5) (v := ?_) gO kR kR kR kR (by exact fun _ _ _ h => h) (Or.inl ⟨by rfl, ?_⟩) (by assumption) ?_
                rotate_left
                · intro w hSw; (try dsimp only at hSw); go_simp; try with_reducible rfl
                try simp only [Act.put, sX, sY, sZ]
                refine anyT_take (i := 6) (v := ?_) gO kR kR kR kR (by exact fun _ _ _ h => h) (Or.inl ⟨by rfl, ?_⟩) (by assumption) ?_
                rotate_left
                · intro w hSw; (try dsimp only at hSw); go_simp; try with_reducible rfl
                try simp only [Act.put, sX, sY, sZ]
                refine anyT_take (i := 7) (v := ?_) gO kR kR kR kR (by exact fun _ _ _ h => h) (Or.inl ⟨by rfl, ?_⟩) (by assumption) ?_
                rotate_left
                · intro w hSw; (try dsimp only at hSw); go_simp; try with_reducible rfl
                try simp only [Act.put, sX, sY, sZ]
                refine anyT_ready (rs := [8]) kR (by simp) (ReadyT.cons gO (fun K hK => ?_) ReadyT.nil)
                go_simp
                have X6 := Blk1.newAt w9 w9.heap.size 25 (.slice none 0 0) rfl
                have X6g : wr.heap.size ≤ w9.heap.size := (show Below wr.heap.size wr w9 from bW).size
                have hbwa60 := nxa (Below.refl w9.heap.size w9) (.cells #[.slice none 0 0] 25)
                generalize w9.alloc (.cells #[.slice none 0 0] 25) = wa60 at X6 hbwa60 ⊢
                refine hK.out _ _ (KP9 _ bW) (fun hHeld => ?_)
                clear hK K
                try simp only [Act.put, sX, sY, sZ]
                refine anyT_ready (rs := [9]) kR (by simp) (ReadyT.cons gO (fun K hK => ?_) ReadyT.nil)
                replace X6 := (show Blk1 wa60 _ _ _ from X6.to bW)
                rw [if_pos (by rfl)]
                refine wp_store_nat _ _ rfl rfl rfl X6 ?_
                replace h8 := (show NatAt wa60 _ _ _ _ from h8.to bW).put_ X6.cell (.slice A8 n8 d8)
                have hbws61 := nxs (show Below wr.heap.size wr wa60 from bW) (p := ⟨w9.heap.size, 0, none⟩) X6g (.slice A8 n8 d8)
                replace X6 := X6.set (.slice A8 n8 d8)
                generalize wa60.setCell ⟨w9.heap.size, 0, none⟩ (.slice A8 n8 d8) = ws61 at X6 h8 hbws61 ⊢
                refine hK.out _ _ (KP9 _ bW) (fun hHeld => ?_)
                clear hK K
                try simp only [Act.put, sX, sY, sZ]
                refine anyT_take (i := 10) (v := ?_) gO kR kR kR kR (by exact fun _ _ _ h => h) (Or.inl ⟨by rfl, ?_⟩) (by assumption) ?_
                rotate_left
                · intro w hSw; (try dsimp only at hSw); go_simp; try with_reducible rfl
                try simp only [Act.put, sX, sY, sZ]
                refine anyT_done kR ?_ _
                go_wp2_with fail
                go_meet
                exact ⟨_, A8, n8, d8, rfl, ⟨X6, h8⟩, bW⟩
              · skip
                go_simp
                have X6 := Blk1.newAt w7 w7.heap.size 25 (.slice none 0 0) rfl
                have X6g : wr.heap.size ≤ w7.heap.size := (show Below wr.heap.size wr w7 from bW).size
                have hbwa62 := nxa (Below.refl w7.heap.size w7) (.cells #[.slice none 0 0] 25)
                generalize w7.alloc (.cells #[.slice none 0 0] 25) = wa62 at X6 hbwa62 ⊢
                refine hK.out _ _ (KP9 _ bW) (fun hHeld => ?_)
                clear hK K
                try simp only [Act.put, sX, sY, sZ]
                refine anyT_ready (rs := [4]) kR (by simp) (ReadyT.cons gO (fun K hK => ?_) ReadyT.nil)
                go_simp
                go_at_call 40
                (with_reducible refine (nat_Sub _ _ _ _ _ _ _ _ _ (h6.to bW) (h7.to bW) (by have := HT.out; omega)).mono ?_)
                rintro e w9 ⟨A8, n8, d8, rfl, h8, hb9⟩
                go_simp
                refine hK.out _ _ (KP9 _ bW) (fun hHeld => ?_)
                clear hK K
                try simp only [Act.put, sX, sY, sZ]
                refine anyT_take (i := 5) (v := ?_) gO kR kR kR kR (by exact fun _ _ _ h => h) (Or.inl ⟨by rfl, ?_⟩) (by assumption) ?_
                rotate_left
                · intro w hSw; (try dsimp only at hSw); go_simp; try with_reducible rfl
                try simp only [Act.put, sX, sY, sZ]
                refine anyT_take (i := 6) (v := ?_) gO kR kR kR kR (by exact fun _ _ _ h => h) (Or.inl ⟨by rfl, ?_⟩) (by assumption) ?_
                rotate_left
                · intro w hSw; (try dsimp only at hSw); go_simp; try with_reducible rfl
                try simp only [Act.put, sX, sY, sZ]
                refine anyT_take (i := 7) (v := ?_) gO kR kR kR kR (by exact fun _ _ _ h => h) (Or.inl ⟨by rfl, ?_⟩) (by assumption) ?_
                rotate_left
                · intro w hSw; (try dsimp only at hSw); go_simp; try with_reducible rfl
                try simp only [Act.put, sX, sY, sZ]
                refine anyT_ready (rs := [9]) kR (by simp) (ReadyT.cons gO (fun K hK => ?_) ReadyT.nil)
                replace X6 := (show Blk1 w9 _ _ _ from X6.to bW)
                rw [if_pos (by rfl)]
                refine wp_store_nat _ _ rfl rfl rfl X6 ?_
                replace h8 := (show NatAt w9 _ _ _ _ from h8.to bW).put_ X6.cell (.slice A8 n8 d8)
                have hbws63 := nxs (show Below wr.heap.size wr w9 from bW) (p := ⟨w7.heap.size, 0, none⟩) X6g (.slice A8 n8 d8)
                replace X6 := X6.set (.slice A8 n8 d8)
                generalize w9.setCell ⟨w7.heap.size, 0, none⟩ (.slice A8 n8 d8) = ws63 at X6 h8 hbws63 ⊢
                refine hK.out _ _ (KP9 _ bW) (fun hHeld => ?_)
                clear hK K
                try simp only [Act.put, sX, sY, sZ]
                refine anyT_take (i := 10) (v := ?_) gO kR kR kR kR (by exact fun _ _ _ h => h) (Or.inl ⟨by rfl, ?_⟩) (by assumption) ?_
                rotate_left
                · intro w hSw; (try dsimp only at hSw); go_simp; try with_reducible rfl
                try simp only [Act.put, sX, sY, sZ]
                refine anyT_done kR ?_ _
                go_wp2_with fail
                go_meet
                exact ⟨_, A8, n8, d8, rfl, ⟨X6, h8⟩, bW⟩
            · skip
              go_simp
              have X6 := Blk1.newAt wd59 wd59.heap.size 25 (.slice none 0 0) rfl
              have X6g : wr.heap.size ≤ wd59.heap.size := (show Below wr.heap.size wr wd59 from bW).size
              have hbwa64 := nxa (Below.refl wd59.heap.size wd59) (.cells #[.slice none 0 0] 25)
              generalize wd59.alloc (.cells #[.slice none 0 0] 25) = wa64 at X6 hbwa64 ⊢
              refine hK.out _ _ (KP9 _ bW) (fun hHeld => ?_)
              clear hK K
              try simp only [Act.put, sX, sY, sZ]
              refine anyT_ready (rs := [3]) kR (by simp) (ReadyT.cons gO (fun K hK => ?_) ReadyT.nil)
              go_simp
              go_at_call 28
              (with_reducible refine (nat_Add _ _ _ _ _ _ _ _ _ (h4.to bW) (h5.to bW) (by have := HT.out; omega) (by have := HT.out; omega)).mono ?_)
              rintro e w7 ⟨A7, n7, d7, rfl, h7, hb7⟩
              go_simp
              refine hK.out _ _ (KP9 _ bW) (fun hHeld => ?_)
              clear hK K
              try simp only [Act.put, sX, sY, sZ]
              refine anyT_ready (rs := [4]) kR (by simp) (ReadyT.cons gO (fun K hK => ?_) ReadyT.nil)
              go_simp
              go_at_call 40
              (with_reducible refine (nat_Sub _ _ _ _ _ _ _ _ _ (h6.to bW) (h7.to bW) (by have := HT.out; omega)).mono ?_)
              rintro e w9 ⟨A8, n8, d8, rfl, h8, hb9⟩
              go_simp
              refine hK.out _ _ (KP9 _ bW) (fun hHeld => ?_)
              clear hK K
              try simp only [Act.put, sX, sY, sZ]
              refine anyT_take (i := 5) (v := ?_) gO kR kR kR kR (by exact fun _ _ _ h => h) (Or.inl ⟨by rfl, ?_⟩) (by assumption) ?_
              rotate_left
              · intro w hSw; (try dsimp only at hSw); go_simp; try with_reducible rfl
              try simp only [Act.put, sX, sY, sZ]
              refine anyT_take (i := 6) (v := ?_) gO kR kR kR kR (by exact fun _ _ _ h => h) (Or.inl ⟨by rfl, ?_⟩) (by assumption) ?_
              rotate_left
              · intro w hSw; (try dsimp only at hSw); go_simp; try with_reducible rfl
              try simp only [Act.put, sX, sY, sZ]
              refine anyT_take (i := 7) (v := ?_) gO kR kR kR kR (by exact fun _ _ _ h => h) (Or.inl ⟨by rfl, ?_⟩) (by assumption) ?_
              rotate_left
              · intro w hSw; (try dsimp only at hSw); go_simp; try with_reducible rfl
              try simp only [Act.put, sX, sY, sZ]
              refine anyT_ready (rs := [9]) kR (by simp) (ReadyT.cons gO (fun K hK => ?_) ReadyT.nil)
              replace X6 := (show Blk1 w9 _ _ _ from X6.to bW)
              rw [if_pos (by rfl)]
              refine wp_store_nat _ _ rfl rfl rfl X6 ?_
              replace h8 := (show NatAt w9 _ _ _ _ from h8.to bW).put_ X6.cell (.slice A8 n8 d8)
              have hbws65 := nxs (show Below wr.heap.size wr w9 from bW) (p := ⟨wd59.heap.size, 0, none⟩) X6g (.slice A8 n8 d8)
              replace X6 := X6.set (.slice A8 n8 d8)
              generalize w9.setCell ⟨wd59.heap.size, 0, none⟩ (.slice A8 n8 d8) = ws65 at X6 h8 hbws65 ⊢
              refine hK.out _ _ (KP9 _ bW) (fun hHeld => ?_)
              clear hK K
              try simp only [Act.put, sX, sY, sZ]
              refine anyT_take (i := 10) (v := ?_) gO kR kR kR kR (by exact fun _ _ _ h => h) (Or.inl ⟨by rfl, ?_⟩) (by assumption) ?_
              rotate_left
              · intro w hSw; (try dsimp only at hSw); go_simp; try with_reducible rfl
              try simp only [Act.put, sX, sY, sZ]
              refine anyT_done kR ?_ _
              go_wp2_with fail
              go_meet
              exact ⟨_, A8, n8, d8, rfl, ⟨X6, h8⟩, bW⟩
          case rest =>
            rename World => wv
            obtain ⟨g9, A9, n9, d9, rfl, ⟨L7, h9⟩, hbc⟩ := hcut
            replace L4 := L4.to hbc
            replace h4 := h4.to hbc
            replace L5 := L5.to hbc
            replace h5 := h5.to hbc
            replace hbf := nx hbf hbc
            clear hbc L6 h6
            have q9 := h9.le_of _ (lt_of_shift p8 (by have := HT.out; omega))
            have q8 := h5.le_of _ (lt_of_shift p9 (by have := HT.out; omega))
            have hxy := mul_lt_pow hx.lt hy.lt
            have R := B2.to hbf
            have zt : IntKind.i64.wrap (2 * (t : Int)) = ((2 * t : Nat) : Int) := by rw [IntWalk.i64_in _ (by have := HT.out; omega)]; omega
            rw [← p11] at hxy
            go_wp2_with fail
            have CL4 := (show Blk1 wv _ _ _ from L4.to bW).cell
            have CL7 := (show Blk1 wv _ _ _ from L7.to bW).cell
            have CL5 := (show Blk1 wv _ _ _ from L5.to bW).cell
            have KP10 : ∀ w', Below wv.heap.size wv w' → w'.cell? ⟨g6, 0, none⟩ = some (.slice A4 n4 d4) ∧ w'.cell? ⟨g9, 0, none⟩ = some (.slice A9 n9 d9) ∧ w'.cell? ⟨g7, 0, none⟩ = some (.slice A5 n5 d5) ∧ True := fun w' hw' => ⟨cellB hw' CL4, cellB hw' CL7, cellB hw' CL5, trivial⟩
            refine wp_regionT (S := fun w' => w'.cell? ⟨g6, 0, none⟩ = some (.slice A4 n4 d4) ∧ w'.cell? ⟨g9, 0, none⟩ = some (.slice A9 n9 d9) ∧ w'.cell? ⟨g7, 0, none⟩ = some (.slice A5 n5 d5) ∧ True) [10] kR (KP10 _ bW) (fun hHeld => ?_)
            have hbd66 : Below wv.heap.size wv wv.drew := nxw (Below.refl _ _)
            generalize wv.drew = wd66 at hHeld hbd66 ⊢
            refine anyT_take (i := 0) (v := ?_) gO kR kR kR kR (by exact fun _ _ _ h => h) (Or.inl ⟨by rfl, ?_⟩) (by assumption) ?_
            rotate_left
            · intro w hSw; (try dsimp only at hSw); go_simp; try with_reducible rfl
            try simp only [Act.put, sX, sY, sZ]
            refine anyT_take (i := 1) (v := ?_) gO kR kR kR kR (by exact fun _ _ _ h => h) (Or.inl ⟨by rfl, ?_⟩) (by assumption) ?_
            rotate_left
            · intro w hSw; (try dsimp only at hSw); go_simp; try with_reducible rfl
            try simp only [Act.put, sX, sY, sZ]
            refine anyT_take (i := 2) (v := ?_) gO kR kR kR kR (by exact fun _ _ _ h => h) (Or.inl ⟨by rfl, ?_⟩) (by assumption) ?_
            rotate_left
            · intro w hSw; (try dsimp only at hSw); go_simp; try with_reducible rfl
            try simp only [Act.put, sX, sY, sZ]
            refine anyT_take (i := 4) (v := ?_) gO kR kR kR kR (by exact fun _ _ _ h => h) (Or.inl ⟨by rfl, ?_⟩) (by assumption) ?_
            rotate_left
            · intro w hSw; (try dsimp only at hSw); go_simp; try with_reducible rfl
            try simp only [Act.put, sX, sY, sZ]
            refine anyT_take (i := 5) (v := ?_) gO kR kR kR kR (by exact fun _ _ _ h => h) (Or.inl ⟨by rfl, ?_⟩) (by assumption) ?_
            rotate_left
            · intro w hSw; (try dsimp only at hSw); go_simp; try with_reducible rfl
            try simp only [Act.put, sX, sY, sZ]
            refine anyT_take (i := 6) (v := ?_) gO kR kR kR kR (by exact fun _ _ _ h => h) (Or.inl ⟨by rfl, ?_⟩) (by assumption) ?_
            rotate_left
            · intro w hSw; (try dsimp only at hSw); go_simp; try with_reducible rfl
            try simp only [Act.put, sX, sY, sZ]
            refine anyT_ready (rs := [3]) kR (by simp) (ReadyT.cons gO (fun K hK => ?_) ReadyT.nil)
            go_simp
            go_at_call 57
            (with_reducible refine (prod_raised _ _ _ _ t _ (h9.to bW) (by have := HT.out; omega)).mono ?_)
            rintro e w7 ⟨A7, n7, d7, rfl, h7, hb7⟩
            have q7 := h7.le_of _ p8
            go_simp
            refine hK.out _ _ (KP10 _ bW) (fun hHeld => ?_)
            clear hK K
            try simp only [Act.put, sX, sY, sZ]
            refine anyT_ready (rs := [7]) kR (by simp) (ReadyT.cons gO (fun K hK => ?_) ReadyT.nil)
            go_simp
            go_at_call 57
            rw [show 2 * (t : Int) = ((2 * t : Nat) : Int) by omega]
            (with_reducible refine (prod_raised _ _ _ _ (2 * t) _ (h5.to bW) (by have := HT.out; omega)).mono ?_)
            rintro e w8 ⟨A8, n8, d8, rfl, h8, hb8⟩
            have q10 := h8.le_of _ p9
            go_simp
            refine hK.out _ _ (KP10 _ bW) (fun hHeld => ?_)
            clear hK K
            try simp only [Act.put, sX, sY, sZ]
            refine anyT_ready (rs := [8]) kR (by simp) (ReadyT.cons gO (fun K hK => ?_) ReadyT.nil)
            go_simp
            go_at_call 28
            (with_reducible refine (nat_Add _ _ _ _ _ _ _ _ _ (h7.to bW) (h8.to bW) (by have := HT.out; omega) (by have := HT.out; omega)).mono ?_)
            rintro e w9 ⟨A10, n10, d10, rfl, h10, hb9⟩
            have q11 := h10.le_of (n + n') (by have := HT.out; omega)
            go_simp
            refine hK.out _ _ (KP10 _ bW) (fun hHeld => ?_)
            clear hK K
            try simp only [Act.put, sX, sY, sZ]
            refine anyT_ready (rs := [9]) kR (by simp) (ReadyT.cons gO (fun K hK => ?_) ReadyT.nil)
            go_simp
            go_at_call 28
            (with_reducible refine (nat_Add _ _ _ _ _ _ _ _ _ (h4.to bW) (h10.to bW) (by have := HT.out; omega) (by have := HT.out; omega)).mono ?_)
            rintro e w10 ⟨A11, n11, d11, rfl, h11, hb10⟩
            rw [p11] at h11
            replace R := (show Blk1 w10 _ _ _ from R.to bW)
            have cR := R.cell
            have fR := R.free
            go_simp
            refine hK.out _ _ (KP10 _ bW) (fun hHeld => ?_)
            clear hK K
            try simp only [Act.put, sX, sY, sZ]
            refine anyT_ready (rs := [10]) kR (by simp) (ReadyT.last gO (by rfl) (fun K hK => ?_))
            go_simp
            refine hK.out _ _ ?_
            clear hK K
            try simp only [Act.put, sX, sY, sZ]
            refine anyT_done kR ?_ _
            obtain ⟨l1, hb⟩ := store1 (w0 := w) (nx hbe (nx hbf (show Below wv.heap.size wv w10 from bW))) (by show w.heap.size ≤ w.heap.size + 1 + 1; have := HT.out; omega) R h11
            have e1 := l1.1.cell
            clear cR fR
            go_wp2_with fail
            exact bodyPost_ret (v := .agg #[.slice A11 n11 d11]) (by simp [results, Try.results27, go_sem, e1]) rfl ⟨A11, n11, d11, rfl, l1.2, hb⟩
theorem prod_Mul (A : Option Addr) (n c x : Nat) (A' : Option Addr) (n' c' y : Nat) (w : World) (h : NatAt w A n c x) (h' : NatAt w A' n' c' y) (hn : n + n' ≤ 17592186044416) :
    Calls Try.prog 27 #[.agg #[.slice A n c], .agg #[.slice A' n' c']] w (RetNat w (x * y)) := by
  have key : ∀ M, MulUpto M := by
    intro M
    induction M with
    | zero => exact fun A n c x A' n' c' y w _ _ _ h _ => absurd h (by omega)
    | succ M ih =>
      intro A n c x A' n' c' y w h h' hn h1 h2
      have cut : ∀ k, k ≤ M → MulUpto k := fun k hk A n c x A' n' c' y w h h' hn h1 h2 => ih A n c x A' n' c' y w h h' hn (by omega) (by omega)
      have IH : Hid (MulUpto (max n n')) := Lib.hid (cut (max n n') (by omega))
      rcases Nat.lt_or_ge (min n n') 8 with h8 | h8
      · exact mul_s A n c x A' n' c' y w h h' hn h8 _ (Nat.le_refl _) IH
      · exact mul_g A n c x A' n' c' y w h h' hn h8 _ (Nat.le_refl _) IH
  exact key (max n n' + 1) A n c x A' n' c' y w h h' hn (by omega) (by omega)
end Go.Proofs.Ytflleaifmeiikaa
set_option linter.unusedVariables false
set_option linter.unusedSimpArgs false
namespace Go.Proofs.Ytflleaifmeiikaa
open Go.RowKit
set_option maxRecDepth 100000
set_option maxHeartbeats 1000000 in
theorem prod_Pow_no (A : Option Addr) (n c x : Nat) (K : Int) (w : World) (h : NatAt w A n c x) (hn : n ≤ 17592186044416) (hK : K < 0 ∨ (0 ≤ K ∧ 1 < blen x ∧ (65536 : Int) / (blen x : Int) < K)) :
    Calls Try.prog 53 #[.agg #[.slice A n c], .int .i64 K] w (RetNatB w 0 false) := by
  have FIN : ∀ w', Below w.heap.size w w' → RetNatB w 0 false (.returned (.tuple #[.agg #[.slice none 0 0], .bool false])) w' := fun w' hb => ⟨none, 0, 0, rfl, ⟨Dig.nil _ _ _ _ (by omega), fun h => absurd h (by omega)⟩, hb⟩
  have F := Lib.hid FIN
  clear FIN
  have B0 := (Blk1.new w 25 (.slice A n c)).alloc (.cells #[.slice none 0 0] 25)
  have B1 := Blk1.new (w.alloc (.cells #[.slice A n c] 25)) 25 (.slice none 0 0)
  simp only [World.size_alloc] at B1
  rcases hK with hK | ⟨hK, hb, hq⟩
  · go_enter Try.func53, Try.ntmps53
    go_wp2_with fail
    exact bodyPost_ret (v := .tuple #[.agg #[.slice none 0 0], .bool false]) (by simp [results, Try.results53, go_sem]) rfl (F.out _ (nxa (nxa (Below.refl _ _) _) _))
  · have hbI : (1 : Int) < (blen x : Int) := by omega
    have hb0 : (blen x : Int) ≠ 0 := by omega
    obtain ⟨q, hq'⟩ : ∃ q : Int, q = (65536 : Int) / (blen x : Int) := ⟨_, rfl⟩
    have q0 : 0 ≤ q := by rw [hq']; exact Int.ediv_nonneg (by decide) (by omega)
    have q1 : q ≤ 65536 := by rw [hq']; exact Int.ediv_le_self _ (by decide)
    have zt : (65536 : Int).tdiv (blen x : Int) = q := by rw [Int.tdiv_eq_ediv_of_nonneg (by decide), hq']
    have zd : (65536 : Int) / (blen x : Int) = q := hq'.symm
    have zw : IntKind.i64.wrap q = q := IntWalk.i64_in _ (by omega)
    rw [zd] at hq
    have hk0 : ¬ K < 0 := by omega
    clear hq'
    go_enter Try.func53, Try.ntmps53
    go_wp2_with fail
    refine (nat_Bits A n c x _ ((h.alloc _).alloc _) hn).mono ?_
    rintro e w1 ⟨rfl, hb1⟩
    have c0 := (B0.to hb1).cell
    go_wp2_with fail
    refine (nat_Bits A n c x _ (((h.alloc _).alloc _).to hb1) hn).mono ?_
    rintro e w2 ⟨rfl, hb2⟩
    have Y := (B1.to hb1).to hb2
    have c1 := Y.cell
    have f1 := Y.free
    have Z := (Y.set (.slice none 0 0)).cell
    have hbb := (nx (nx (nxa (nxa (Below.refl w.heap.size w) _) _) hb1) hb2).setCell (p := ⟨w.heap.size + 1, 0, none⟩) (by show w.heap.size ≤ w.heap.size + 1; omega) (.slice none 0 0)
    clear hb1 hb2 c0
    go_wp2_with fail
    exact bodyPost_ret (v := .tuple #[.agg #[.slice none 0 0], .bool false]) (by simp [results, Try.results53, go_sem, Z]) rfl (F.out _ hbb)
theorem pow_le_m {a m : Nat} (h : a ≤ 64 * m) : 2 ^ a ≤ W ^ m := by
  rw [W_pow]; exact Nat.pow_le_pow_right (by decide) h
theorem pow_bits {x j k m : Nat} (hm : 65536 ≤ 64 * m) (hb : 1 < blen x) (hj : j ≤ k) (hk : k ≤ 65536 / blen x) : x ^ j < W ^ m := by
  have h1 : x ^ j ≤ (2 ^ blen x) ^ j := Nat.pow_le_pow_left (Nat.le_of_lt (blen_lt x)) j
  have h2 : blen x * j ≤ 65536 := Nat.le_trans (Nat.mul_le_mul_left _ (Nat.le_trans hj hk)) (by rw [Nat.mul_comm]; exact Nat.div_mul_le_self _ _)
  rcases Nat.eq_zero_or_pos j with h0 | h0
  · subst h0; rw [Nat.pow_zero]; exact Nat.one_lt_pow (by omega) (show 1 < W by decide)
  · have h3 : x ^ j < (2 ^ blen x) ^ j := Nat.pow_lt_pow_left (blen_lt x) (by omega)
    rw [← Nat.pow_mul] at h3
    exact Nat.lt_of_lt_of_le h3 (pow_le_m (Nat.le_trans h2 hm))
set_option maxHeartbeats 1000000 in
theorem prod_Pow_small (A : Option Addr) (n c x k : Nat) (w : World) (h : NatAt w A n c x) (hn : n ≤ 17592186044416) (hk : k ≤ 9223372036854775807) (hb : blen x ≤ 1) :
    Calls Try.prog 53 #[.agg #[.slice A n c], .int .i64 (k : Nat)] w (RetNatB w (x ^ k) true) := by
  have hx : x ≤ 1 := by
    have h1 := blen_lt x
    have h2 := Nat.pow_le_pow_right (show 0 < 2 by decide) hb
    omega
  have B0 := (Blk1.new w 25 (.slice A n c)).alloc (.cells #[.slice none 0 0] 25)
  have B1 := Blk1.new (w.alloc (.cells #[.slice A n c] 25)) 25 (.slice none 0 0)
  simp only [World.size_alloc] at B1
  have hbI : ¬ (1 : Int) < (blen x : Int) := by omega
  have hbI2 : (blen x : Int) ≤ 1 := by omega
  have hk0 : ¬ (k : Int) < 0 := by omega
  have hpw : 0 < k → x ^ k = x := fun h0 => by
    obtain ⟨j, rfl⟩ : ∃ j, k = j + 1 := ⟨k - 1, by omega⟩
    obtain rfl | rfl : x = 0 ∨ x = 1 := by omega
    · simp
    · simp
  have HP := Lib.hid hpw
  clear hpw hx
  go_enter Try.func53, Try.ntmps53
  go_wp2_with fail
  refine (nat_Bits A n c x _ ((h.alloc _).alloc _) hn).mono ?_
  rintro e w1 ⟨rfl, hb1⟩
  go_wp2_with fail
  refine (nat_Of_lit [1] _ _ _ (by simp) (by decide) (by decide)).mono ?_
  rintro e w2 ⟨A2, n2, c2, rfl, h2, hb2, hm2⟩
  have hbe : Below w.heap.size w w2 := nx (nx (nxa (nxa (Below.refl _ _) _) _) hb1) hb2
  have hx2 := h.to hbe
  have Z0 := (B0.to hb1).to hb2
  have Z1 := (B1.to hb1).to hb2
  have Y0 := Z0.alloc (.cells #[.slice A2 n2 c2] 25)
  have Y1 := Z1.alloc (.cells #[.slice A2 n2 c2] 25)
  have G0 := Blk1.new w2 25 (.slice A2 n2 c2)
  have c0 := Y0.cell
  have s1 := Z1.lt
  clear hb1 hb2
  go_wp2_with fail
  refine (nat_Bits A n c x _ (hx2.alloc _) hn).mono ?_
  rintro e w3 ⟨rfl, hb3⟩
  have X0 := Y0.to hb3
  have X1 := Y1.to hb3
  have XG := G0.to hb3
  have hx3 := (hx2.alloc _).to hb3
  have h3 := (h2.alloc (.cells #[.slice A2 n2 c2] 25)).to hb3
  have hbl : Below w.heap.size w w3 := nx (nxa hbe _) hb3
  have c0 := X0.cell
  have c1 := X1.cell
  have cG := XG.cell
  have f1 := X1.free
  have fG := XG.free
  clear hb3 hbe Z0 Z1 Y0 Y1 G0
  by_cases h0 : 0 < k
  · have h0I : (0 : Int) < (k : Int) := by omega
    have LG := XG.set (.slice A n c)
    have L1 := X1.far (p := ⟨w2.heap.size, 0, none⟩) (by show _ ≠ w2.heap.size; omega) (.slice A n c)
    have hbs := hbl.setCell (p := ⟨w2.heap.size, 0, none⟩) (by show w.heap.size ≤ w2.heap.size; omega) (.slice A n c)
    have hxs := hx3.put_ cG (.slice A n c)
    have e1 := L1.cell
    have e2 := L1.free
    have eG := LG.cell
    obtain ⟨l1, hb⟩ := store1 (w0 := w) hbs (by show w.heap.size ≤ w.heap.size + 1; omega) L1 hxs
    have e3 := l1.1.cell
    go_wp2_with fail
    exact bodyPost_ret (v := .tuple #[.agg #[.slice A n c], .bool true]) (by simp [results, Try.results53, go_sem, e3]) rfl ⟨A, n, c, rfl, by rw [HP.out h0]; exact l1.2, hb⟩
  · obtain rfl : k = 0 := by omega
    obtain ⟨l1, hb⟩ := store1 (w0 := w) hbl (by show w.heap.size ≤ w.heap.size + 1; omega) X1 h3
    have e3 := l1.1.cell
    go_wp2_with fail
    exact bodyPost_ret (v := .tuple #[.agg #[.slice A2 n2 c2], .bool true]) (by simp [results, Try.results53, go_sem, e3]) rfl ⟨A2, n2, c2, rfl, l1.2, hb⟩
set_option maxHeartbeats 1000000 in
theorem prod_Pow_great (A : Option Addr) (n c x k : Nat) (w : World) (h : NatAt w A n c x) (hn : n ≤ 17592186043000) (hb : 1 < blen x) (hk : k ≤ 65536 / blen x) :
    Calls Try.prog 53 #[.agg #[.slice A n c], .int .i64 (k : Nat)] w (RetNatB w (x ^ k) true) := by
  have hk6 : k ≤ 65536 := Nat.le_trans hk (Nat.div_le_self _ _)
  have B0 := (Blk1.new w 25 (.slice A n c)).alloc (.cells #[.slice none 0 0] 25)
  have B1 := Blk1.new (w.alloc (.cells #[.slice A n c] 25)) 25 (.slice none 0 0)
  simp only [World.size_alloc] at B1
  have hbI : (1 : Int) < (blen x : Int) := by omega
  have hbI2 : ¬ (blen x : Int) ≤ 1 := by omega
  have hb0 : (blen x : Int) ≠ 0 := by omega
  have hk0 : ¬ (k : Int) < 0 := by omega
  obtain ⟨q, hq'⟩ : ∃ q : Nat, q = 65536 / blen x := ⟨_, rfl⟩
  have q1 : q ≤ 65536 := by rw [hq']; exact Nat.div_le_self _ _
  have zd : (65536 : Int) / (blen x : Int) = (q : Int) := by rw [hq']; rfl
  have zt : (65536 : Int).tdiv (blen x : Int) = (q : Int) := by rw [Int.tdiv_eq_ediv_of_nonneg (by decide), zd]
  have zw : IntKind.i64.wrap (q : Int) = (q : Int) := IntWalk.i64_in _ (by omega)
  have hqk : ¬ (q : Int) < (k : Int) := by omega
  have HPB := Lib.hid (fun j (hj : j ≤ k) => pow_bits (m := 1024) (by decide) hb hj hk)
  have HBL := Lib.hid (And.intro hb hk)
  clear hq' hb hk
  go_enter Try.func53, Try.ntmps53
  go_wp2_with fail
  refine (nat_Bits A n c x _ ((h.alloc _).alloc _) (by omega)).mono ?_
  rintro e w1 ⟨rfl, hb1⟩
  have c0 := (B0.to hb1).cell
  go_wp2_with fail
  refine (nat_Bits A n c x _ (((h.alloc _).alloc _).to hb1) (by omega)).mono ?_
  rintro e w2 ⟨rfl, hb2⟩
  have X0 := (B0.to hb1).to hb2
  have X1 := (B1.to hb1).to hb2
  have hbe := nx (nx (nxa (nxa (Below.refl w.heap.size w) _) _) hb1) hb2
  clear hb1 hb2 c0 B0 B1
  go_wp2_with fail
  refine (nat_Of_lit [1] _ _ _ (by simp) (by decide) (by decide)).mono ?_
  rintro e w3 ⟨A2, n2, c2, rfl, h2, hb3, hm2⟩
  have Z0 := X0.to hb3
  have Z1 := X1.to hb3
  have hbe3 := nx hbe hb3
  have hx2 := h.to hbe3
  have Y0 := Z0.alloc (.cells #[.slice A2 n2 c2] 25)
  have Y1 := Z1.alloc (.cells #[.slice A2 n2 c2] 25)
  have G0 := Blk1.new w3 25 (.slice A2 n2 c2)
  have c0 := Y0.cell
  have s1 := Z1.lt
  clear hb3 hbe X0 X1
  go_wp2_with fail
  refine (nat_Bits A n c x _ (hx2.alloc _) (by omega)).mono ?_
  rintro e w4 ⟨rfl, hb4⟩
  have X0 := Y0.to hb4
  have X1 := Y1.to hb4
  have XG := G0.to hb4
  have hx3 := (hx2.alloc _).to hb4
  have h3 := (h2.alloc (.cells #[.slice A2 n2 c2] 25)).to hb4
  have hbl : Below w.heap.size w w4 := nx (nxa hbe3 _) hb4
  obtain ⟨G, hG⟩ : ∃ G, G = w3.heap.size := ⟨_, rfl⟩
  rw [← hG] at XG ⊢
  have hGs : w.heap.size + 1 < G := by rw [hG]; exact s1
  clear hb4 hbe3 Z0 Z1 Y0 Y1 G0 c0 hx2 h2 hG s1
  go_wp2_with fail
  go_loopw [32] (fun t wr => ∃ j : Nat, j ≤ k ∧ t = .int .i64 (j : Int) ∧ (∃ A1 n1 c1, Loc wr G 25 A1 n1 c1 (x ^ j)) ∧ Below w.heap.size w wr ∧ Blk1 wr w.heap.size 25 (.slice A n c) ∧ Blk1 wr (w.heap.size + 1) 25 (.slice none 0 0)) (fun t _ => k - (intOf t).toNat)
  case atStart => exact ⟨0, Nat.zero_le _, rfl, ⟨A2, n2, c2, XG, h3⟩, hbl, X0, X1⟩
  case round =>
    clear XG h3 hbl X0 X1 hx3
    obtain ⟨j, hj, rfl, ⟨A1, n1, c1, L, h1⟩, hbl, X0, X1⟩ := hrel
    by_cases hlt : j < k
    · have jk : (j : Int) < (k : Int) := by omega
      have q1 := h1.le_of 1024 (HPB.out j hj)
      have hx := h.to hbl
      have cG := L.cell
      have c0 := X0.cell
      go_wp2_with fail
      refine (prod_Mul _ _ _ _ _ _ _ _ _ h1 hx (by omega)).mono ?_
      rintro e w5 ⟨A5, n5, c5, rfl, h5, hb5⟩
      have L5 := L.to hb5
      have cG := L5.cell
      have fG := L5.free
      have Y0 := (X0.to hb5).far (p := ⟨G, 0, none⟩) (by show _ ≠ G; omega) (.slice A5 n5 c5)
      have Y1 := (X1.to hb5).far (p := ⟨G, 0, none⟩) (by show _ ≠ G; omega) (.slice A5 n5 c5)
      obtain ⟨l1, hb⟩ := store1 (w0 := w) (nx hbl hb5) (show w.heap.size ≤ G by omega) L5 h5
      clear hb5 hbl X0 X1 c0 L h1 hx L5
      go_wp2_with fail
      go_roundw
      case rel => exact ⟨j + 1, by omega, by go_num, ⟨A5, n5, c5, by rw [Nat.pow_succ]; exact l1⟩, hb, Y0, Y1⟩
      case measure => simp [intOf]; omega
    · obtain rfl : j = k := by omega
      obtain ⟨l1, hb⟩ := store1 (w0 := w) hbl (by show w.heap.size ≤ w.heap.size + 1; omega) X1 h1
      have e3 := l1.1.cell
      have cG := L.cell
      have c1' := X1.cell
      have f1' := X1.free
      go_wp2_with fail
      exact bodyPost_ret (v := .tuple #[.agg #[.slice A1 n1 c1], .bool true]) (by simp [results, Try.results53, go_sem, e3]) rfl ⟨A1, n1, c1, rfl, l1.2, hb⟩
end Go.Proofs.Ytflleaifmeiikaa
set_option linter.unusedVariables false
set_option linter.unusedSimpArgs false
namespace Go.Proofs.Ytflleaifmeiikaa
open Go.RowKit
set_option maxRecDepth 100000
/-- a slice of numbers: cell j holds a number that reads as X j, of at most L j words -/
def Nums (w : World) (A : Option Addr) (n : Nat) (X : Nat → Nat) : Prop := 0 < n → ∃ g o, A = some ⟨g, o, none⟩ ∧ g < w.heap.size ∧ ∀ j, j < n → ∃ A1 n1 c1, w.cell? ⟨g, o + j, none⟩ = some (.slice A1 n1 c1) ∧ NatAt w A1 n1 c1 (X j)
theorem Nums.to {w w' : World} {A : Option Addr} {n : Nat} {X : Nat → Nat} (h : Nums w A n X) (hb : Below w.heap.size w w') : Nums w' A n X := fun hn => by
  obtain ⟨g, o, e, hg, hc⟩ := h hn
  refine ⟨g, o, e, Nat.lt_of_lt_of_le hg hb.size, fun j hj => ?_⟩
  obtain ⟨A1, n1, c1, h1, h2⟩ := hc j hj
  exact ⟨A1, n1, c1, (hb.cell (p := ⟨g, o + j, none⟩) hg).trans h1, h2.to hb⟩
def prodTo (X : Nat → Nat) : Nat → Nat
  | 0 => 1
  | j + 1 => prodTo X j * X j
def sumTo (X : Nat → Nat) : Nat → Nat
  | 0 => 0
  | j + 1 => sumTo X j + X j
set_option maxHeartbeats 1000000 in
theorem prod_Of (A : Option Addr) (n c : Nat) (X : Nat → Nat) (L : Nat) (w : World) (h : Nums w A n X) (hn : n ≤ c) (hc : c ≤ 9223372036854775807) (hX : Hid (∀ j, j ≤ n → prodTo X j < W ^ L)) (hL : L ≤ 1000000000000) (hY : Hid (∀ j, j < n → X j < W ^ L)) :
    Calls Try.prog 30 #[.slice A n c] w (RetNat w (prodTo X n)) := by
  have B0 := Blk1.new w 25 (.slice none 0 0)
  go_enter Try.func30, Try.ntmps30
  go_wp2_with fail
  refine (nat_Of_lit [1] _ _ _ (by simp) (by decide) (by decide)).mono ?_
  rintro e w1 ⟨A1, n1, c1, rfl, h1, hb1, m1⟩
  have hbe : Below w.heap.size w (w1.alloc (.cells #[.slice A1 n1 c1] 25)) := nxa (nx (nxa (Below.refl _ _) _) hb1) _
  have G0 := Blk1.new w1 25 (.slice A1 n1 c1)
  have R0 := (B0.to hb1).alloc (.cells #[.slice A1 n1 c1] 25)
  have hr := (B0.to hb1).lt
  have h1' := h1.alloc (.cells #[.slice A1 n1 c1] 25)
  obtain ⟨G, hG⟩ : ∃ G, G = w1.heap.size := ⟨_, rfl⟩
  rw [← hG] at G0
  have hGr : w.heap.size < G := by rw [hG]; exact hr
  have HG := Lib.hid hG
  rw [show val W [1] = prodTo X 0 from rfl] at h1'
  go_wp2_with fail
  rw [← HG.out]
  clear hG h1 hb1 hr
  go_loopw [5, 10] (fun _ t wr => ∃ j : Nat, j ≤ n ∧ t = .int .i64 (j : Int) ∧ (∃ A1 n1 c1, Loc wr G 25 A1 n1 c1 (prodTo X j)) ∧ Below w.heap.size w wr ∧ Blk1 wr w.heap.size 25 (.slice none 0 0)) (fun _ t _ => n - (intOf t).toNat)
  case atStart => exact ⟨0, Nat.zero_le _, rfl, ⟨_, _, _, G0, h1'⟩, hbe, R0⟩
  case round =>
    clear G0 h1' hbe R0
    obtain ⟨j, hj, rfl, ⟨A1, n1, c1, LL, h1⟩, hbl, R⟩ := hrel
    by_cases hlt : j < n
    · obtain ⟨g, o, rfl, hg, hcell⟩ := (h.to hbl) (by omega)
      obtain ⟨A5, n5, c5, h5, h5n⟩ := hcell j hlt
      have jn : (j : Int) < (n : Int) := by omega
      have q1 := h1.le_of _ (hX.out j hj)
      have q5 := h5n.le_of _ (hY.out j hlt)
      have cG := (LL.alloc (.cells #[.slice A5 n5 c5] 25)).cell
      clear hcell
      go_wp2_with fail
      refine (prod_Mul _ _ _ _ _ _ _ _ _ (h1.alloc _) (h5n.alloc _) (by omega)).mono ?_
      rintro e w5 ⟨A6, n6, c6, rfl, h6, hb5⟩
      have L6 := (LL.alloc (.cells #[.slice A5 n5 c5] 25)).to hb5
      have cG6 := L6.cell
      have fG6 := L6.free
      have Y := ((R.alloc (.cells #[.slice A5 n5 c5] 25)).to hb5).far (p := ⟨G, 0, none⟩) (by show _ ≠ G; omega) (.slice A6 n6 c6)
      obtain ⟨l1, hb⟩ := store1 (w0 := w) (nx (nxa hbl _) hb5) (show w.heap.size ≤ G by omega) L6 h6
      clear hb5 hbl R cG LL h1 L6 h5
      go_wp2_with fail
      go_roundw
      case rel => exact ⟨j + 1, by omega, by go_num, ⟨A6, n6, c6, l1⟩, hb, Y⟩
      case measure => simp [intOf]; omega
    · obtain rfl : j = n := by omega
      obtain ⟨l1, hb⟩ := store1 (w0 := w) hbl (Nat.le_refl _) R h1
      have e3 := l1.1.cell
      have cG := LL.cell
      have c1' := R.cell
      have f1' := R.free
      go_wp2_with fail
      exact bodyPost_ret (v := .agg #[.slice A1 n1 c1]) (by simp [results, Try.results30, go_sem, e3]) rfl ⟨A1, n1, c1, rfl, l1.2, hb⟩
set_option maxHeartbeats 1000000 in
theorem prod_Sum (A : Option Addr) (n c : Nat) (X : Nat → Nat) (L : Nat) (w : World) (h : Nums w A n X) (hn : n ≤ c) (hc : c ≤ 9223372036854775807) (hX : Hid (∀ j, j ≤ n → sumTo X j < W ^ L)) (hL : L ≤ 1000000000000) (hY : Hid (∀ j, j < n → X j < W ^ L)) :
    Calls Try.prog 31 #[.slice A n c] w (RetNat w (sumTo X n)) := by
  have B0 := Blk1.new w 25 (.slice none 0 0)
  obtain ⟨w1, hw1⟩ : ∃ w1, w1 = w.alloc (.cells #[.slice none 0 0] 25) := ⟨_, rfl⟩
  have G0 := Blk1.new w1 25 (.slice none 0 0)
  have hbe : Below w.heap.size w (w1.alloc (.cells #[.slice none 0 0] 25)) := by rw [hw1]; exact nxa (nxa (Below.refl _ _) _) _
  rw [← hw1] at B0
  have R0 := B0.alloc (.cells #[.slice none 0 0] 25)
  have hr := B0.lt
  have h1' : NatAt (w1.alloc (.cells #[.slice none 0 0] 25)) none 0 0 (sumTo X 0) := ⟨Dig.nil _ _ _ _ (by omega), fun h => absurd h (by omega)⟩
  have HSZ := Lib.hid (show w.heap.size + 1 = w1.heap.size by rw [hw1]; simp)
  have HW1 := Lib.hid hw1
  clear hw1
  go_enter Try.func31, Try.ntmps31
  obtain ⟨G, hG⟩ : ∃ G, G = w1.heap.size := ⟨_, rfl⟩
  rw [← hG] at G0
  have hGr : w.heap.size < G := by rw [hG]; exact hr
  have HG := Lib.hid hG
  clear hG
  go_wp2_with fail
  rw [← HW1.out, HSZ.out, ← HG.out]
  clear hr B0
  go_loopw [5, 8] (fun _ t wr => ∃ j : Nat, j ≤ n ∧ t = .int .i64 (j : Int) ∧ (∃ A1 n1 c1, Loc wr G 25 A1 n1 c1 (sumTo X j)) ∧ Below w.heap.size w wr ∧ Blk1 wr w.heap.size 25 (.slice none 0 0)) (fun _ t _ => n - (intOf t).toNat)
  case atStart => exact ⟨0, Nat.zero_le _, rfl, ⟨_, _, _, G0, h1'⟩, hbe, R0⟩
  case round =>
    clear G0 h1' hbe R0
    obtain ⟨j, hj, rfl, ⟨A1, n1, c1, LL, h1⟩, hbl, R⟩ := hrel
    by_cases hlt : j < n
    · obtain ⟨g, o, rfl, hg, hcell⟩ := (h.to hbl) (by omega)
      obtain ⟨A5, n5, c5, h5, h5n⟩ := hcell j hlt
      have jn : (j : Int) < (n : Int) := by omega
      have q1 := h1.le_of _ (hX.out j hj)
      have q5 := h5n.le_of _ (hY.out j hlt)
      have cG := (LL.alloc (.cells #[.slice A5 n5 c5] 25)).cell
      clear hcell
      go_wp2_with fail
      refine (nat_Add _ _ _ _ _ _ _ _ _ (h1.alloc _) (h5n.alloc _) (by omega) (by omega)).mono ?_
      rintro e w5 ⟨A6, n6, c6, rfl, h6, hb5⟩
      have L6 := (LL.alloc (.cells #[.slice A5 n5 c5] 25)).to hb5
      have cG6 := L6.cell
      have fG6 := L6.free
      have Y := ((R.alloc (.cells #[.slice A5 n5 c5] 25)).to hb5).far (p := ⟨G, 0, none⟩) (by show _ ≠ G; omega) (.slice A6 n6 c6)
      obtain ⟨l1, hb⟩ := store1 (w0 := w) (nx (nxa hbl _) hb5) (show w.heap.size ≤ G by omega) L6 h6
      clear hb5 hbl R cG LL h1 L6 h5
      go_wp2_with fail
      go_roundw
      case rel => exact ⟨j + 1, by omega, by go_num, ⟨A6, n6, c6, l1⟩, hb, Y⟩
      case measure => simp [intOf]; omega
    · obtain rfl : j = n := by omega
      obtain ⟨l1, hb⟩ := store1 (w0 := w) hbl (Nat.le_refl _) R h1
      have e3 := l1.1.cell
      have cG := LL.cell
      have c1' := R.cell
      have f1' := R.free
      go_wp2_with fail
      exact bodyPost_ret (v := .agg #[.slice A1 n1 c1]) (by simp [results, Try.results31, go_sem, e3]) rfl ⟨A1, n1, c1, rfl, l1.2, hb⟩
end Go.Proofs.Ytflleaifmeiikaa
