/- The walks of prod.Square and prod.Pow. -/
import Derived.Test.YtflleaifmeiikaaProdM
set_option linter.unusedVariables false
set_option linter.unusedSimpArgs false
namespace Go.Proofs.Ytflleaifmeiikaa
open Go.RowKit
set_option maxRecDepth 100000
set_option maxHeartbeats 1000000 in
theorem prod_Pow_no (A : Option Addr) (n c x : Nat) (K : Int) (w : World) (h : NatAt w A n c x) (hn : n ≤ 17592186044416) (hK : K < 0 ∨ (0 ≤ K ∧ 1 < blen x ∧ (65536 : Int) / (blen x : Int) < K)) :
    Calls Try.prog 53 #[.agg #[.slice A n c], .int .i64 K] w (RetNatB w 0 false) := by
  have FIN : ∀ w', Below w.heap.size w w' → RetNatB w 0 false (.returned (.tuple #[.agg #[.slice none 0 0], .bool false])) w' := fun w' hb => ⟨none, 0, 0, rfl, ⟨Dig.nil _ _ _ _ (by omega), fun h => absurd h (by omega)⟩, hb⟩
  have F := Lib.hid FIN
  clear FIN
  have B0 := (Blk1.new w 25 (.slice A n c)).alloc (.cells #[.slice none 0 0] 25)
  have B1 := Blk1.new (w.alloc (.cells #[.slice A n c] 25)) 25 (.slice none 0 0)
  simp only [World.size_alloc] at B1
  rcases hK with hK | ⟨hK, hb, hq⟩
  · go_enter Try.func53, Try.ntmps53
    go_wp2_with fail
    exact bodyPost_ret (v := .tuple #[.agg #[.slice none 0 0], .bool false]) (by simp [results, Try.results53, go_sem]) rfl (F.out _ (nxa (nxa (Below.refl _ _) _) _))
  · have hbI : (1 : Int) < (blen x : Int) := by omega
    have hb0 : (blen x : Int) ≠ 0 := by omega
    obtain ⟨q, hq'⟩ : ∃ q : Int, q = (65536 : Int) / (blen x : Int) := ⟨_, rfl⟩
    have q0 : 0 ≤ q := by rw [hq']; exact Int.ediv_nonneg (by decide) (by omega)
    have q1 : q ≤ 65536 := by rw [hq']; exact Int.ediv_le_self _ (by decide)
    have zt : (65536 : Int).tdiv (blen x : Int) = q := by rw [Int.tdiv_eq_ediv_of_nonneg (by decide), hq']
    have zd : (65536 : Int) / (blen x : Int) = q := hq'.symm
    have zw : IntKind.i64.wrap q = q := IntWalk.i64_in _ (by omega)
    rw [zd] at hq
    have hk0 : ¬ K < 0 := by omega
    clear hq'
    go_enter Try.func53, Try.ntmps53
    go_wp2_with fail
    refine (nat_Bits A n c x _ ((h.alloc _).alloc _) hn).mono ?_
    rintro e w1 ⟨rfl, hb1⟩
    have c0 := (B0.to hb1).cell
    go_wp2_with fail
    refine (nat_Bits A n c x _ (((h.alloc _).alloc _).to hb1) hn).mono ?_
    rintro e w2 ⟨rfl, hb2⟩
    have Y := (B1.to hb1).to hb2
    have c1 := Y.cell
    have f1 := Y.free
    have Z := (Y.set (.slice none 0 0)).cell
    have hbb := (nx (nx (nxa (nxa (Below.refl w.heap.size w) _) _) hb1) hb2).setCell (p := ⟨w.heap.size + 1, 0, none⟩) (by show w.heap.size ≤ w.heap.size + 1; omega) (.slice none 0 0)
    clear hb1 hb2 c0
    go_wp2_with fail
    exact bodyPost_ret (v := .tuple #[.agg #[.slice none 0 0], .bool false]) (by simp [results, Try.results53, go_sem, Z]) rfl (F.out _ hbb)
theorem pow_le_m {a m : Nat} (h : a ≤ 64 * m) : 2 ^ a ≤ W ^ m := by
  rw [W_pow]; exact Nat.pow_le_pow_right (by decide) h
theorem pow_bits {x j k m : Nat} (hm : 65536 ≤ 64 * m) (hb : 1 < blen x) (hj : j ≤ k) (hk : k ≤ 65536 / blen x) : x ^ j < W ^ m := by
  have h1 : x ^ j ≤ (2 ^ blen x) ^ j := Nat.pow_le_pow_left (Nat.le_of_lt (blen_lt x)) j
  have h2 : blen x * j ≤ 65536 := Nat.le_trans (Nat.mul_le_mul_left _ (Nat.le_trans hj hk)) (by rw [Nat.mul_comm]; exact Nat.div_mul_le_self _ _)
  rcases Nat.eq_zero_or_pos j with h0 | h0
  · subst h0; rw [Nat.pow_zero]; exact Nat.one_lt_pow (by omega) (show 1 < W by decide)
  · have h3 : x ^ j < (2 ^ blen x) ^ j := Nat.pow_lt_pow_left (blen_lt x) (by omega)
    rw [← Nat.pow_mul] at h3
    exact Nat.lt_of_lt_of_le h3 (pow_le_m (Nat.le_trans h2 hm))
set_option maxHeartbeats 1000000 in
theorem prod_Pow_small (A : Option Addr) (n c x k : Nat) (w : World) (h : NatAt w A n c x) (hn : n ≤ 17592186044416) (hk : k ≤ 9223372036854775807) (hb : blen x ≤ 1) :
    Calls Try.prog 53 #[.agg #[.slice A n c], .int .i64 (k : Nat)] w (RetNatB w (x ^ k) true) := by
  have hx : x ≤ 1 := by
    have h1 := blen_lt x
    have h2 := Nat.pow_le_pow_right (show 0 < 2 by decide) hb
    omega
  have B0 := (Blk1.new w 25 (.slice A n c)).alloc (.cells #[.slice none 0 0] 25)
  have B1 := Blk1.new (w.alloc (.cells #[.slice A n c] 25)) 25 (.slice none 0 0)
  simp only [World.size_alloc] at B1
  have hbI : ¬ (1 : Int) < (blen x : Int) := by omega
  have hbI2 : (blen x : Int) ≤ 1 := by omega
  have hk0 : ¬ (k : Int) < 0 := by omega
  have hpw : 0 < k → x ^ k = x := fun h0 => by
    obtain ⟨j, rfl⟩ : ∃ j, k = j + 1 := ⟨k - 1, by omega⟩
    obtain rfl | rfl : x = 0 ∨ x = 1 := by omega
    · simp
    · simp
  have HP := Lib.hid hpw
  clear hpw hx
  go_enter Try.func53, Try.ntmps53
  go_wp2_with fail
  refine (nat_Bits A n c x _ ((h.alloc _).alloc _) hn).mono ?_
  rintro e w1 ⟨rfl, hb1⟩
  go_wp2_with fail
  refine (nat_Of_lit [1] _ _ _ (by simp) (by decide) (by decide)).mono ?_
  rintro e w2 ⟨A2, n2, c2, rfl, h2, hb2, hm2⟩
  have hbe : Below w.heap.size w w2 := nx (nx (nxa (nxa (Below.refl _ _) _) _) hb1) hb2
  have hx2 := h.to hbe
  have Z0 := (B0.to hb1).to hb2
  have Z1 := (B1.to hb1).to hb2
  have Y0 := Z0.alloc (.cells #[.slice A2 n2 c2] 25)
  have Y1 := Z1.alloc (.cells #[.slice A2 n2 c2] 25)
  have G0 := Blk1.new w2 25 (.slice A2 n2 c2)
  have c0 := Y0.cell
  have s1 := Z1.lt
  clear hb1 hb2
  go_wp2_with fail
  refine (nat_Bits A n c x _ (hx2.alloc _) hn).mono ?_
  rintro e w3 ⟨rfl, hb3⟩
  have X0 := Y0.to hb3
  have X1 := Y1.to hb3
  have XG := G0.to hb3
  have hx3 := (hx2.alloc _).to hb3
  have h3 := (h2.alloc (.cells #[.slice A2 n2 c2] 25)).to hb3
  have hbl : Below w.heap.size w w3 := nx (nxa hbe _) hb3
  have c0 := X0.cell
  have c1 := X1.cell
  have cG := XG.cell
  have f1 := X1.free
  have fG := XG.free
  clear hb3 hbe Z0 Z1 Y0 Y1 G0
  by_cases h0 : 0 < k
  · have h0I : (0 : Int) < (k : Int) := by omega
    have LG := XG.set (.slice A n c)
    have L1 := X1.far (p := ⟨w2.heap.size, 0, none⟩) (by show _ ≠ w2.heap.size; omega) (.slice A n c)
    have hbs := hbl.setCell (p := ⟨w2.heap.size, 0, none⟩) (by show w.heap.size ≤ w2.heap.size; omega) (.slice A n c)
    have hxs := hx3.put_ cG (.slice A n c)
    have e1 := L1.cell
    have e2 := L1.free
    have eG := LG.cell
    obtain ⟨l1, hb⟩ := store1 (w0 := w) hbs (by show w.heap.size ≤ w.heap.size + 1; omega) L1 hxs
    have e3 := l1.1.cell
    go_wp2_with fail
    exact bodyPost_ret (v := .tuple #[.agg #[.slice A n c], .bool true]) (by simp [results, Try.results53, go_sem, e3]) rfl ⟨A, n, c, rfl, by rw [HP.out h0]; exact l1.2, hb⟩
  · obtain rfl : k = 0 := by omega
    obtain ⟨l1, hb⟩ := store1 (w0 := w) hbl (by show w.heap.size ≤ w.heap.size + 1; omega) X1 h3
    have e3 := l1.1.cell
    go_wp2_with fail
    exact bodyPost_ret (v := .tuple #[.agg #[.slice A2 n2 c2], .bool true]) (by simp [results, Try.results53, go_sem, e3]) rfl ⟨A2, n2, c2, rfl, l1.2, hb⟩
set_option maxHeartbeats 1000000 in
theorem prod_Pow_great (A : Option Addr) (n c x k : Nat) (w : World) (h : NatAt w A n c x) (hn : n ≤ 17592186043000) (hb : 1 < blen x) (hk : k ≤ 65536 / blen x) :
    Calls Try.prog 53 #[.agg #[.slice A n c], .int .i64 (k : Nat)] w (RetNatB w (x ^ k) true) := by
  have hk6 : k ≤ 65536 := Nat.le_trans hk (Nat.div_le_self _ _)
  have B0 := (Blk1.new w 25 (.slice A n c)).alloc (.cells #[.slice none 0 0] 25)
  have B1 := Blk1.new (w.alloc (.cells #[.slice A n c] 25)) 25 (.slice none 0 0)
  simp only [World.size_alloc] at B1
  have hbI : (1 : Int) < (blen x : Int) := by omega
  have hbI2 : ¬ (blen x : Int) ≤ 1 := by omega
  have hb0 : (blen x : Int) ≠ 0 := by omega
  have hk0 : ¬ (k : Int) < 0 := by omega
  obtain ⟨q, hq'⟩ : ∃ q : Nat, q = 65536 / blen x := ⟨_, rfl⟩
  have q1 : q ≤ 65536 := by rw [hq']; exact Nat.div_le_self _ _
  have zd : (65536 : Int) / (blen x : Int) = (q : Int) := by rw [hq']; rfl
  have zt : (65536 : Int).tdiv (blen x : Int) = (q : Int) := by rw [Int.tdiv_eq_ediv_of_nonneg (by decide), zd]
  have zw : IntKind.i64.wrap (q : Int) = (q : Int) := IntWalk.i64_in _ (by omega)
  have hqk : ¬ (q : Int) < (k : Int) := by omega
  have HPB := Lib.hid (fun j (hj : j ≤ k) => pow_bits (m := 1024) (by decide) hb hj hk)
  have HBL := Lib.hid (And.intro hb hk)
  clear hq' hb hk
  go_enter Try.func53, Try.ntmps53
  go_wp2_with fail
  refine (nat_Bits A n c x _ ((h.alloc _).alloc _) (by omega)).mono ?_
  rintro e w1 ⟨rfl, hb1⟩
  have c0 := (B0.to hb1).cell
  go_wp2_with fail
  refine (nat_Bits A n c x _ (((h.alloc _).alloc _).to hb1) (by omega)).mono ?_
  rintro e w2 ⟨rfl, hb2⟩
  have X0 := (B0.to hb1).to hb2
  have X1 := (B1.to hb1).to hb2
  have hbe := nx (nx (nxa (nxa (Below.refl w.heap.size w) _) _) hb1) hb2
  clear hb1 hb2 c0 B0 B1
  go_wp2_with fail
  refine (nat_Of_lit [1] _ _ _ (by simp) (by decide) (by decide)).mono ?_
  rintro e w3 ⟨A2, n2, c2, rfl, h2, hb3, hm2⟩
  have Z0 := X0.to hb3
  have Z1 := X1.to hb3
  have hbe3 := nx hbe hb3
  have hx2 := h.to hbe3
  have Y0 := Z0.alloc (.cells #[.slice A2 n2 c2] 25)
  have Y1 := Z1.alloc (.cells #[.slice A2 n2 c2] 25)
  have G0 := Blk1.new w3 25 (.slice A2 n2 c2)
  have c0 := Y0.cell
  have s1 := Z1.lt
  clear hb3 hbe X0 X1
  go_wp2_with fail
  refine (nat_Bits A n c x _ (hx2.alloc _) (by omega)).mono ?_
  rintro e w4 ⟨rfl, hb4⟩
  have X0 := Y0.to hb4
  have X1 := Y1.to hb4
  have XG := G0.to hb4
  have hx3 := (hx2.alloc _).to hb4
  have h3 := (h2.alloc (.cells #[.slice A2 n2 c2] 25)).to hb4
  have hbl : Below w.heap.size w w4 := nx (nxa hbe3 _) hb4
  obtain ⟨G, hG⟩ : ∃ G, G = w3.heap.size := ⟨_, rfl⟩
  rw [← hG] at XG ⊢
  have hGs : w.heap.size + 1 < G := by rw [hG]; exact s1
  clear hb4 hbe3 Z0 Z1 Y0 Y1 G0 c0 hx2 h2 hG s1
  go_wp2_with fail
  go_loopw [32] (fun t wr => ∃ j : Nat, j ≤ k ∧ t = .int .i64 (j : Int) ∧ (∃ A1 n1 c1, Loc wr G 25 A1 n1 c1 (x ^ j)) ∧ Below w.heap.size w wr ∧ Blk1 wr w.heap.size 25 (.slice A n c) ∧ Blk1 wr (w.heap.size + 1) 25 (.slice none 0 0)) (fun t _ => k - (intOf t).toNat)
  case atStart => exact ⟨0, Nat.zero_le _, rfl, ⟨A2, n2, c2, XG, h3⟩, hbl, X0, X1⟩
  case round =>
    clear XG h3 hbl X0 X1 hx3
    obtain ⟨j, hj, rfl, ⟨A1, n1, c1, L, h1⟩, hbl, X0, X1⟩ := hrel
    by_cases hlt : j < k
    · have jk : (j : Int) < (k : Int) := by omega
      have q1 := h1.le_of 1024 (HPB.out j hj)
      have hx := h.to hbl
      have cG := L.cell
      have c0 := X0.cell
      go_wp2_with fail
      refine (prod_Mul _ _ _ _ _ _ _ _ _ h1 hx (by omega)).mono ?_
      rintro e w5 ⟨A5, n5, c5, rfl, h5, hb5⟩
      have L5 := L.to hb5
      have cG := L5.cell
      have fG := L5.free
      have Y0 := (X0.to hb5).far (p := ⟨G, 0, none⟩) (by show _ ≠ G; omega) (.slice A5 n5 c5)
      have Y1 := (X1.to hb5).far (p := ⟨G, 0, none⟩) (by show _ ≠ G; omega) (.slice A5 n5 c5)
      obtain ⟨l1, hb⟩ := store1 (w0 := w) (nx hbl hb5) (show w.heap.size ≤ G by omega) L5 h5
      clear hb5 hbl X0 X1 c0 L h1 hx L5
      go_wp2_with fail
      go_roundw
      case rel => exact ⟨j + 1, by omega, by go_num, ⟨A5, n5, c5, by rw [Nat.pow_succ]; exact l1⟩, hb, Y0, Y1⟩
      case measure => simp [intOf]; omega
    · obtain rfl : j = k := by omega
      obtain ⟨l1, hb⟩ := store1 (w0 := w) hbl (by show w.heap.size ≤ w.heap.size + 1; omega) X1 h1
      have e3 := l1.1.cell
      have cG := L.cell
      have c1' := X1.cell
      have f1' := X1.free
      go_wp2_with fail
      exact bodyPost_ret (v := .tuple #[.agg #[.slice A1 n1 c1], .bool true]) (by simp [results, Try.results53, go_sem, e3]) rfl ⟨A1, n1, c1, rfl, l1.2, hb⟩
end Go.Proofs.Ytflleaifmeiikaa
