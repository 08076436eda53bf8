/- The walks of nat's Shr and Low. -/
import Derived.Test.YtflleaifmeiikaaNatShl
namespace Go.Proofs.Ytflleaifmeiikaa
open Go.RowKit
theorem W_split {s : Nat} (hs : s ≤ 64) : W = 2 ^ s * 2 ^ (64 - s) := by
  rw [← Nat.pow_add, show s + (64 - s) = 64 by omega]; rfl
theorem shr_digit {i q s x : Nat} (hs : s ≤ 63) :
    (dg W (i + q) x / 2 ^ s ||| dg W (i + q + 1) x * 2 ^ (64 - s) % W) = dg W i (up 2 s (up W q x)) := by
  have hp : 0 < 2 ^ s := Nat.pow_pos (by decide)
  have hp' : 0 < 2 ^ (64 - s) := Nat.pow_pos (by decide)
  have hW := W_split (s := s) (by omega)
  have hW' : W = 2 ^ (64 - s) * 2 ^ s := by rw [Nat.mul_comm]; exact hW
  -- the number from place i + q on
  obtain ⟨z, hz⟩ : ∃ z, z = x / W ^ (i + q) := ⟨_, rfl⟩
  have e0 : dg W (i + q) x = z % W := by unfold dg; rw [hz]
  have e1 : dg W (i + q + 1) x = z / W % W := by unfold dg; rw [hz, Nat.pow_succ, Nat.div_div_eq_div_mul]
  have e2 : dg W i (up 2 s (up W q x)) = z / 2 ^ s % W := by
    unfold dg up
    rw [hz, Nat.div_div_eq_div_mul, Nat.div_div_eq_div_mul, Nat.div_div_eq_div_mul, Nat.add_comm i q, Nat.pow_add]
    congr 2
    rw [Nat.mul_comm (2 ^ s) (W ^ i), Nat.mul_assoc]
  rw [e0, e1, e2]
  have hlt : z % W / 2 ^ s < 2 ^ (64 - s) := by
    apply Nat.div_lt_of_lt_mul
    rw [← hW]; exact Nat.mod_lt _ W_pos
  have k1 : ∀ t, 2 ^ (64 - s) * t % W = 2 ^ (64 - s) * (t % 2 ^ s) := fun t => by rw [hW', Nat.mul_mod_mul_left]
  have k2 : ∀ a t, a < 2 ^ (64 - s) → (a + 2 ^ (64 - s) * t) % W = a + 2 ^ (64 - s) * (t % 2 ^ s) := fun a t ha => by
    rw [hW', Nat.mod_mul, Nat.add_mul_mod_self_left, Nat.mod_eq_of_lt ha, Nat.add_mul_div_left _ _ hp', Nat.div_eq_of_lt ha, Nat.zero_add]
  have h2 : z / W % W * 2 ^ (64 - s) % W = 2 ^ (64 - s) * (z / W % 2 ^ s) := by
    rw [Nat.mul_comm (z / W % W), k1, Nat.mod_mod_of_dvd _ ⟨2 ^ (64 - s), hW⟩]
  rw [h2, Nat.or_comm, ← Nat.two_pow_add_eq_or_of_lt hlt]
  have hd := Nat.mod_add_div z W
  have h3 : z / 2 ^ s = z % W / 2 ^ s + 2 ^ (64 - s) * (z / W) := by
    conv => lhs; rw [← hd]
    conv => lhs; rw [show W * (z / W) = 2 ^ s * (2 ^ (64 - s) * (z / W)) by rw [← Nat.mul_assoc, ← hW]]
    rw [Nat.add_mul_div_left _ _ hp]
  rw [h3]
  rw [k2 _ _ hlt]; omega
theorem up_two {q s k x : Nat} (h : k = 64 * q + s) : up 2 s (up W q x) = x / 2 ^ k := by
  unfold up
  rw [Nat.div_div_eq_div_mul, W_pow, ← Nat.pow_add, h]
theorem low_mask {q s x : Nat} (hs : s ≤ 63) : put W q (low W (q + 1) x) (dg W q x % 2 ^ s) = x % 2 ^ (64 * q + s) := by
  unfold put
  have h1 : low W (q + 1) x / W ^ (q + 1) = 0 := Nat.div_eq_of_lt (low_bound W_pos _ _)
  have h2 : low W (q + 1) x % W ^ q = x % W ^ q := by
    show low W q (low W (q + 1) x) = low W q x
    exact low_low (by omega)
  rw [h1, h2, Nat.zero_mul, Nat.add_zero, Nat.pow_add, ← W_pow, Nat.mod_mul]
  unfold dg
  rw [Nat.mul_comm (W ^ q)]
  congr 2
  rw [W_split (s := s) (by omega), Nat.mod_mul_right_mod]
theorem nat_Word_is (A : Option Addr) (n c x : Nat) (K : Int) (v : Nat) (w : World) (h : NatAt w A n c x) (hK : ∃ j : Nat, K = (j : Int) ∧ v = dg W j x ∧ j ≤ 9223372036854775807) :
    Calls Try.prog 20 #[.agg #[.slice A n c], .int .i64 K] w (Ret w (.int .u64 (v : Nat))) := by
  obtain ⟨j, rfl, rfl, hj⟩ := hK
  exact nat_Word A n c x j w h hj
theorem nat_Shr_no (A : Option Addr) (n c : Nat) (k : Int) (w : World) (hk : k < 0 ∨ 0 ≤ k ∧ k ≤ 9223372036854775807 ∧ (n : Int) ≤ k / 64) :
    Calls Try.prog 38 #[.agg #[.slice A n c], .int .i64 k] w (RetNat w 0) := by
  have fin : ∀ w', RetNat w 0 (.returned (.agg #[.slice none 0 0])) ((w.alloc (.cells #[.slice A n c] 25)).alloc w') := fun _ => ⟨none, 0, 0, rfl, ⟨Dig.nil _ _ _ _ (by omega), fun h => absurd h (by omega)⟩, nxa (nxa (Below.refl _ _) _) _⟩
  have FIN := Lib.hid fin
  clear fin
  rcases hk with hk | ⟨hk0, hkm, hk⟩
  · go_enter Try.func38, Try.ntmps38
    go_wp2_with fail
    exact bodyPost_ret (v := .agg #[.slice none 0 0]) (by simp [results, Try.results38, go_sem]) rfl (FIN.out _)
  · have hk' : ¬ k < 0 := by omega
    go_enter Try.func38, Try.ntmps38
    go_wp2_with fail
    exact bodyPost_ret (v := .agg #[.slice none 0 0]) (by simp [results, Try.results38, go_sem]) rfl (FIN.out _)
set_option maxRecDepth 100000 in
set_option maxHeartbeats 1000000 in
theorem nat_Shr_yes (A : Option Addr) (n c x k : Nat) (w : World) (h : NatAt w A n c x) (hkn : k / 64 < n) (hn : n ≤ 17592186050000) :
    Calls Try.prog 38 #[.agg #[.slice A n c], .int .i64 (k : Int)] w (RetNat w (x / 2 ^ k)) := by
  obtain ⟨i0, hi, hz0, hz1, hz2⟩ := info_parts info_u64
  have m1 := h.1.max
  have m2 := h.1.cap
  obtain ⟨q, hq⟩ : ∃ q, q = k / 64 := ⟨_, rfl⟩
  obtain ⟨s, hs⟩ : ∃ s, s = k % 64 := ⟨_, rfl⟩
  have eq1 : (k : Int) / 64 = (q : Int) := by omega
  have es1 : (k : Int) % 64 = (s : Int) := by omega
  have hs63 : s ≤ 63 := by omega
  have hqn : q < n := by omega
  obtain ⟨N, hN⟩ : ∃ N, N = n - q := ⟨_, rfl⟩
  obtain ⟨R, hR⟩ : ∃ R, R = up 2 s (up W q x) := ⟨_, rfl⟩
  have hX := Lib.hid (show x / 2 ^ k = R by rw [hR, up_two (k := k) (by omega)])
  have hRN : R < W ^ N := by
    rw [hR]
    refine Nat.lt_of_le_of_lt (Nat.div_le_self _ _) (Nat.div_lt_of_lt_mul ?_)
    rw [← Nat.pow_add, show q + N = n by omega]; exact h.1.lt
  have B0 := (Blk1.new w 25 (.slice A n c)).alloc (.cells #[.slice none 0 0] 25)
  have B1 := Blk1.new (w.alloc (.cells #[.slice A n c] 25)) 25 (.slice none 0 0)
  simp only [World.size_alloc] at B1
  have eN : (n : Int) - (q : Int) = (N : Int) := by omega
  have hkm : (k : Int) ≤ 9223372036854775807 := by omega
  have hqn' : (q : Int) < (n : Int) := by omega
  have HN := Lib.hid hN
  have HR := Lib.hid hR
  clear hq hs hN hR hkn
  go_enter Try.func38, Try.ntmps38
  go_wp2_with (at_make; refine wpList_make_full _ rfl _ _ 22 rfl (w.heap.size + 1 + 1) 30 i0 (.int .u64 0) 1 Try.underlying22 hi hz0 hz1 .i64 .i64 _ _ N rfl rfl (by omega) (by omega) (by rw [hz2]; have := HN.out; omega) (by unfold maxLen; have := HN.out; omega) (by simp) ?_)
  intro w1 hown hgrow
  rw [made_dl .u64 W] at hown
  have hb1 := below_of_none hgrow
  have X0 := B0.to hb1
  have X1 := B1.to hb1
  have hbel : Below w.heap.size w w1 := nx (nxa (nxa (Below.refl _ _) _) _) hb1
  have c0 := X0.cell
  have hs1 : w.heap.size + 1 + 1 < w1.heap.size := (hown.lt _ rfl).2
  have hN2 : N ≤ 17592186050000 := by have := HN.out; omega
  clear hgrow hb1
  go_wp2_with fail
  clear c0
  rw [es1]
  go_loopw [7, 30] (fun _ k wr => ∃ i : Nat, i ≤ N ∧ k = .int .i64 (i : Int) ∧ wr.ownsRow (w.heap.size + 1 + 1) 30 1 (.slice (some ⟨w.heap.size + 1 + 1, 0, none⟩) N N) N (dl .u64 W N (low W i R)) ∧ Below w.heap.size w wr ∧ Blk1 wr w.heap.size 25 (.slice A n c) ∧ Blk1 wr (w.heap.size + 1) 25 (.slice none 0 0)) (fun _ k _ => N - (intOf k).toNat)
  case atStart => exact ⟨0, Nat.zero_le _, rfl, by rw [low_nought]; exact hown, hbel, X0, X1⟩
  case round =>
    obtain ⟨i, hik, rfl, hown, hbel, X0, X1⟩ := hrel
    by_cases hlt : i < N
    · have c0 := X0.cell
      have hx := h.below hbel (Nat.le_refl _)
      have iN : (i : Int) < (N : Int) := by omega
      have SD := shr_digit (i := i) (q := q) (s := s) (x := x) hs63
      rw [← HR.out] at SD
      obtain ⟨a1, ha1⟩ : ∃ a1, a1 = dg W (i + q) x := ⟨_, rfl⟩
      obtain ⟨a2, ha2⟩ : ∃ a2, a2 = dg W (i + q + 1) x := ⟨_, rfl⟩
      obtain ⟨v, hv⟩ : ∃ v, v = dg W i R := ⟨_, rfl⟩
      have l1 : a1 < W := by rw [ha1]; exact dg_lt W_pos _ _
      rw [← ha1, ← ha2, ← hv] at SD
      have q1 : bits .or .u64 ((a1 : Int) / 2 ^ s) (IntKind.u64.wrap ((a2 : Int) * 2 ^ (64 - s))) = (v : Int) := by
        rw [show ((2 : Int) ^ s) = ((2 ^ s : Nat) : Int) by simp, show ((2 : Int) ^ (64 - s)) = ((2 ^ (64 - s) : Nat) : Int) by simp, div_nat, wrap_mul, or_nat _ _ (Nat.lt_of_le_of_lt (Nat.div_le_self _ _) l1) (Nat.mod_lt _ W_pos), SD]
      have HA1 := Lib.hid ha1
      have HA2 := Lib.hid ha2
      have HV := Lib.hid hv
      have kM : i + q ≤ 9223372036854775807 := by have := HN.out; omega
      have kM1 : i + q + 1 ≤ 9223372036854775807 := by have := HN.out; omega
      have z0 : IntKind.i64.wrap (q : Int) = (q : Int) := IntWalk.i64_in _ (by omega)
      have z1 : IntKind.i64.wrap ((i : Int) + (q : Int)) = (i : Int) + (q : Int) := IntWalk.i64_in _ (by omega)
      have z2 : IntKind.i64.wrap ((i : Int) + (q : Int) + 1) = (i : Int) + (q : Int) + 1 := IntWalk.i64_in _ (by omega)
      have z3 : IntKind.i64.wrap (64 - (s : Int)) = ((64 - s : Nat) : Int) := by rw [IntWalk.i64_in _ (by omega)]; omega
      clear ha1 ha2 hv SD l1
      have tok1 : True := trivial
      go_wp2_with fail
      go_region_held3 (fun w' => w'.cell? ⟨w.heap.size, 0, none⟩ = some (.slice A n c)) (first | (exact (((X0.drew.to hb2).to hb3).far (by show _ ≠ w.heap.size + 1 + 1; omega) _).cell) | (exact ((X0.drew.to hb2).to hb3).cell) | (exact (X0.drew.to hb2).cell) | go_keep)
        (first | (go_at_call 20; have _t := tok1; (with_reducible refine (nat_Word_is A n c x _ a1 _ hx.drew ⟨i + q, by omega, HA1.out, kM⟩).mono ?_); rintro e w2 ⟨rfl, hb2⟩; clear tok1) | (go_at_call 20; (with_reducible refine (nat_Word_is A n c x _ a2 _ (hx.drew.to hb2) ⟨i + q + 1, by omega, HA2.out, kM1⟩).mono ?_); rintro e w3 ⟨rfl, hb3⟩; have ho3 := own_below (own_below hown.drew hb2) hb3; have c4 := ho3.cellAt i (by omega); have f4 := ho3.frozenAt i; rw [dl_get _ _ _ _ _ hlt] at c4))
      have ho := (ho3.stored i (.int .u64 (v : Nat))).1
      rw [dl_set W_pos hlt (by rw [HV.out]; exact dg_lt W_pos _ _), put_top (low_bound W_pos _ _), HV.out, low_next, ← HV.out] at ho
      have hbelw : Below w.heap.size w w3 := nx (nx (nxd hbel 1) hb2) hb3
      have hbel' := hbelw.setCell (p := ⟨w.heap.size + 1 + 1, i, none⟩) (by show w.heap.size ≤ w.heap.size + 1 + 1; omega) (.int .u64 (v : Nat))
      have Y0 := ((X0.drew.to hb2).to hb3).far (p := ⟨w.heap.size + 1 + 1, i, none⟩) (by show _ ≠ w.heap.size + 1 + 1; omega) (.int .u64 (v : Nat))
      have Y1 := ((X1.drew.to hb2).to hb3).far (p := ⟨w.heap.size + 1 + 1, i, none⟩) (by show _ ≠ w.heap.size + 1 + 1; omega) (.int .u64 (v : Nat))
      clear hb2 hb3 ho3 c4 f4 c0 hbelw hown hbel X0 X1 z0 z1 z2 z3
      go_wp2_with fail
      go_roundw
      case rel => exact ⟨i + 1, by omega, by go_num, ho, hbel', Y0, Y1⟩
      case measure => simp [intOf]; omega
    · obtain rfl : i = N := by omega
      rw [low_all hRN] at hown
      obtain ⟨A1, c1, hv, hd, hf⟩ := own_form hown hRN
      cases hv
      go_wp2_with fail
      refine (nat_trim _ i i _ _ hd).mono ?_
      rintro e w3 ⟨m, rfl, hd2, hb2, hm⟩
      have Z1 := X1.to hb2
      have c0 := Z1.cell
      have f0 := Z1.free
      have hbel' := nx hbel hb2
      clear hd hf hown hb2
      go_wp2_with fail
      exact bodyPost_ret (v := .agg #[.slice (some ⟨w.heap.size + 1 + 1, 0, none⟩) m i]) (by simp [results, Try.results38, go_sem, c0]) rfl ⟨_, m, _, rfl, by rw [hX.out]; exact hd2.put_ c0 _, hbel'.setCell (by show w.heap.size ≤ w.heap.size + 1; omega) _⟩
/-- Shr at whatever place from 0 on -/
theorem nat_Shr (A : Option Addr) (n c x k : Nat) (w : World) (h : NatAt w A n c x) (hk : k ≤ 9223372036854775807) (hn : n ≤ 17592186050000) :
    Calls Try.prog 38 #[.agg #[.slice A n c], .int .i64 (k : Int)] w (RetNat w (x / 2 ^ k)) := by
  by_cases hkn : k / 64 < n
  · exact nat_Shr_yes A n c x k w h hkn hn
  · have e : x / 2 ^ k = 0 := by
      apply Nat.div_eq_of_lt
      refine Nat.lt_of_lt_of_le h.1.lt ?_
      rw [W_pow]; exact Nat.pow_le_pow_right (by decide) (by omega)
    rw [e]
    exact nat_Shr_no A n c k w (.inr ⟨by omega, by omega, by omega⟩)
end Go.Proofs.Ytflleaifmeiikaa
