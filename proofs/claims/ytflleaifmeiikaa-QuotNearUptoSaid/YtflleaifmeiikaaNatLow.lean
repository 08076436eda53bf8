/- The walk of nat's Low. -/
import Derived.Test.YtflleaifmeiikaaNatShr
namespace Go.Proofs.Ytflleaifmeiikaa
open Go.RowKit
theorem mask_nat {s : Nat} (hs : s ≤ 63) (a : Nat) (ha : a < W) : bits .and .u64 (a : Int) (IntKind.u64.wrap (IntKind.u64.wrap (2 ^ s) - 1)) = ((a % 2 ^ s : Nat) : Int) := by
  have hp : 0 < 2 ^ s := Nat.pow_pos (by decide)
  have h2s : 2 ^ s < W := by rw [W_eq]; exact Nat.pow_lt_pow_right (by decide) (by omega)
  rw [show ((2 : Int) ^ s) = ((2 ^ s : Nat) : Int) by simp, wrap_nat, Nat.mod_eq_of_lt h2s, show (1 : Int) = ((1 : Nat) : Int) from rfl, wrap_sub _ _ (by decide)]
  have e : (2 ^ s + (W - 1)) % W = 2 ^ s - 1 := by
    rw [show 2 ^ s + (W - 1) = (2 ^ s - 1) + W by omega, Nat.add_mod_right, Nat.mod_eq_of_lt (by omega)]
  rw [e, and_nat _ _ ha (by omega), Nat.and_two_pow_sub_one_eq_mod]
theorem nat_Low_neg (A : Option Addr) (n c : Nat) (k : Int) (w : World) (hk : k < 0) :
    Calls Try.prog 39 #[.agg #[.slice A n c], .int .i64 k] w (RetNat w 0) := by
  have fin : ∀ w', RetNat w 0 (.returned (.agg #[.slice none 0 0])) ((w.alloc (.cells #[.slice A n c] 25)).alloc w') := fun _ => ⟨none, 0, 0, rfl, ⟨Dig.nil _ _ _ _ (by omega), fun h => absurd h (by omega)⟩, nxa (nxa (Below.refl _ _) _) _⟩
  have FIN := Lib.hid fin
  clear fin
  go_enter Try.func39, Try.ntmps39
  go_wp2_with fail
  exact bodyPost_ret (v := .agg #[.slice none 0 0]) (by simp [results, Try.results39, go_sem]) rfl (FIN.out _)
set_option maxRecDepth 100000 in
set_option maxHeartbeats 1000000 in
theorem nat_Low (A : Option Addr) (n c x k : Nat) (w : World) (h : NatAt w A n c x) (hkm : (k : Int) ≤ 9223372036854775807) (hn : n ≤ 17592186044416) :
    Calls Try.prog 39 #[.agg #[.slice A n c], .int .i64 (k : Int)] w (RetNat w (x % 2 ^ k)) := by
  have m1 := h.1.max
  have m2 := h.1.cap
  obtain ⟨q, hq⟩ : ∃ q, q = k / 64 := ⟨_, rfl⟩
  have eq1 : (k : Int) / 64 = (q : Int) := by omega
  have B0 := (Blk1.new w 25 (.slice A n c)).alloc (.cells #[.slice none 0 0] 25)
  have B1 := Blk1.new (w.alloc (.cells #[.slice A n c] 25)) 25 (.slice none 0 0)
  simp only [World.size_alloc] at B1
  have ha := (h.1.alloc (.cells #[.slice A n c] 25)).alloc (.cells #[.slice none 0 0] 25)
  by_cases hqn : n ≤ q
  · have hX := Lib.hid (show x % 2 ^ k = x from Nat.mod_eq_of_lt (Nat.lt_of_lt_of_le h.1.lt (by rw [W_pow]; exact Nat.pow_le_pow_right (by decide) (by omega))))
    clear hq
    go_enter Try.func39, Try.ntmps39
    go_wp2_with fail
    refine (nat_Of A n c x _ ha hn).mono ?_
    rintro e w1 ⟨A1, m, c1, rfl, hd1, hb1, _⟩
    have Z1 := B1.to hb1
    have c0 := Z1.cell
    have f0 := Z1.free
    have hbel := nx (nxa (nxa (Below.refl w.heap.size w) _) _) hb1
    clear hb1
    go_wp2_with fail
    exact bodyPost_ret (v := .agg #[.slice A1 m c1]) (by simp [results, Try.results39, go_sem, c0]) rfl ⟨A1, m, c1, rfl, by rw [hX.out]; exact hd1.put_ c0 _, hbel.setCell (by show w.heap.size ≤ w.heap.size + 1; omega) _⟩
  · obtain ⟨s, hs⟩ : ∃ s, s = k % 64 := ⟨_, rfl⟩
    have es1 : (k : Int) % 64 = (s : Int) := by omega
    have hs63 : s ≤ 63 := by omega
    have hX := Lib.hid (show x % 2 ^ k = put W q (low W (q + 1) x) (dg W q x % 2 ^ s) by rw [low_mask hs63]; congr 2; omega)
    have hqn' : (q : Int) < (n : Int) := by omega
    have hc1 : (q : Int) + 1 ≤ (c : Int) := by omega
    have hd := ha.upto W_pos (i := q + 1) (by omega)
    clear hq hs
    have hr := clone A (q + 1) c _ _ hd (by omega)
    have HR := Lib.hid hr
    clear hr
    go_enter Try.func39, Try.ntmps39
    go_wp2_with fail
    refine HR.out.mono ?_
    rintro e w1 ⟨A1, c1, rfl, hown, hb1⟩
    obtain ⟨g, c2, hv, hg1, hg2, hcc, hcm, hcell, hfz⟩ := own_lies hown (by omega)
    cases hv
    have Z1 := B1.to hb1
    have hbel := nx (nxa (nxa (Below.refl w.heap.size w) _) _) hb1
    have hgw : w.heap.size + 1 < g := by have := hg1; simp at this; omega
    have c3 := hcell q (by omega)
    have f3 := hfz q
    have l3 := dg_lt W_pos q (x % W ^ (q + 1))
    have e3 : dg W q (x % W ^ (q + 1)) = dg W q x := dg_mod W_pos (by omega)
    obtain ⟨t, ht⟩ : ∃ t, t = dg W q (x % W ^ (q + 1)) := ⟨_, rfl⟩
    rw [← ht] at c3 l3 e3
    obtain ⟨v, hv⟩ : ∃ v, v = t % 2 ^ s := ⟨_, rfl⟩
    have q1 : bits .and .u64 (t : Int) (IntKind.u64.wrap (IntKind.u64.wrap (2 ^ s) - 1)) = (v : Int) := by rw [mask_nat hs63 t l3, hv]
    have hvw : v < W := by rw [hv]; exact Nat.lt_of_le_of_lt (Nat.mod_le _ _) l3
    have hX2 := Lib.hid (show x % 2 ^ k = put W q (x % W ^ (q + 1)) v by rw [hX.out, hv, e3]; rfl)
    have hcc' : q < c1 := by omega
    clear hv e3 ht hcell hfz hb1 l3
    go_wp2_with fail
    go_region
    have ho := (hown.stored q (.int .u64 (v : Nat))).1
    have hlt : x % W ^ (q + 1) < W ^ (q + 1) := low_lt W_pos _ _
    rw [dl_set W_pos (by omega) hvw] at ho
    have hfit := put_lt W_pos (i := q) (n := q + 1) (by omega) hlt hvw
    obtain ⟨A2, c2, hv2, hd2, _⟩ := own_form ho hfit
    cases hv2
    have hbel' := hbel.setCell (p := ⟨g, q, none⟩) (by show w.heap.size ≤ g; omega) (.int .u64 (v : Nat))
    have Y1 := Z1.far (p := ⟨g, q, none⟩) (by show _ ≠ g; omega) (.int .u64 (v : Nat))
    clear hbel Z1 hlt
    go_wp2_with fail
    refine (nat_trim _ (q + 1) c1 _ _ hd2.drew).mono ?_
    rintro e w3 ⟨m, rfl, hd3, hb3, hm⟩
    have Y2 := Y1.drew.to hb3
    have c0 := Y2.cell
    have f0 := Y2.free
    have hbel2 := nx hbel'.drew hb3
    clear hb3
    go_wp2_with fail
    exact bodyPost_ret (v := .agg #[.slice (some ⟨g, 0, none⟩) m c1]) (by simp [results, Try.results39, go_sem, c0]) rfl ⟨_, m, c1, rfl, by rw [hX2.out]; exact hd3.put_ c0 _, hbel2.setCell (by show w.heap.size ≤ w.heap.size + 1; omega) _⟩
end Go.Proofs.Ytflleaifmeiikaa
