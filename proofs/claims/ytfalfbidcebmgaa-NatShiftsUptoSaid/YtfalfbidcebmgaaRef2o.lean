/- The walks of actuaryref02: Low. -/
import Derived.Test.YtfalfbidcebmgaaRef2l
import Derived.Deep.RegionHeld3
namespace Go.Proofs.Ytfalfbidcebmgaa
open Go.RowKit
set_option linter.unusedSimpArgs false
theorem low_split (x k : Nat) : low 65536 (k / 16) x + dg 65536 (k / 16) x % 2 ^ (k % 16) * 65536 ^ (k / 16) = x % 2 ^ k := by
  rw [← pow_split k, Nat.mod_mul]
  unfold low dg
  rw [Nat.mod_mod_of_dvd _ (show 2 ^ (k % 16) ∣ 65536 from by rw [show 65536 = 2 ^ 16 from rfl]; exact Nat.pow_dvd_pow 2 (by omega)), Nat.mul_comm (65536 ^ (k / 16))]
theorem ref2_Low_no (A : Option Addr) (n c : Nat) (k : Int) (w : World) (hk : k < 0) :
    Calls Try.prog 29 #[.slice A n c, .int .i64 k] w (RetRef 65536 w 0) := by
  go_enter Try.func29, Try.ntmps29
  go_wp2
  go_ret
  exact ⟨none, 0, 0, rfl, NumAt.nil _ _ _, Below.refl _ _, Fresh.none _⟩
set_option maxRecDepth 100000 in
set_option maxHeartbeats 1000000 in
theorem ref2_Low (A : Option Addr) (n c x k : Nat) (w : World) (h : Dig .i64 65536 w A n c x) (hk : k ≤ 9223372036854775807) (hn : n ≤ 4000000000) :
    Calls Try.prog 29 #[.slice A n c, .int .i64 (k : Nat)] w (RetRef 65536 w (x % 2 ^ k)) := by
  obtain ⟨i0, hi, hz0, hz1, hz2⟩ := info_parts info_int
  have m1 := h.max
  have m2 := h.cap
  obtain ⟨q, hq⟩ : ∃ q, q = k / 16 := ⟨_, rfl⟩
  obtain ⟨r, hr⟩ : ∃ r, r = k % 16 := ⟨_, rfl⟩
  have e1 : (k : Int) / 16 = (q : Int) := by omega
  have e2 : (k : Int) % 16 = (r : Int) := by omega
  have hrl : r ≤ 15 := by omega
  have HS := Lib.hid (show low 65536 q x + dg 65536 q x % 2 ^ r * 65536 ^ q = x % 2 ^ k by rw [hq, hr]; exact low_split x k)
  have hk0 : ¬ (k : Int) < 0 := by omega
  have hqk : 16 * q ≤ k := by omega
  obtain ⟨pw, hpw⟩ : ∃ pw, pw = 2 ^ r := ⟨_, rfl⟩
  have hpl : pw ≤ 65536 := by rw [hpw]; exact Nat.le_trans (Nat.pow_le_pow_right (by decide) hrl) (by decide)
  have hp0 : 0 < pw := by rw [hpw]; exact Nat.pow_pos (by decide)
  have HPW := Lib.hid hpw
  clear hq hr hpw
  by_cases hqn : q < n
  · obtain ⟨g, o, rfl, hg, hcell⟩ := h.at_ (by omega)
    have hcq := hcell q hqn
    have hu := h.upto (by decide) (i := q) (by omega)
    have hqi : (q : Int) < (n : Int) := by omega
    have hqi0 : (0 : Int) ≤ (q : Int) := by omega
    clear hcell
    go_enter Try.func29, Try.ntmps29
    go_wp2_with (at_builtin; go_loud (refine wpList_append_dig2 _ rfl _ _ 27 28 rfl w.heap.size 3 3 i0 (.int .i64 0) 8 Try.underlying27 Try.underlying28 hi hz0 hz1 hz2 rfl .i64 65536 _ 0 0 rfl (own_nil _ _ _ _ _) (some ⟨g, o, none⟩) q c _ rfl hu (by unfold maxLen; omega) (by omega) (Nat.le_refl _) (by decide) (by decide) ?_))
    intro v' w1 hown hgrow
    have hbel := below_of_none hgrow
    obtain ⟨a, ha⟩ : ∃ a, a = dg 65536 q x := ⟨_, rfl⟩
    have hcq0 := hcq
    rw [← ha] at hcq0
    have hcq1 := (hbel.cell (p := ⟨g, o + q, none⟩) hg).trans hcq0
    have HA := Lib.hid ha
    clear hgrow hcq ha
    have zq : IntKind.i64.wrap (q : Int) = (q : Int) := IntWalk.i64_in _ (by omega)
    have zr : IntKind.i64.wrap (r : Int) = (r : Int) := IntWalk.i64_in _ (by omega)
    obtain ⟨d, hd⟩ : ∃ d, d = a % pw := ⟨_, rfl⟩
    have zd : (a : Int).tmod (pw : Int) = (d : Int) := by rw [hd]; rfl
    have hda : a < 65536 := by rw [HA.out]; exact dg_lt (by decide) _ _
    have hdl : d < 65536 := by rw [hd]; exact Nat.lt_of_le_of_lt (Nat.mod_le _ _) hda
    have hpn : ¬ pw = 0 := by omega
    have HD := Lib.hid hd
    clear hd
    have zt : (k : Int).tmod 16 = (r : Int) := by rw [Int.tmod_eq_emod_of_nonneg (by omega)]; exact e2
    go_wp2_with fail
    refine wp_region_held_drew (S := fun w' => w'.cell? ⟨g, o + q, none⟩ = some (.int .i64 (a : Int))) (by kernel_rfl) hcq1 (fun hHeld => ?_)
    refine wpAnyH_take (i := 0) (v := ?_) (by simp only [List.getElem?_toArray, List.getElem?_cons_succ, List.getElem?_cons_zero]; rfl) (by kernel_rfl) (by kernel_rfl) (by kernel_rfl) (by exact fun _ _ _ h => h) (Or.inl ⟨by rfl, ?_⟩) (by assumption) ?_
    rotate_left
    · intro w hSw; (try dsimp only at hSw); go_simp; try with_reducible rfl
    try simp only [Act.put, List.setIfInBounds_toArray, List.set_cons_zero, List.set_cons_succ]
    refine wpAnyH_take (i := 1) (v := ?_) (by simp only [List.getElem?_toArray, List.getElem?_cons_succ, List.getElem?_cons_zero]; rfl) (by kernel_rfl) (by kernel_rfl) (by kernel_rfl) (by exact fun _ _ _ h => h) (Or.inl ⟨by rfl, ?_⟩) (by assumption) ?_
    rotate_left
    · intro w hSw; (try dsimp only at hSw); go_simp; try with_reducible rfl
    try simp only [Act.put, List.setIfInBounds_toArray, List.set_cons_zero, List.set_cons_succ]
    refine wpAnyH_take (i := 2) (v := ?_) (by simp only [List.getElem?_toArray, List.getElem?_cons_succ, List.getElem?_cons_zero]; rfl) (by kernel_rfl) (by kernel_rfl) (by kernel_rfl) (by exact fun _ _ _ h => h) (Or.inl ⟨by rfl, ?_⟩) (by assumption) ?_
    rotate_left
    · intro w hSw; (try dsimp only at hSw); go_simp; try with_reducible rfl
    try simp only [Act.put, List.setIfInBounds_toArray, List.set_cons_zero, List.set_cons_succ]
    refine wpAnyH_take (i := 3) (v := ?_) (by simp only [List.getElem?_toArray, List.getElem?_cons_succ, List.getElem?_cons_zero]; rfl) (by kernel_rfl) (by kernel_rfl) (by kernel_rfl) (by exact fun _ _ _ h => h) (Or.inl ⟨by rfl, ?_⟩) (by assumption) ?_
    rotate_left
    · intro w hSw; (try dsimp only at hSw); go_simp; try with_reducible rfl
    try simp only [Act.put, List.setIfInBounds_toArray, List.set_cons_zero, List.set_cons_succ]
    refine wpAnyH_take (i := 4) (v := ?_) (by simp only [List.getElem?_toArray, List.getElem?_cons_succ, List.getElem?_cons_zero]; rfl) (by kernel_rfl) (by kernel_rfl) (by kernel_rfl) (by exact fun _ _ _ h => h) (Or.inl ⟨by rfl, ?_⟩) (by assumption) ?_
    rotate_left
    · intro w hSw; (try dsimp only at hSw); go_simp; try with_reducible rfl
    try simp only [Act.put, List.setIfInBounds_toArray, List.set_cons_zero, List.set_cons_succ]
    refine wpAnyH_take (i := 5) (v := ?_) (by simp only [List.getElem?_toArray, List.getElem?_cons_succ, List.getElem?_cons_zero]; rfl) (by kernel_rfl) (by kernel_rfl) (by kernel_rfl) (by exact fun _ _ _ h => h) (Or.inl ⟨by rfl, ?_⟩) (by assumption) ?_
    rotate_left
    · intro w hSw; (try dsimp only at hSw); go_simp; try with_reducible rfl
    try simp only [Act.put, List.setIfInBounds_toArray, List.set_cons_zero, List.set_cons_succ]
    refine wpAnyH_take (i := 6) (v := ?_) (by simp only [List.getElem?_toArray, List.getElem?_cons_succ, List.getElem?_cons_zero]; rfl) (by kernel_rfl) (by kernel_rfl) (by kernel_rfl) (by exact fun _ _ _ h => h) (Or.inl ⟨by rfl, ?_⟩) (by assumption) ?_
    rotate_left
    · intro w hSw; (try dsimp only at hSw); go_simp; try with_reducible rfl
    try simp only [Act.put, List.setIfInBounds_toArray, List.set_cons_zero, List.set_cons_succ]
    refine wpAnyH_take (i := 7) (v := ?_) (by simp only [List.getElem?_toArray, List.getElem?_cons_succ, List.getElem?_cons_zero]; rfl) (by kernel_rfl) (by kernel_rfl) (by kernel_rfl) (by exact fun _ _ _ h => h) (Or.inl ⟨by rfl, ?_⟩) (by assumption) ?_
    rotate_left
    · intro w hSw; (try dsimp only at hSw); go_simp; try with_reducible rfl
    try simp only [Act.put, List.setIfInBounds_toArray, List.set_cons_zero, List.set_cons_succ]
    refine wpAnyH_ready (rs := [8]) (by kernel_rfl) (by simp) (AllReadyH.cons (by simp only [List.getElem?_toArray, List.getElem?_cons_succ, List.getElem?_cons_zero]; rfl) (fun K hK => ?_) AllReadyH.nil)
    go_simp
    refine (ref2_Power _ pw _ ⟨r, by omega, HPW.out, by omega⟩).mono ?_
    rintro e w2 ⟨rfl, rfl⟩
    go_simp
    refine hK.out _ _ (hHeld) (fun hHeld => ?_)
    clear hK K
    try simp only [Act.put, List.setIfInBounds_toArray, List.set_cons_zero, List.set_cons_succ]
    refine wpAnyH_take (i := 9) (v := ?_) (by simp only [List.getElem?_toArray, List.getElem?_cons_succ, List.getElem?_cons_zero]; rfl) (by kernel_rfl) (by kernel_rfl) (by kernel_rfl) (by exact fun _ _ _ h => h) (Or.inl ⟨by rfl, ?_⟩) (by assumption) ?_
    rotate_left
    · intro w hSw; (try dsimp only at hSw); go_simp; try with_reducible rfl
    try simp only [Act.put, List.setIfInBounds_toArray, List.set_cons_zero, List.set_cons_succ]
    refine wpAnyH_ready (rs := [10]) (by kernel_rfl) (by simp) (AllReadyH.cons (by simp only [List.getElem?_toArray, List.getElem?_cons_succ, List.getElem?_cons_zero]; rfl) (fun K hK => ?_) AllReadyH.nil)
    go_simp
    refine hK.out _ _ (((nxa (Below.refl _ _) _ : Below w1.drew.heap.size w1.drew _).cell (World.block_lt_of_cell? _ _ hHeld)).trans hHeld) (fun hHeld2 => ?_)
    clear hK K
    try simp only [Act.put, List.setIfInBounds_toArray, List.set_cons_zero, List.set_cons_succ]
    refine wpAnyH_ready (rs := [11]) (by kernel_rfl) (by simp) (AllReadyH.cons (by simp only [List.getElem?_toArray, List.getElem?_cons_succ, List.getElem?_cons_zero]; rfl) (fun K hK => ?_) AllReadyH.nil)
    rw [if_pos (by rfl)]
    refine wp_push _ _ 27 rfl w w1.drew 3 i0 (.int .i64 0) 8 Try.underlying27 hi hz0 hz1 hz2 rfl .i64 65536 _ q (x % 65536 ^ q) rfl hown (nxw hbel) _ rfl d rfl hdl (Nat.mod_lt _ (Nat.pow_pos (by decide))) rfl (by unfold maxLen; omega) (by omega) ?_
    intro v2 w2 hown2 hbel2
    refine hK.out _ _ ((hbel2.cell (p := ⟨g, o + q, none⟩) hg).trans hcq0) (fun hHeld3 => ?_)
    clear hK K
    try simp only [Act.put, List.setIfInBounds_toArray, List.set_cons_zero, List.set_cons_succ]
    refine wpAnyH_take (i := 12) (v := ?_) (by simp only [List.getElem?_toArray, List.getElem?_cons_succ, List.getElem?_cons_zero]; rfl) (by kernel_rfl) (by kernel_rfl) (by kernel_rfl) (by exact fun _ _ _ h => h) (Or.inl ⟨by rfl, ?_⟩) (by assumption) ?_
    rotate_left
    · intro w hSw; (try dsimp only at hSw); go_simp; try with_reducible rfl
    try simp only [Act.put, List.setIfInBounds_toArray, List.set_cons_zero, List.set_cons_succ]
    refine wpAnyH_done (by kernel_rfl) ?_ _
    have HX : x % 65536 ^ q + d * 65536 ^ q = x % 2 ^ k := by rw [← HS.out, HD.out, HA.out, HPW.out]; rfl
    rw [HX] at hown2
    have hlt : x % 2 ^ k < 65536 ^ (q + 1) := by rw [← HX]; exact add_lt_succ (Nat.mod_lt _ (Nat.pow_pos (by decide))) hdl
    obtain ⟨A2, c2, rfl, hd3, hf⟩ := own_form hown2 hlt
    clear hown2 HX hlt hown hHeld hHeld2 hHeld3 zd zt zq zr
    go_wp2_with fail
    refine (ref2_Trim _ _ _ _ _ hd3 (by omega)).mono ?_
    rintro e w3 ⟨A3, n3, c3, rfl, hd4, hb3, hf3⟩
    go_wp2_with fail
    go_ret
    exact ⟨A3, n3, c3, rfl, hd4, nx hbel2 hb3, hf3.mono hbel2.size⟩
  · have hqi : (n : Int) ≤ (q : Int) := by omega
    have HX := Lib.hid (show x % 2 ^ k = x from Nat.mod_eq_of_lt (Nat.lt_of_lt_of_le h.lt (by
      rw [show 65536 = 2 ^ 16 from rfl, ← Nat.pow_mul]; exact Nat.pow_le_pow_right (by decide) (by omega))))
    go_enter Try.func29, Try.ntmps29
    go_wp2_with fail
    refine (ref2_Trim _ _ _ _ _ h (by omega)).mono ?_
    rintro e w1 ⟨A1, n1, c1, rfl, hd1, hb1, hf⟩
    go_wp2_with fail
    go_ret
    exact ⟨A1, n1, c1, rfl, by rw [HX.out]; exact hd1, hb1, hf⟩
end Go.Proofs.Ytfalfbidcebmgaa
