/- The walks of actuaryref06, first part: back, Bytes, Text. -/
import Derived.Test.YtihbpkljjmpkjaaDig3
import Derived.Test.YtihbpkljjmpkjaaTxtLaw
import Derived.Test.YtihbpkljjmpkjaaKC
import Derived.Deep.LoopGhost
import Derived.Laws.IdiomStrings
set_option linter.unusedVariables false
set_option linter.unusedSimpArgs false
namespace Go.Proofs.Ytihbpkljjmpkjaa
open Go.RowKit
set_option maxRecDepth 100000
theorem NumAt.grown {k : IntKind} {b : Nat} {w w' : World} {A : Option Addr} {n c x : Nat} {row : Option Nat} (h : NumAt k b w A n c x) (hg : w.grownBy w' row) (hne : 0 < n → ∀ a, A = some a → some a.block ≠ row) : NumAt k b w' A n c x := by
  refine ⟨⟨h.1.1, h.1.2.1, h.1.2.2.1, fun hn => ?_⟩, h.2⟩
  obtain ⟨g, o, e, hg', hc⟩ := h.1.2.2.2 hn
  exact ⟨g, o, e, Nat.lt_of_lt_of_le hg' hg.size, fun j hj => (World.cell?_of_block (hg.block g hg' (hne hn _ e))).trans (hc j hj)⟩
theorem numAt_isLen {k : IntKind} {b : Nat} {w : World} {A : Option Addr} {n c x : Nat} (h : NumAt k b w A n c x) : IsLen b x n := ⟨h.lt, h.2⟩
/-- a row of the call's own, of bytes told by a list, as a string -/
theorem conv_own {P : Program} {w : World} {base e src dst : TypeId} {v : Value} {n : Nat} {l : List UInt8} (h : w.ownsRow base e 1 v n (Lib.byteCells l)) (hs : P.underlying src = some (.slice e)) (he : P.underlying e = some (.int .u8)) (hd : P.underlying dst = some .string) :
    (convert src dst v).run P w = .ok (.string ⟨l.toArray⟩) w := by
  have hn : l.length = n := by have := h.1; rw [Lib.byteCells_length] at this; omega
  rcases h.2 with ⟨rfl, h0⟩ | ⟨g, cap, cur, rfl, hb, hg, hnc, hcm, hcs, htake⟩
  · have hl : l = [] := List.eq_nil_of_length_eq_zero (by omega)
    subst hl
    exact run_convert_bytes_nil w src e hs he 0 0 dst hd
  · subst hn
    refine run_convert_bytes_back w src dst e _ cap l hs he hd (fun j hj => ?_)
    rw [Addr.add_lit, Nat.zero_add, h.cellAt j (by omega)]
    unfold Lib.byteCells
    rw [List.getElem?_map, List.getElem?_eq_getElem hj]
    rfl
/-- the letters of a number's digits, as digits to the base 256 -/
theorem dl_txt {N m x : Nat} (hm : m ≤ N) : dl .u8 256 m (asc 256 10 48 m (rv 10 N x)) = Lib.byteCells (txtTo N m x) := by
  unfold dl Lib.byteCells txtTo
  rw [List.map_map]
  refine List.map_congr_left fun j hj => ?_
  have hj := List.mem_range.1 hj
  have hd := dg_lt (b := 10) (by decide) (N - 1 - j) x
  rw [dg_asc (by decide) (by decide) hj, dg_rv (by decide) (by omega)]
  simp only [Function.comp, UInt8.toNat_ofNat']
  rw [Nat.mod_eq_of_lt (by omega)]
set_option maxHeartbeats 4000000 in
theorem ref6_back (A : Option Addr) (n c x B : Nat) (w : World) (h : NumAt .i64 65536 w A n c x) (hB : 2 ≤ B) (hB2 : B ≤ 256) (hn : n ≤ 1000000) :
    Calls Try.prog 49 #[.slice A n c, .int .i64 (B : Nat)] w (RetRef B w x) := by
  obtain ⟨i0, hi, hz0, hz1, hz2⟩ := info_parts info_int
  have m1 := h.1.max
  have m2 := h.1.cap
  have BI : (B : Int) ≤ 256 := by omega
  go_enter Try.func49, Try.ntmps49
  go_wp2_with fail
  go_loopg [0, 5] x (fun gk t0 t5 wr => ∃ k A1 n1 c1, t0 = .slice A1 n1 c1 ∧ NumAt .i64 65536 wr A1 n1 c1 gk ∧ gk = x / B ^ k ∧ n1 ≤ n ∧ (0 < k → B ^ (k - 1) ≤ x) ∧ wr.ownsRow w.heap.size 3 1 t5 k (dl .i64 B k (low B k x)) ∧ Below w.heap.size w wr ∧ (0 < n1 → ∀ a, A1 = some a → some a.block ≠ t5.ownBlock))
  case atStart => exact ⟨0, A, n, c, rfl, h, by simp, Nat.le_refl _, fun h => absurd h (by omega), by rw [low_nought]; exact own_nil _ _ _ .i64 B, Below.refl _ _, fun _ a _ e => by cases e⟩
  case round =>
    obtain ⟨k, A1, n1, c1, rfl, h1, hk, hn1, hlow, ho, hbl, hne⟩ := hrel
    have m3 := h1.1.max
    have m4 := h1.1.cap
    rcases Nat.eq_zero_or_pos gk with h0 | h0
    · have hx : x < B ^ k := by
        rcases Nat.lt_or_ge x (B ^ k) with h5 | h5
        · exact h5
        · have := Nat.div_pos h5 (Nat.pow_pos (show 0 < B by omega)); omega
      obtain rfl : n1 = 0 := (h1.zero_iff (by decide)).1 h0
      rw [low_all hx] at ho
      obtain ⟨A3, c3, rfl, h3, hf3⟩ := own_form ho hx
      clear hk h0 ho
      go_wp2_with fail
      go_ret
      exact ⟨_, _, _, rfl, ⟨h3, hlow⟩, hbl, hf3⟩
    · have hBk : B ^ k ≤ x := by
        rcases Nat.lt_or_ge x (B ^ k) with h5 | h5
        · rw [Nat.div_eq_of_lt h5] at hk; omega
        · exact h5
      have hk16 : k < 16 * n := by
        rcases Nat.lt_or_ge k (16 * n) with h5 | h5
        · exact h5
        · have e1 := h.lt
          rw [show 65536 = 2 ^ 16 by decide, ← Nat.pow_mul] at e1
          have e2 : 2 ^ (16 * n) ≤ B ^ (16 * n) := Nat.pow_le_pow_left hB _
          have e3 : B ^ (16 * n) ≤ B ^ k := Nat.pow_le_pow_right (by omega) h5
          omega
      have hn0 : 0 < n1 := by
        rcases Nat.eq_zero_or_pos n1 with h5 | h5
        · have := (h1.zero_iff (by decide)).2 h5; omega
        · exact h5
      have nI : (0 : Int) < (n1 : Int) := by omega
      have H10 := Lib.hid hk
      clear hk
      go_wp2_with fail
      refine (ref2_Half _ _ _ _ B _ h1.1 (by omega) (by omega) (by omega)).mono ?_
      rintro e w2 ⟨A2, n2, c2, rfl, h2, hb2, hf2⟩
      obtain ⟨D, hD⟩ : ∃ D, D = gk % B := ⟨_, rfl⟩
      have hDB : D < B := by rw [hD]; exact Nat.mod_lt _ (by omega)
      have s5 : low B k x + D * B ^ k = low B (k + 1) x := by rw [hD, H10.out]; exact low_next _ _ _
      have S5 := Lib.hid s5
      have ho2 := own_below ho hb2
      have hnz : 0 < n2 → ∀ a, A2 = some a → some a.block ≠ u5.ownBlock := fun _ a ha e => by
        have := hf2 a ha
        have := (ho.lt _ e.symm).2
        omega
      have hal := low_bound (b := B) (by omega) k x
      have hbw := nx hbl hb2
      rw [← hD]
      clear hD s5 ho h1 hb2 hbl hne hf2
      go_wp2_with (at_builtin; go_loud (refine wpList_push2 rfl _ _ 31 rfl w.heap.size _ 3 i0 (.int .i64 0) 8 Try.underlying31 hi hz0 hz1 hz2 rfl .i64 B _ k (low B k x) rfl ho2 hbw.size _ rfl D rfl hDB hal rfl (by unfold maxLen; omega) (by omega) ?_))
      intro v' w5 ho5 hg5 hob
      rw [S5.out] at ho5
      have k2 := h2.grown hg5 hnz
      have hb' := hbw.grown hg5 hbw.size (fun k hk => (ho2.lt k hk).1)
      have hnz' : 0 < n2 → ∀ a, A2 = some a → some a.block ≠ v'.ownBlock := by
        intro h0 a ha e
        rcases hob with e1 | ⟨q, e1, h3⟩
        · exact hnz h0 a ha (e.trans e1)
        · obtain ⟨g9, o9, e9, hg9, _⟩ := h2.1.at_ h0
          rw [e1] at e
          rw [e9] at ha
          cases ha
          have := Option.some.inj e
          dsimp only at this
          omega
      have hn2 := h2.le_of (by decide) n (Nat.lt_of_le_of_lt (by rw [H10.out]; exact Nat.le_trans (Nat.div_le_self _ _) (Nat.div_le_self _ _)) h.lt)
      clear hob hg5 ho2 hnz hbw h2
      go_wp2_with fail
      go_roundg (gk / B)
      case measure => exact Nat.div_lt_self h0 hB
      case rel => exact ⟨k + 1, A2, n2, c2, rfl, k2, by rw [H10.out, Nat.div_div_eq_div_mul, Nat.pow_succ], hn2, fun _ => hBk, ho5, hb', hnz'⟩
set_option maxHeartbeats 4000000 in
theorem ref6_Text (A : Option Addr) (n c x : Nat) (w : World) (h : NumAt .i64 65536 w A n c x) (hn : n ≤ 1000000) :
    Calls Try.prog 18 #[.slice A n c] w (RetStr w (tx x)) := by
  obtain ⟨i0, hi, hz0, hz1, hz2⟩ := info_parts info_u8
  have m1 := h.1.max
  have m2 := h.1.cap
  have h16 := h.lt
  go_enter Try.func18, Try.ntmps18
  go_wp2_with fail
  refine (ref6_back A n c x 10 w h (by decide) (by decide) hn).mono ?_
  rintro e w1 ⟨A1, N, c1, rfl, h1, hb1, hf1⟩
  have hN16 : N ≤ 16 * n := by
    refine h1.le_of (by decide) _ (Nat.lt_of_lt_of_le h16 ?_)
    rw [Nat.pow_mul]
    exact Nat.pow_le_pow_left (by decide) n
  have m3 := h1.1.max
  have m4 := h1.1.cap
  have HN := Lib.hid (numAt_isLen h1)
  clear h16 m1 m2
  go_wp2_with fail
  go_loopw [4, 5] (fun t4 t5 wr => ∃ m : Nat, m ≤ N ∧ t5 = .int .i64 ((N : Int) - 1 - (m : Int)) ∧ wr.ownsRow w1.heap.size 5 1 t4 m (dl .u8 256 m (asc 256 10 48 m (rv 10 N x))) ∧ Below w1.heap.size w1 wr) (fun _ t _ => (intOf t + 1).toNat)
  case atStart => exact ⟨0, Nat.zero_le _, by simp, by skip; exact own_nil _ _ _ .u8 256, Below.refl _ _⟩
  case round =>
    obtain ⟨m, hm, rfl, ho, hbl⟩ := hrel
    by_cases hlt : m < N
    · obtain ⟨g, o, rfl, hg, hc⟩ := (h1.to hbl).1.at_ (by omega)
      obtain ⟨q, hq⟩ : ∃ q, q = N - 1 - m := ⟨_, rfl⟩
      have qI : (N : Int) - 1 - (m : Int) = (q : Int) := by omega
      have hcq := hc q (by omega)
      obtain ⟨D, hD⟩ : ∃ D, D = dg 10 q x := ⟨_, rfl⟩
      have hD10 : D < 10 := by rw [hD]; exact dg_lt (by decide) _ _
      have s5 : asc 256 10 48 m (rv 10 N x) + (48 + D) * 256 ^ m = asc 256 10 48 (m + 1) (rv 10 N x) := by rw [hD, hq, ← dg_rv (by decide) hlt]; rfl
      have hal := asc_lt (B := 256) (b := 10) (a := 48) (by decide) (by decide) m (rv 10 N x)
      have S5 := Lib.hid s5
      have q1 : (q : Int) < (N : Int) := by omega
      have u1 : IntKind.u8.wrap (48 + (D : Int)) = 48 + (D : Int) := IntWalk.u8_in _ (by omega)
      have HQ := Lib.hid hq
      rw [← hD] at hcq
      rw [qI]
      clear hc hD hq s5 qI
      go_wp2_with (at_builtin; go_loud (refine wpList_push2 rfl _ _ 80 rfl w1.heap.size _ 5 i0 (.int .u8 0) 1 Try.underlying80 hi hz0 hz1 hz2 rfl .u8 256 _ m (asc 256 10 48 m (rv 10 N x)) rfl ho hbl.size _ rfl (48 + D) (by push_cast; rfl) (by omega) hal rfl (by unfold maxLen; omega) (by omega) ?_))
      intro v' w5 ho5 hg5 hob
      rw [S5.out] at ho5
      have hb' := hbl.grown hg5 hbl.size (fun k hk => (ho.lt k hk).1)
      clear hob hg5 ho hbl
      go_wp2_with fail
      go_roundw
      case rel => exact ⟨m + 1, by omega, by rw [show (q : Int) - 1 = (N : Int) - 1 - ((m + 1 : Nat) : Int) by have := HQ.out; omega], ho5, hb'⟩
      case measure => simp [intOf]
    · obtain rfl : m = N := by omega
      rw [show (m : Int) - 1 - (m : Int) = -1 by omega]
      have hal := asc_lt (B := 256) (b := 10) (a := 48) (by decide) (by decide) m (rv 10 m x)
      obtain ⟨A3, c3, rfl, h3, hf3⟩ := own_form ho hal
      rw [dl_txt (Nat.le_refl _)] at ho
      have hbz := nx hb1 hbl
      have hx0 := h1.zero_iff (by decide)
      rcases Nat.eq_zero_or_pos m with h0 | h0
      · subst h0
        have HT := Lib.hid (tx_zero (hx0.2 rfl))
        clear ho hx0 h3
        go_wp2_with fail
        go_ret
        exact ⟨by rw [HT.out]; rfl, hbz⟩
      · have ht := tx_pos (x := x) (by have := hx0.1; omega)
        rw [isLen_unique (by decide) (tlen_is (b := 10) (by decide) x) HN.out] at ht
        have HT := Lib.hid ht
        clear ht
        have hcv := conv_own ho Try.underlying80 Try.underlying5 Try.underlying9
        rw [txtTo_all] at hcv
        have z1 : (((m : Nat) : Int) == 0) = false := by simp; omega
        clear hx0 ho
        go_wp2_with fail
        go_ret
        exact ⟨by rw [HT.out]; rfl, hbz⟩
end Go.Proofs.Ytihbpkljjmpkjaa
