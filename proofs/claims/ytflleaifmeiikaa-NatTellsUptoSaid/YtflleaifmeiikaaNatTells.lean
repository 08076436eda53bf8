/- The walk of 'NatTells': what is handed in stays, what is handed out is new. -/
import Derived.Test.YtflleaifmeiikaaKG
import Derived.Test.YtflleaifmeiikaaKB
import Derived.Test.YtflleaifmeiikaaKC
namespace Go.Proofs.Ytflleaifmeiikaa
open Go.RowKit
set_option linter.unusedVariables false
set_option linter.unusedSimpArgs false
set_option maxRecDepth 100000
/-- an own row whose first i places are spoilt -/
def Spoilt (w : World) (g n i x : Nat) : Prop := ∃ cur, w.heap[g]? = some (.cells cur 30 (0, 0)) ∧ ∀ j, i ≤ j → j < n → cur[j]? = some (.int .u64 (dg W j x : Nat))
theorem Spoilt.lt {w : World} {g n i x : Nat} (h : Spoilt w g n i x) : g < w.heap.size := by
  obtain ⟨cur, hg, _⟩ := h
  exact (Array.getElem?_eq_some_iff.1 hg).1
theorem Spoilt.to {w w' : World} {g n i x : Nat} (h : Spoilt w g n i x) (hb : Below w.heap.size w w') : Spoilt w' g n i x := by
  have hl := h.lt
  obtain ⟨cur, hg, hc⟩ := h
  exact ⟨cur, (hb.block g hl).trans hg, hc⟩
theorem Spoilt.cell {w : World} {g n i x : Nat} (h : Spoilt w g n i x) (j : Nat) (h1 : i ≤ j) (h2 : j < n) : w.cell? ⟨g, j, none⟩ = some (.int .u64 (dg W j x : Nat)) := by
  obtain ⟨cur, hg, hc⟩ := h
  rw [cell_of_row w g j cur _ _ hg]
  exact hc j h1 h2
theorem Spoilt.free {w : World} {g n i x : Nat} (h : Spoilt w g n i x) (j : Nat) : w.frozen? ⟨g, j, none⟩ = false := by
  obtain ⟨cur, hg, hc⟩ := h
  simp [World.frozen?, hg]
theorem Spoilt.put {w : World} {g n i x : Nat} (h : Spoilt w g n i x) (v : Value) : Spoilt (w.setCell ⟨g, i, none⟩ v) g n (i + 1) x := by
  obtain ⟨cur, hg, hc⟩ := h
  refine ⟨_, heap_setCell_same w g i cur _ v hg, fun j h1 h2 => ?_⟩
  rw [Array.getElem?_setIfInBounds_ne (by omega)]
  exact hc j (by omega) h2
theorem Spoilt.of_own {w : World} {base g c n x : Nat} (h : w.ownsRow base 30 1 (.slice (some ⟨g, 0, none⟩) n c) n (dl .u64 W n x)) : Spoilt w g n 0 x := by
  have hc := fun j (hj : j < n) => (show w.cell? ⟨g, j, none⟩ = some (.int .u64 (dg W j x : Nat)) by rw [h.cellAt j (by omega)]; exact dl_get _ _ _ _ _ hj)
  rcases h.2 with ⟨h1, _⟩ | ⟨g', cap, cur, h1, _, hg, _⟩
  · cases h1
  · cases h1
    refine ⟨cur, hg, fun j _ hj => ?_⟩
    have := hc j hj
    rw [cell_of_row w g j cur _ _ hg] at this
    exact this
def wordAt (x : Nat) (k : Int) : Nat := if 0 ≤ k then dg W k.toNat x else 0
def bitAt (x : Nat) (k : Int) : Nat := if 0 ≤ k then x / 2 ^ k.toNat % 2 else 0
theorem bitAt_le (x : Nat) (k : Int) : bitAt x k ≤ 1 := by unfold bitAt; split <;> omega
theorem nat_Word_any (A : Option Addr) (n c x : Nat) (k : Int) (w : World) (h : NatAt w A n c x) (hk : k ≤ 9223372036854775807) :
    Calls Try.prog 20 #[.agg #[.slice A n c], .int .i64 k] w (Ret w (.int .u64 (wordAt x k : Nat))) := by
  unfold wordAt
  by_cases h0 : 0 ≤ k
  · obtain ⟨j, rfl⟩ := Int.eq_ofNat_of_zero_le h0
    rw [if_pos h0, Int.toNat_natCast]
    exact nat_Word A n c x j w h (by omega)
  · rw [if_neg h0]
    exact nat_Word_neg A n c k w (by omega)
theorem nat_Bit_any (A : Option Addr) (n c x : Nat) (k : Int) (w : World) (h : NatAt w A n c x) (hk : k ≤ 9223372036854775807) :
    Calls Try.prog 24 #[.agg #[.slice A n c], .int .i64 k] w (Ret w (.int .u64 (bitAt x k : Nat))) := by
  unfold bitAt
  by_cases h0 : 0 ≤ k
  · obtain ⟨j, rfl⟩ := Int.eq_ofNat_of_zero_le h0
    rw [if_pos h0, Int.toNat_natCast]
    exact nat_Bit A n c x j w h (by omega)
  · rw [if_neg h0]
    exact nat_Bit_neg A n c k w (by omega)
theorem ref2_Bit_any (A : Option Addr) (n c x : Nat) (k : Int) (w : World) (h : Dig .i64 65536 w A n c x) (hk : k ≤ 9223372036854775807) :
    Calls Try.prog 22 #[.slice A n c, .int .i64 k] w fun e w' => e = .returned (.int .i64 (bitAt x k : Nat)) ∧ w = w' := by
  unfold bitAt
  by_cases h0 : 0 ≤ k
  · obtain ⟨j, rfl⟩ := Int.eq_ofNat_of_zero_le h0
    rw [if_pos h0, Int.toNat_natCast]
    exact ref2_Bit A n c x j w h (by omega)
  · rw [if_neg h0]
    exact ref2_Bit_neg A n c k w (by omega)
theorem words_len {x nn nr : Nat} (h1 : x < W ^ nn) (h2 : 0 < nn → W ^ (nn - 1) ≤ x) (h3 : x < 65536 ^ nr) (h4 : 0 < nr → 65536 ^ (nr - 1) ≤ x) : (nr + 3) / 4 = nn := by
  have hW : ∀ k, W ^ k = 65536 ^ (4 * k) := fun k => by rw [Nat.pow_mul]; rfl
  rw [hW] at h1
  rcases Nat.eq_zero_or_pos nn with h0 | h0
  · subst h0
    rcases Nat.eq_zero_or_pos nr with e | e
    · subst e; rfl
    · have := pow_lt_inv' (show 0 < 65536 by decide) (h4 e) h1
      omega
  · have a1 := h2 h0
    rw [hW] at a1
    have a2 := pow_lt_inv' (show 0 < 65536 by decide) a1 h3
    have a3 := pow_lt_inv' (show 0 < 65536 by decide) (h4 (by omega)) h1
    omega
theorem twos_same_le {x t t' : Nat} (h : TwosOf x t) (h' : TwosOf x t') : t' ≤ t := by
  rcases h with ⟨hx, ht⟩ | ⟨hx, h1, h2⟩
  · rcases h' with ⟨_, ht'⟩ | ⟨hx', _⟩
    · omega
    · exact absurd hx hx'
  · rcases h' with ⟨hx', _⟩ | ⟨_, h3, _⟩
    · exact absurd hx' hx
    · rcases Nat.lt_or_ge t t' with hlt | hge
      · exfalso
        have hd : 2 ^ (t + 1) ∣ x := Nat.dvd_trans (Nat.pow_dvd_pow 2 hlt) (Nat.dvd_of_mod_eq_zero h3)
        obtain ⟨q, hq⟩ := hd
        rw [hq, Nat.pow_succ, Nat.mul_assoc, Nat.mul_div_cancel_left _ (Nat.pow_pos (by decide))] at h2
        omega
      · exact hge
theorem twos_same {x t t' : Nat} (h : TwosOf x t) (h' : TwosOf x t') : t = t' := Nat.le_antisymm (twos_same_le h' h) (twos_same_le h h')
theorem twos_step {x t : Nat} (h : x % 2 ^ t = 0) (h0 : x / 2 ^ t % 2 = 0) : x % 2 ^ (t + 1) = 0 := by
  obtain ⟨q, hq⟩ := Nat.dvd_of_mod_eq_zero h
  rw [hq, Nat.mul_div_cancel_left _ (Nat.pow_pos (by decide))] at h0
  rw [hq, Nat.pow_succ]
  obtain ⟨r, hr⟩ := Nat.dvd_of_mod_eq_zero h0
  rw [hr, ← Nat.mul_assoc]
  exact Nat.mul_mod_right _ _
theorem twos_top {x : Nat} (h : x % 2 ^ blen x = 0) : TwosOf x (blen x) := by
  rw [Nat.mod_eq_of_lt (blen_lt x)] at h
  subst h
  exact Or.inl ⟨rfl, rfl⟩
theorem twos_bit {x t : Nat} (h : x % 2 ^ t = 0) (h1 : ¬ x / 2 ^ t % 2 = 0) : TwosOf x t := by
  refine Or.inr ⟨fun e => ?_, h, by omega⟩
  subst e
  rw [Nat.zero_div] at h1
  exact h1 rfl
set_option maxHeartbeats 1000000 in
theorem nat_Of_own2 (A : Option Addr) (n c x : Nat) (w : World) (h : Dig .u64 W w A n c x) (hn : n ≤ 17592186044416) :
    Calls Try.prog 13 #[.slice A n c] w fun e w' => ∃ A m c, e = .returned (.agg #[.slice A m c]) ∧ NatAt w' A m c x ∧ Below w.heap.size w w' ∧ m ≤ n ∧ Fresh w.heap.size A := by
  have B0 := Blk1.new w 25 (.slice none 0 0)
  go_enter Try.func13, Try.ntmps13
  go_wp2_with fail
  refine (clone A n c x _ (h.alloc _) hn).mono ?_
  intro e w1 hr
  obtain ⟨A1, c1, rfl, hd1, hb1, hf1⟩ := hr.dig h.lt
  clear hr
  go_wp2_with fail
  refine (nat_trim A1 n c1 x _ hd1).mono ?_
  rintro e w2 ⟨m, rfl, hd2, hb2, hm⟩
  have hb3 := nx (nx (nxa (Below.refl w.heap.size w) (.cells #[.slice none 0 0] 25)) hb1) hb2
  have B2 := (B0.to hb1).to hb2
  have c0 := B2.cell
  have f0 := B2.free
  go_wp2_with fail
  exact bodyPost_ret (v := .agg #[.slice A1 m c1]) (by simp [results, Try.results13, go_sem, c0]) rfl ⟨A1, m, c1, rfl, hd2.put_ c0 _, hb3.setCell (Nat.le_refl _) _, hm, hf1.mono (by simp)⟩
set_option maxHeartbeats 8000000 in
theorem law_NatTells (A n c x) (k : Int) (w : World) (k1 : Dig .u64 W w A n c x) (r1 : n ≤ 1048576) (hk0 : -9223372036854775808 ≤ k) (hk1 : k ≤ 9223372036854775807) :
    Calls Try.prog 3 #[.slice A n c, .int .i64 k] w (Ret w (.bool true)) := by
  obtain ⟨i0, hi, hz0, hz1, hz2⟩ := info_parts info_u64
  go_enter Try.func3, Try.ntmps3
  go_wp2_with fail
  refine (awake2 _).mono ?_
  rintro e w1 ⟨rfl, hb1⟩
  go_wp2_with (at_builtin; go_loud (refine wpList_append_dig2 _ rfl _ _ 22 22 rfl w1.heap.size 30 30 i0 (.int .u64 0) 8 Try.underlying22 Try.underlying22 hi hz0 hz1 hz2 rfl .u64 W _ 0 0 rfl (own_nil _ _ _ _ _) A n c x rfl (k1.to bW) (by unfold maxLen; omega) (by omega) (Nat.le_refl _) W_pos (by decide) ?_))
  intro v1 w2 ho2 hg2
  have hb2 : Below w1.heap.size w1 w2 := below_of_none hg2
  clear hg2
  obtain ⟨A1, c1, rfl, hd1, hf1⟩ := own_form ho2 k1.lt
  obtain ⟨g, hg⟩ : ∃ g, 0 < n → A1 = some ⟨g, 0, none⟩ ∧ w1.heap.size ≤ g ∧ g < w2.heap.size ∧ Spoilt w2 g n 0 x := by
    rcases Nat.eq_zero_or_pos n with h0 | h0
    · exact ⟨0, fun h => absurd h (by omega)⟩
    · obtain ⟨g, c', hv, hb, hgl, _⟩ := own_lies ho2 h0
      cases hv
      exact ⟨g, fun _ => ⟨rfl, hb, hgl, Spoilt.of_own ho2⟩⟩
  have hc1 := hd1.cap
  have hc2 := hd1.max
  go_wp2_with fail
  refine (nat_Of_own2 _ _ _ _ _ (hd1.to bW) (by omega)).mono ?_
  rintro e w3 ⟨A3, n3, c3, rfl, h3, hb3, m3, hf3⟩
  go_wp2_with fail
  have X6 := Blk1.newAt w3 (w3.heap.size) 25 (.slice A3 n3 c3) (by first | rfl | simp)
  have hbwe : Below w3.heap.size w3 (w3.alloc (.cells #[.slice A3 n3 c3] 25)) := bW
  generalize (w3.alloc (.cells #[.slice A3 n3 c3] 25)) = we at X6 hbwe ⊢
  refine (ref2_Of _ _ _ _ _ (k1.to bW) (by omega)).mono ?_
  rintro e w4 ⟨A4, n4, c4, rfl, h4, hb4, hf4⟩
  have lw : w2.heap.size ≤ we.heap.size := Nat.le_trans hb3.size hbwe.size
  have lw3 : w2.heap.size ≤ w3.heap.size := hb3.size
  obtain ⟨g6, hg6⟩ : ∃ g6, g6 = w3.heap.size := ⟨_, rfl⟩
  rw [← hg6] at X6 ⊢
  have lg6 : w2.heap.size ≤ g6 := by omega
  have lgw : w.heap.size ≤ w1.heap.size := hb1.size
  have WL := words_len h3.1.lt h3.2 h4.lt h4.2
  clear hd1 ho2 hg6
  go_wp2_with fail
  go_loopw [8] (fun t wr => ∃ i, i ≤ n ∧ t = .int .i64 ((i : Nat) : Int) ∧ (0 < n → Spoilt wr g n i x) ∧ Blk1 wr g6 25 (.slice A3 n3 c3) ∧ NatAt wr A3 n3 c3 x ∧ NumAt .i64 65536 wr A4 n4 c4 x ∧ Below w.heap.size w wr) (fun t _ => n - (intOf t).toNat)
  case atStart => exact ⟨0, Nat.zero_le _, rfl, fun h => (hg h).2.2.2.to bW, (show Blk1 w4 _ _ _ from X6.to bW), h3.to bW, h4, bW⟩
  case round =>
    clear X6 h3 h4
    obtain ⟨i, hi', rfl, hS, X6, h3, h4, hbl⟩ := hrel
    by_cases hlt : i < n
    · obtain ⟨hA, hga, hgb, -⟩ := hg (by omega)
      subst hA
      obtain ⟨gw, ow, rfl, hgw, hcw⟩ := (k1.to hbl).at_ (by omega)
      have hS1 := hS (by omega)
      have e1 := hS1.cell i (Nat.le_refl _) hlt
      have e2 := hcw i hlt
      have f1 := hS1.free i
      clear hcw
      have iN : (i : Int) < (n : Int) := by omega
      have iM : i ≤ 9223372036854775807 := by omega
      have hB2 : (((dg W i x : Nat) : Int) != (dg W i x : Nat)) = false := by simp
      go_wp2_with fail
      go_region
      go_wp2_with fail
      go_roundw
      case rel => exact ⟨i + 1, by omega, by go_num, fun _ => hS1.put _, X6.far (by show g6 ≠ g; omega) _, ⟨h3.1.far (fun a ha => by have := hf3 a ha; show a.block ≠ g; omega) _, h3.2⟩, ⟨h4.1.far (fun a ha => by have := hf4 a ha; show a.block ≠ g; omega) _, h4.2⟩, hbl.drew.setCell (p := ⟨g, i, none⟩) (by show w.heap.size ≤ g; omega) _⟩
      case measure => simp [intOf]; omega
    · obtain rfl : i = n := by omega
      clear hS hg
      have CX := X6.cell
      have hnI : ¬ (i : Int) < (i : Int) := by omega
      go_wp2_with fail
      refine (nat_Words _ _ _ _ _ (h3.to bW) (by omega)).mono ?_
      rintro e w6 ⟨A6, c6, rfl, ho6, hb6⟩
      obtain ⟨w5, hw5⟩ : ∃ w5, w5 = wr := ⟨_, rfl⟩
      subst hw5
      clear CX hnI
      obtain ⟨g2, hg2⟩ : ∃ g, 0 < n3 → A6 = some ⟨g, 0, none⟩ ∧ w5.heap.size ≤ g ∧ Spoilt w6 g n3 0 x := by
        rcases Nat.eq_zero_or_pos n3 with h0 | h0
        · exact ⟨0, fun h => absurd h (by omega)⟩
        · obtain ⟨g, c', hv, hb, hgl, _⟩ := own_lies ho6 h0
          cases hv
          exact ⟨g, fun _ => ⟨rfl, hb, Spoilt.of_own ho6⟩⟩
      have hc6 : n3 ≤ c6 ∧ c6 ≤ 9223372036854775807 := by obtain ⟨A', c', hv, hd, _⟩ := own_form ho6 h3.1.lt; cases hv; exact ⟨hd.cap, hd.max⟩
      clear ho6
      go_wp2_with fail
      go_loopw [10] (fun t wr => ∃ i, i ≤ n3 ∧ t = .int .i64 ((i : Nat) : Int) ∧ (0 < n3 → Spoilt wr g2 n3 i x) ∧ Below w5.heap.size w5 wr) (fun t _ => n3 - (intOf t).toNat)
      case atStart => exact ⟨0, Nat.zero_le _, rfl, fun h => (hg2 h).2.2, bW⟩
      case round =>
        obtain ⟨j, hj', rfl, hS, hbk⟩ := hrel
        by_cases hjt : j < n3
        · obtain ⟨hA, hga, -⟩ := hg2 (by omega)
          subst hA
          have hS1 := hS (by omega)
          have e1 := hS1.cell j (Nat.le_refl _) hjt
          have f1 := hS1.free j
          have jN : (j : Int) < (n3 : Int) := by omega
          go_wp2_with fail
          go_roundw
          case rel => exact ⟨j + 1, by omega, by go_num, fun _ => hS1.put _, hbk.setCell (by show w5.heap.size ≤ g2; omega) _⟩
          case measure => simp [intOf]; omega
        · obtain rfl : j = n3 := by omega
          have hnJ : ¬ (j : Int) < (j : Int) := by omega
          clear hS hg2
          replace h3 := (show NatAt wr _ _ _ _ from h3.to bW)
          replace h4 := (show NumAt .i64 65536 wr _ _ _ _ from h4.to bW)
          replace X6 := (show Blk1 wr _ _ _ from X6.to bW)
          have hbl9 : Below w.heap.size w wr := bW
          clear hbk hbl hb6 hb4 hbwe hb3 hb2 hb1
          have CX := X6.cell
          have m4 := h4.1.max
          have q4 : n4 ≤ 4 * j := by omega
          rcases Nat.lt_or_ge 1 j with hj1 | hj1
          · skip
            have j0 : ¬ (j : Int) ≤ 1 := by omega
            have j1 : (1 : Int) < (j : Int) := by omega
            have x0 : x ≠ 0 := fun e => by have := h3.zero_iff.1 e; omega
            have n40 : n4 ≠ 0 := fun e => x0 ((h4.zero_iff (by decide)).2 e)
            have zn : (((n4 : Nat) : Int) == 0) = false := by simp; omega
            have X0 := Lib.hid x0
            clear x0
            have ZN := Lib.hid zn
            clear zn n40
            go_wp2_with fail
            refine (nat_Uint_no _ _ _ _ hj1).mono ?_
            rintro e w7 ⟨rfl, hb7⟩
            go_wp2_with fail
            refine (ref2_Words _ _ _ _ _ (h4.to bW).1 (by omega)).mono ?_
            rw [WL]
            rintro e w8 ⟨A8, c8, rfl, ho8, hb8⟩
            obtain ⟨A8', c8', hv8, hd8, hf8⟩ := own_form ho8 h3.1.lt
            cases hv8
            have hc8 := hd8.cap
            have hc8' := hd8.max
            clear ho8 hf8
            go_upto_region 21 with fail
            go_cut [68] (fun b wc => b = .bool (decide (0 ≤ k ∧ k < ((j : Nat) : Int))) ∧ wc = w8)
            case first =>
              by_cases p0 : 0 ≤ k
              · have p0' : ¬ k < 0 := by omega
                by_cases p1 : k < ((j : Nat) : Int)
                · skip
                  go_wp2_with fail
                  go_meet
                  exact ⟨by rw [decide_eq_true (show 0 ≤ k ∧ k < ((j : Nat) : Int) from by omega)], rfl⟩
                · skip
                  go_wp2_with fail
                  go_meet
                  exact ⟨by rw [decide_eq_false (show ¬ (0 ≤ k ∧ k < ((j : Nat) : Int)) from by omega)], rfl⟩
              · skip
                go_wp2_with fail
                go_meet
                exact ⟨by rw [decide_eq_false (show ¬ (0 ≤ k ∧ k < ((j : Nat) : Int)) from by omega)], rfl⟩
            case rest =>
              obtain ⟨rfl, rfl⟩ := hcut
              obtain ⟨wq, hwq⟩ : ∃ wq, wq = wc := ⟨_, rfl⟩
              subst hwq
              go_upto_if 68 with fail
              go_cut [14] (fun z wc' => z = .int .u64 (wordAt x k : Nat) ∧ Below wq.heap.size wq wc')
              case first =>
                by_cases hp : 0 ≤ k ∧ k < ((j : Nat) : Int)
                · rw [decide_eq_true hp]
                  obtain ⟨p0, p1⟩ := hp
                  obtain ⟨q, rfl⟩ := Int.eq_ofNat_of_zero_le p0
                  have hq : q < j := by omega
                  obtain ⟨g8, o8, rfl, hg8, hc9⟩ := hd8.at_ (by omega)
                  have e8 := hc9 q hq
                  clear hc9
                  have WA := Lib.hid (show wordAt x (q : Int) = dg W q x by unfold wordAt; rw [if_pos p0, Int.toNat_natCast])
                  go_wp2_with fail
                  go_meet
                  exact ⟨by rw [WA.out], Below.refl _ _⟩
                · rw [decide_eq_false hp]
                  have WA := Lib.hid (show wordAt x k = 0 by unfold wordAt; split; (rename_i p0; exact dg_of_lt (Nat.lt_of_lt_of_le h3.lt (Nat.pow_le_pow_right W_pos (by omega)))); rfl)
                  go_wp2_with fail
                  go_meet
                  exact ⟨by rw [WA.out]; rfl, Below.refl _ _⟩
              case rest =>
                obtain ⟨rfl, hbc⟩ := hcut
                skip
                have C9 := (show Blk1 wc _ _ _ from X6.to bW).cell
                clear CX
                have zn := ZN.out
                go_wp2_with fail
                refine (law_Like _ _ _ _ _ _ _ _ (h3.to bW) (h4.to bW) (by omega) (by omega)).mono ?_
                rintro e w10 ⟨rfl, hb10⟩
                have C10 := (show Blk1 w10 _ _ _ from X6.to bW).cell
                go_wp2_with fail
                refine (nat_Zero _ _ _ _ _ (h3.to bW)).mono ?_
                rw [decide_eq_false X0.out]
                rintro e w11 ⟨rfl, hb11⟩
                have C11 := (show Blk1 w11 _ _ _ from X6.to bW).cell
                go_wp2_with fail
                refine (nat_Word_any _ _ _ x k _ (h3.to bW) hk1).mono ?_
                rintro e w12 ⟨rfl, hb12⟩
                have C12 := (show Blk1 w12 _ _ _ from X6.to bW).cell
                clear zn C9 C10 C11
                have hBW : (((wordAt x k : Nat) : Int) != (wordAt x k : Nat)) = false := by simp
                go_wp2_with fail
                go_loopw [15] (fun t wr => ∃ tt, tt ≤ blen x ∧ t = .int .i64 ((tt : Nat) : Int) ∧ x % 2 ^ tt = 0 ∧ wr = w12) (fun t _ => blen x - (intOf t).toNat)
                case atStart => exact ⟨0, Nat.zero_le _, rfl, by rw [Nat.pow_zero, Nat.mod_one], rfl⟩
                case round =>
                  obtain ⟨tt, htt, rfl, hmod, hwr⟩ := hrel
                  obtain rfl : w12 = wr := hwr.symm
                  have bl : blen x ≤ 64 * j := by have := blen_le_of_lt (k := 64 * j) (x := x) (by rw [Nat.pow_mul]; exact h3.lt); omega
                  go_upto_region 28 with fail
                  go_cut [134] (fun b wc' => b = .bool (decide (tt < blen x ∧ x / 2 ^ tt % 2 = 0)) ∧ wc' = w12)
                  case first =>
                    go_wp2_with fail
                    refine (ref2_Bits _ _ _ _ _ (h4.to bW) (by omega)).mono ?_
                    rintro e w13 ⟨rfl, rfl⟩
                    by_cases t1 : tt < blen x
                    · have t1' : (tt : Int) < (blen x : Nat) := by omega
                      go_wp2_with fail
                      obtain ⟨bt, hbt⟩ : ∃ bt, bt = x / 2 ^ tt % 2 := ⟨_, rfl⟩
                      have HBT := Lib.hid hbt
                      have tL : tt ≤ 9223372036854775807 := by omega
                      clear hbt
                      refine (ref2_Bit _ _ _ x tt _ (h4.to bW).1 tL).mono ?_
                      rw [← HBT.out]
                      rintro e w14 ⟨rfl, rfl⟩
                      by_cases t2 : bt = 0
                      · have t2' : (((bt : Nat) : Int) == 0) = true := by rw [t2]; rfl
                        have HT := Lib.hid (show tt < blen x ∧ x / 2 ^ tt % 2 = 0 from ⟨t1, by rw [← HBT.out]; exact t2⟩)
                        clear t2
                        go_wp2_with fail
                        go_meet
                        exact ⟨by rw [decide_eq_true HT.out], rfl⟩
                      · have t2' : (((bt : Nat) : Int) == 0) = false := by simp; omega
                        have HT := Lib.hid (show ¬ (tt < blen x ∧ x / 2 ^ tt % 2 = 0) from fun h => t2 (by rw [HBT.out]; exact h.2))
                        clear t2
                        go_wp2_with fail
                        go_meet
                        exact ⟨by rw [decide_eq_false HT.out], rfl⟩
                    · have t1' : ¬ (tt : Int) < (blen x : Nat) := by omega
                      go_wp2_with fail
                      go_meet
                      exact ⟨by rw [decide_eq_false (show ¬ (tt < blen x ∧ x / 2 ^ tt % 2 = 0) from fun h => t1 h.1)], rfl⟩
                  case rest =>
                    obtain ⟨rfl, rfl⟩ := hcut
                    by_cases ht : tt < blen x ∧ x / 2 ^ tt % 2 = 0
                    · rw [decide_eq_true ht]
                      have HM := Lib.hid (twos_step hmod ht.2)
                      have ht1 := ht.1
                      clear ht hmod
                      go_wp2_with fail
                      go_roundw
                      case rel => exact ⟨tt + 1, by omega, by go_num, HM.out, by first | rfl | trivial⟩
                      case measure => simp [intOf]; omega
                    · rw [decide_eq_false ht]
                      have TW := Lib.hid (show TwosOf x tt by rcases Nat.lt_or_eq_of_le htt with h1 | h1; exact twos_bit hmod (fun e => ht ⟨h1, e⟩); (subst h1; exact twos_top hmod))
                      clear ht hmod
                      go_wp2_with fail
                      refine (nat_Bits _ _ _ _ _ (h3.to bW) (by omega)).mono ?_
                      rintro e w15 ⟨rfl, hb15⟩
                      have C15 := (show Blk1 w15 _ _ _ from X6.to bW).cell
                      go_wp2_with fail
                      refine (ref2_Bits _ _ _ _ _ (h4.to bW) (by omega)).mono ?_
                      rintro e w16 ⟨rfl, rfl⟩
                      go_wp2_with fail
                      refine (nat_Bit_any _ _ _ x k _ (h3.to bW) hk1).mono ?_
                      rintro e w17 ⟨rfl, hb17⟩
                      have C17 := (show Blk1 w17 _ _ _ from X6.to bW).cell
                      obtain ⟨bb, hbb⟩ : ∃ bb, bb = bitAt x k := ⟨_, rfl⟩
                      have bb1 : bb ≤ 1 := by rw [hbb]; exact bitAt_le x k
                      have HBB := Lib.hid hbb
                      rw [← hbb]
                      clear hbb
                      go_wp2_with fail
                      refine (ref2_Bit_any _ _ _ x k _ (h4.to bW).1 hk1).mono ?_
                      rw [← HBB.out]
                      rintro e w18 ⟨rfl, rfl⟩
                      go_wp2_with fail
                      refine (nat_Twos _ _ _ _ _ (h3.to bW) (by omega)).mono ?_
                      rintro e w19 ⟨t', ⟨rfl, hb19⟩, ht'⟩
                      obtain rfl := twos_same TW.out ht'
                      go_wp2_with fail
                      go_ret
                      exact ⟨rfl, bW⟩
          · rcases Nat.lt_or_eq_of_le hj1 with hj2 | rfl
            rotate_left
            · skip
              have x0 : x ≠ 0 := fun e => by have := h3.zero_iff.1 e; omega
              have xw : x < W := by have := h3.lt; rwa [Nat.pow_one] at this
              have d0 : dg W 0 x = x := by unfold dg; rw [Nat.pow_zero, Nat.div_one]; exact Nat.mod_eq_of_lt xw
              have n40 : n4 ≠ 0 := fun e => x0 ((h4.zero_iff (by decide)).2 e)
              have zn : (((n4 : Nat) : Int) == 0) = false := by simp; omega
              have X0 := Lib.hid x0
              clear x0
              have ZN := Lib.hid zn
              clear zn n40
              go_wp2_with fail
              refine (nat_Uint_yes _ _ _ x _ (h3.to bW) (by omega)).mono ?_
              rintro e w7 ⟨rfl, hb7⟩
              go_wp2_with fail
              refine (ref2_Words _ _ _ _ _ (h4.to bW).1 (by omega)).mono ?_
              rw [WL]
              rintro e w8 ⟨A8, c8, rfl, ho8, hb8⟩
              obtain ⟨A8', c8', hv8, hd8, hf8⟩ := own_form ho8 h3.1.lt
              cases hv8
              have hc8 := hd8.cap
              have hc8' := hd8.max
              clear ho8 hf8
              go_upto_region 21 with fail
              go_cut [68] (fun b wc => b = .bool (decide (0 ≤ k ∧ k < ((1 : Nat) : Int))) ∧ wc = w8)
              case first =>
                by_cases p0 : 0 ≤ k
                · have p0' : ¬ k < 0 := by omega
                  by_cases p1 : k < ((1 : Nat) : Int)
                  · skip
                    have p1' : k < 1 := by omega
                    go_wp2_with fail
                    go_meet
                    exact ⟨by rw [decide_eq_true (show 0 ≤ k ∧ k < ((1 : Nat) : Int) from by omega)], rfl⟩
                  · skip
                    have p1' : ¬ k < 1 := by omega
                    go_wp2_with fail
                    go_meet
                    exact ⟨by rw [decide_eq_false (show ¬ (0 ≤ k ∧ k < ((1 : Nat) : Int)) from by omega)], rfl⟩
                · skip
                  go_wp2_with fail
                  go_meet
                  exact ⟨by rw [decide_eq_false (show ¬ (0 ≤ k ∧ k < ((1 : Nat) : Int)) from by omega)], rfl⟩
              case rest =>
                obtain ⟨rfl, rfl⟩ := hcut
                obtain ⟨wq, hwq⟩ : ∃ wq, wq = wc := ⟨_, rfl⟩
                subst hwq
                go_upto_if 68 with fail
                go_cut [14] (fun z wc' => z = .int .u64 (wordAt x k : Nat) ∧ Below wq.heap.size wq wc')
                case first =>
                  by_cases hp : 0 ≤ k ∧ k < ((1 : Nat) : Int)
                  · rw [decide_eq_true hp]
                    obtain ⟨p0, p1⟩ := hp
                    obtain ⟨q, rfl⟩ := Int.eq_ofNat_of_zero_le p0
                    have hq : q < 1 := by omega
                    obtain ⟨g8, o8, rfl, hg8, hc9⟩ := hd8.at_ (by omega)
                    have e8 := hc9 q hq
                    clear hc9
                    have WA := Lib.hid (show wordAt x (q : Int) = dg W q x by unfold wordAt; rw [if_pos p0, Int.toNat_natCast])
                    go_wp2_with fail
                    go_meet
                    exact ⟨by rw [WA.out], Below.refl _ _⟩
                  · rw [decide_eq_false hp]
                    have WA := Lib.hid (show wordAt x k = 0 by unfold wordAt; split; (rename_i p0; exact dg_of_lt (Nat.lt_of_lt_of_le h3.lt (Nat.pow_le_pow_right W_pos (by omega)))); rfl)
                    go_wp2_with fail
                    go_meet
                    exact ⟨by rw [WA.out]; rfl, Below.refl _ _⟩
                case rest =>
                  obtain ⟨rfl, hbc⟩ := hcut
                  skip
                  have C9 := (show Blk1 wc _ _ _ from X6.to bW).cell
                  clear CX
                  have zn := ZN.out
                  go_wp2_with fail
                  refine (law_Like _ _ _ _ _ _ _ _ (h3.to bW) (h4.to bW) (by omega) (by omega)).mono ?_
                  rintro e w10 ⟨rfl, hb10⟩
                  have C10 := (show Blk1 w10 _ _ _ from X6.to bW).cell
                  go_wp2_with fail
                  refine (nat_Zero _ _ _ _ _ (h3.to bW)).mono ?_
                  rw [decide_eq_false X0.out]
                  rintro e w11 ⟨rfl, hb11⟩
                  have C11 := (show Blk1 w11 _ _ _ from X6.to bW).cell
                  go_wp2_with fail
                  refine (nat_Word_any _ _ _ x k _ (h3.to bW) hk1).mono ?_
                  rintro e w12 ⟨rfl, hb12⟩
                  have C12 := (show Blk1 w12 _ _ _ from X6.to bW).cell
                  clear zn C9 C10 C11
                  have hBW : (((wordAt x k : Nat) : Int) != (wordAt x k : Nat)) = false := by simp
                  obtain ⟨g8, o8, rfl, hg8, hc9⟩ := hd8.at_ (by omega)
                  have e8 := (show w12.cell? ⟨g8, o8 + 0, none⟩ = some (.int .u64 (dg W 0 x : Nat)) from ((show Below wq.heap.size wq w12 from bW).cell (p := ⟨g8, o8 + 0, none⟩) hg8).trans (hc9 0 (by omega)))
                  rw [d0, Nat.add_zero] at e8
                  clear hc9 d0
                  have hBX : (((x : Nat) : Int) != (x : Nat)) = false := by simp
                  go_wp2_with fail
                  go_loopw [15] (fun t wr => ∃ tt, tt ≤ blen x ∧ t = .int .i64 ((tt : Nat) : Int) ∧ x % 2 ^ tt = 0 ∧ wr = w12) (fun t _ => blen x - (intOf t).toNat)
                  case atStart => exact ⟨0, Nat.zero_le _, rfl, by rw [Nat.pow_zero, Nat.mod_one], rfl⟩
                  case round =>
                    obtain ⟨tt, htt, rfl, hmod, hwr⟩ := hrel
                    obtain rfl : w12 = wr := hwr.symm
                    have bl : blen x ≤ 64 := by have := blen_le_of_lt (k := 64 * 1) (x := x) (by rw [Nat.pow_mul]; exact h3.lt); omega
                    go_upto_region 28 with fail
                    go_cut [134] (fun b wc' => b = .bool (decide (tt < blen x ∧ x / 2 ^ tt % 2 = 0)) ∧ wc' = w12)
                    case first =>
                      go_wp2_with fail
                      refine (ref2_Bits _ _ _ _ _ (h4.to bW) (by omega)).mono ?_
                      rintro e w13 ⟨rfl, rfl⟩
                      by_cases t1 : tt < blen x
                      · have t1' : (tt : Int) < (blen x : Nat) := by omega
                        go_wp2_with fail
                        obtain ⟨bt, hbt⟩ : ∃ bt, bt = x / 2 ^ tt % 2 := ⟨_, rfl⟩
                        have HBT := Lib.hid hbt
                        have tL : tt ≤ 9223372036854775807 := by omega
                        clear hbt
                        refine (ref2_Bit _ _ _ x tt _ (h4.to bW).1 tL).mono ?_
                        rw [← HBT.out]
                        rintro e w14 ⟨rfl, rfl⟩
                        by_cases t2 : bt = 0
                        · have t2' : (((bt : Nat) : Int) == 0) = true := by rw [t2]; rfl
                          have HT := Lib.hid (show tt < blen x ∧ x / 2 ^ tt % 2 = 0 from ⟨t1, by rw [← HBT.out]; exact t2⟩)
                          clear t2
                          go_wp2_with fail
                          go_meet
                          exact ⟨by rw [decide_eq_true HT.out], rfl⟩
                        · have t2' : (((bt : Nat) : Int) == 0) = false := by simp; omega
                          have HT := Lib.hid (show ¬ (tt < blen x ∧ x / 2 ^ tt % 2 = 0) from fun h => t2 (by rw [HBT.out]; exact h.2))
                          clear t2
                          go_wp2_with fail
                          go_meet
                          exact ⟨by rw [decide_eq_false HT.out], rfl⟩
                      · have t1' : ¬ (tt : Int) < (blen x : Nat) := by omega
                        go_wp2_with fail
                        go_meet
                        exact ⟨by rw [decide_eq_false (show ¬ (tt < blen x ∧ x / 2 ^ tt % 2 = 0) from fun h => t1 h.1)], rfl⟩
                    case rest =>
                      obtain ⟨rfl, rfl⟩ := hcut
                      by_cases ht : tt < blen x ∧ x / 2 ^ tt % 2 = 0
                      · rw [decide_eq_true ht]
                        have HM := Lib.hid (twos_step hmod ht.2)
                        have ht1 := ht.1
                        clear ht hmod
                        go_wp2_with fail
                        go_roundw
                        case rel => exact ⟨tt + 1, by omega, by go_num, HM.out, by first | rfl | trivial⟩
                        case measure => simp [intOf]; omega
                      · rw [decide_eq_false ht]
                        have TW := Lib.hid (show TwosOf x tt by rcases Nat.lt_or_eq_of_le htt with h1 | h1; exact twos_bit hmod (fun e => ht ⟨h1, e⟩); (subst h1; exact twos_top hmod))
                        clear ht hmod
                        go_wp2_with fail
                        refine (nat_Bits _ _ _ _ _ (h3.to bW) (by omega)).mono ?_
                        rintro e w15 ⟨rfl, hb15⟩
                        have C15 := (show Blk1 w15 _ _ _ from X6.to bW).cell
                        go_wp2_with fail
                        refine (ref2_Bits _ _ _ _ _ (h4.to bW) (by omega)).mono ?_
                        rintro e w16 ⟨rfl, rfl⟩
                        go_wp2_with fail
                        refine (nat_Bit_any _ _ _ x k _ (h3.to bW) hk1).mono ?_
                        rintro e w17 ⟨rfl, hb17⟩
                        have C17 := (show Blk1 w17 _ _ _ from X6.to bW).cell
                        obtain ⟨bb, hbb⟩ : ∃ bb, bb = bitAt x k := ⟨_, rfl⟩
                        have bb1 : bb ≤ 1 := by rw [hbb]; exact bitAt_le x k
                        have HBB := Lib.hid hbb
                        rw [← hbb]
                        clear hbb
                        go_wp2_with fail
                        refine (ref2_Bit_any _ _ _ x k _ (h4.to bW).1 hk1).mono ?_
                        rw [← HBB.out]
                        rintro e w18 ⟨rfl, rfl⟩
                        go_wp2_with fail
                        refine (nat_Twos _ _ _ _ _ (h3.to bW) (by omega)).mono ?_
                        rintro e w19 ⟨t', ⟨rfl, hb19⟩, ht'⟩
                        obtain rfl := twos_same TW.out ht'
                        go_wp2_with fail
                        go_ret
                        exact ⟨rfl, bW⟩
            · obtain rfl : j = 0 := by omega
              have x0 : x = 0 := h3.zero_iff.2 rfl
              have xz : (((x : Nat) : Int) != 0) = false := by rw [x0]; rfl
              have n40 : n4 = 0 := (h4.zero_iff (by decide)).1 x0
              have zn : (((n4 : Nat) : Int) == 0) = true := by simp; omega
              have X0 := Lib.hid x0
              clear x0
              have ZN := Lib.hid zn
              clear zn n40
              go_wp2_with fail
              refine (nat_Uint_yes _ _ _ x _ (h3.to bW) (by omega)).mono ?_
              rintro e w7 ⟨rfl, hb7⟩
              go_wp2_with fail
              refine (ref2_Words _ _ _ _ _ (h4.to bW).1 (by omega)).mono ?_
              rw [WL]
              rintro e w8 ⟨A8, c8, rfl, ho8, hb8⟩
              obtain ⟨A8', c8', hv8, hd8, hf8⟩ := own_form ho8 h3.1.lt
              cases hv8
              have hc8 := hd8.cap
              have hc8' := hd8.max
              clear ho8 hf8
              go_upto_region 21 with fail
              go_cut [68] (fun b wc => b = .bool (decide (0 ≤ k ∧ k < ((0 : Nat) : Int))) ∧ wc = w8)
              case first =>
                by_cases p0 : 0 ≤ k
                · have p0' : ¬ k < 0 := by omega
                  by_cases p1 : k < ((0 : Nat) : Int)
                  · skip
                    exact absurd p1 (by omega)
                  · skip
                    have p1' : ¬ k < 0 := by omega
                    go_wp2_with fail
                    go_meet
                    exact ⟨by rw [decide_eq_false (show ¬ (0 ≤ k ∧ k < ((0 : Nat) : Int)) from by omega)], rfl⟩
                · skip
                  go_wp2_with fail
                  go_meet
                  exact ⟨by rw [decide_eq_false (show ¬ (0 ≤ k ∧ k < ((0 : Nat) : Int)) from by omega)], rfl⟩
              case rest =>
                obtain ⟨rfl, rfl⟩ := hcut
                obtain ⟨wq, hwq⟩ : ∃ wq, wq = wc := ⟨_, rfl⟩
                subst hwq
                go_upto_if 68 with fail
                go_cut [14] (fun z wc' => z = .int .u64 (wordAt x k : Nat) ∧ Below wq.heap.size wq wc')
                case first =>
                  by_cases hp : 0 ≤ k ∧ k < ((0 : Nat) : Int)
                  · rw [decide_eq_true hp]
                    obtain ⟨p0, p1⟩ := hp
                    obtain ⟨q, rfl⟩ := Int.eq_ofNat_of_zero_le p0
                    have hq : q < 0 := by omega
                    obtain ⟨g8, o8, rfl, hg8, hc9⟩ := hd8.at_ (by omega)
                    have e8 := hc9 q hq
                    clear hc9
                    have WA := Lib.hid (show wordAt x (q : Int) = dg W q x by unfold wordAt; rw [if_pos p0, Int.toNat_natCast])
                    go_wp2_with fail
                    go_meet
                    exact ⟨by rw [WA.out], Below.refl _ _⟩
                  · rw [decide_eq_false hp]
                    have WA := Lib.hid (show wordAt x k = 0 by unfold wordAt; split; (rename_i p0; exact dg_of_lt (Nat.lt_of_lt_of_le h3.lt (Nat.pow_le_pow_right W_pos (by omega)))); rfl)
                    go_wp2_with fail
                    go_meet
                    exact ⟨by rw [WA.out]; rfl, Below.refl _ _⟩
                case rest =>
                  obtain ⟨rfl, hbc⟩ := hcut
                  skip
                  have C9 := (show Blk1 wc _ _ _ from X6.to bW).cell
                  clear CX
                  have zn := ZN.out
                  go_wp2_with fail
                  refine (law_Like _ _ _ _ _ _ _ _ (h3.to bW) (h4.to bW) (by omega) (by omega)).mono ?_
                  rintro e w10 ⟨rfl, hb10⟩
                  have C10 := (show Blk1 w10 _ _ _ from X6.to bW).cell
                  go_wp2_with fail
                  refine (nat_Zero _ _ _ _ _ (h3.to bW)).mono ?_
                  rw [decide_eq_true X0.out]
                  rintro e w11 ⟨rfl, hb11⟩
                  have C11 := (show Blk1 w11 _ _ _ from X6.to bW).cell
                  go_wp2_with fail
                  refine (nat_Word_any _ _ _ x k _ (h3.to bW) hk1).mono ?_
                  rintro e w12 ⟨rfl, hb12⟩
                  have C12 := (show Blk1 w12 _ _ _ from X6.to bW).cell
                  clear zn C9 C10 C11
                  have hBW : (((wordAt x k : Nat) : Int) != (wordAt x k : Nat)) = false := by simp
                  go_wp2_with fail
                  go_loopw [15] (fun t wr => ∃ tt, tt ≤ blen x ∧ t = .int .i64 ((tt : Nat) : Int) ∧ x % 2 ^ tt = 0 ∧ wr = w12) (fun t _ => blen x - (intOf t).toNat)
                  case atStart => exact ⟨0, Nat.zero_le _, rfl, by rw [Nat.pow_zero, Nat.mod_one], rfl⟩
                  case round =>
                    obtain ⟨tt, htt, rfl, hmod, hwr⟩ := hrel
                    obtain rfl : w12 = wr := hwr.symm
                    have bl : blen x ≤ 64 := by have := blen_le_of_lt (k := 64 * 0) (x := x) (by rw [Nat.pow_mul]; exact h3.lt); omega
                    go_upto_region 28 with fail
                    go_cut [134] (fun b wc' => b = .bool (decide (tt < blen x ∧ x / 2 ^ tt % 2 = 0)) ∧ wc' = w12)
                    case first =>
                      go_wp2_with fail
                      refine (ref2_Bits _ _ _ _ _ (h4.to bW) (by omega)).mono ?_
                      rintro e w13 ⟨rfl, rfl⟩
                      by_cases t1 : tt < blen x
                      · have t1' : (tt : Int) < (blen x : Nat) := by omega
                        go_wp2_with fail
                        obtain ⟨bt, hbt⟩ : ∃ bt, bt = x / 2 ^ tt % 2 := ⟨_, rfl⟩
                        have HBT := Lib.hid hbt
                        have tL : tt ≤ 9223372036854775807 := by omega
                        clear hbt
                        refine (ref2_Bit _ _ _ x tt _ (h4.to bW).1 tL).mono ?_
                        rw [← HBT.out]
                        rintro e w14 ⟨rfl, rfl⟩
                        by_cases t2 : bt = 0
                        · have t2' : (((bt : Nat) : Int) == 0) = true := by rw [t2]; rfl
                          have HT := Lib.hid (show tt < blen x ∧ x / 2 ^ tt % 2 = 0 from ⟨t1, by rw [← HBT.out]; exact t2⟩)
                          clear t2
                          go_wp2_with fail
                          go_meet
                          exact ⟨by rw [decide_eq_true HT.out], rfl⟩
                        · have t2' : (((bt : Nat) : Int) == 0) = false := by simp; omega
                          have HT := Lib.hid (show ¬ (tt < blen x ∧ x / 2 ^ tt % 2 = 0) from fun h => t2 (by rw [HBT.out]; exact h.2))
                          clear t2
                          go_wp2_with fail
                          go_meet
                          exact ⟨by rw [decide_eq_false HT.out], rfl⟩
                      · have t1' : ¬ (tt : Int) < (blen x : Nat) := by omega
                        go_wp2_with fail
                        go_meet
                        exact ⟨by rw [decide_eq_false (show ¬ (tt < blen x ∧ x / 2 ^ tt % 2 = 0) from fun h => t1 h.1)], rfl⟩
                    case rest =>
                      obtain ⟨rfl, rfl⟩ := hcut
                      by_cases ht : tt < blen x ∧ x / 2 ^ tt % 2 = 0
                      · rw [decide_eq_true ht]
                        have HM := Lib.hid (twos_step hmod ht.2)
                        have ht1 := ht.1
                        clear ht hmod
                        go_wp2_with fail
                        go_roundw
                        case rel => exact ⟨tt + 1, by omega, by go_num, HM.out, by first | rfl | trivial⟩
                        case measure => simp [intOf]; omega
                      · rw [decide_eq_false ht]
                        have TW := Lib.hid (show TwosOf x tt by rcases Nat.lt_or_eq_of_le htt with h1 | h1; exact twos_bit hmod (fun e => ht ⟨h1, e⟩); (subst h1; exact twos_top hmod))
                        clear ht hmod
                        go_wp2_with fail
                        refine (nat_Bits _ _ _ _ _ (h3.to bW) (by omega)).mono ?_
                        rintro e w15 ⟨rfl, hb15⟩
                        have C15 := (show Blk1 w15 _ _ _ from X6.to bW).cell
                        go_wp2_with fail
                        refine (ref2_Bits _ _ _ _ _ (h4.to bW) (by omega)).mono ?_
                        rintro e w16 ⟨rfl, rfl⟩
                        go_wp2_with fail
                        refine (nat_Bit_any _ _ _ x k _ (h3.to bW) hk1).mono ?_
                        rintro e w17 ⟨rfl, hb17⟩
                        have C17 := (show Blk1 w17 _ _ _ from X6.to bW).cell
                        obtain ⟨bb, hbb⟩ : ∃ bb, bb = bitAt x k := ⟨_, rfl⟩
                        have bb1 : bb ≤ 1 := by rw [hbb]; exact bitAt_le x k
                        have HBB := Lib.hid hbb
                        rw [← hbb]
                        clear hbb
                        go_wp2_with fail
                        refine (ref2_Bit_any _ _ _ x k _ (h4.to bW).1 hk1).mono ?_
                        rw [← HBB.out]
                        rintro e w18 ⟨rfl, rfl⟩
                        go_wp2_with fail
                        refine (nat_Twos _ _ _ _ _ (h3.to bW) (by omega)).mono ?_
                        rintro e w19 ⟨t', ⟨rfl, hb19⟩, ht'⟩
                        obtain rfl := twos_same TW.out ht'
                        go_wp2_with fail
                        go_ret
                        exact ⟨rfl, bW⟩
end Go.Proofs.Ytflleaifmeiikaa
