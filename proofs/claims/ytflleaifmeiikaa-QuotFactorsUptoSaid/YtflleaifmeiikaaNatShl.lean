/- The walk of nat's Shl. -/
import Derived.Test.YtflleaifmeiikaaNatSub
import Derived.BigRegion
import Derived.StillTailTactics
namespace Go.Proofs.Ytflleaifmeiikaa
open Go.RowKit
theorem shl_digit {i q s x : Nat} (hs : s ≤ 63) :
    let V := low W i x * 2 ^ s * W ^ q
    let t := dg W (i + q) V
    let lo := dg W i x * 2 ^ s % W
    let hi := dg W i x / 2 ^ (64 - s)
    V < W ^ (i + q + 1) ∧ t ||| lo = t + lo ∧ t + lo < W ∧ hi < W ∧ put W (i + q + 1) (put W (i + q) V (t + lo)) hi = low W (i + 1) x * 2 ^ s * W ^ q := by
  intro V t lo hi
  have hp : 0 < 2 ^ s := Nat.pow_pos (by decide)
  have hl := low_bound W_pos i x
  have hd := dg_lt W_pos i x
  have hV : V < 2 ^ s * W ^ (i + q) := by
    show low W i x * 2 ^ s * W ^ q < _
    rw [Nat.pow_add, Nat.mul_comm (low W i x), Nat.mul_assoc]
    exact Nat.mul_lt_mul_of_pos_left (Nat.mul_lt_mul_of_pos_right hl (Nat.pow_pos W_pos)) hp
  have h2s : 2 ^ s < W := by rw [W_eq]; exact Nat.pow_lt_pow_right (by decide) (by omega)
  have hV1 : V < W ^ (i + q + 1) := by
    rw [Nat.pow_succ, Nat.mul_comm]
    exact Nat.lt_trans hV (Nat.mul_lt_mul_of_pos_right h2s (Nat.pow_pos W_pos))
  have ht : t < 2 ^ s := by
    show V / W ^ (i + q) % W < 2 ^ s
    exact Nat.lt_of_le_of_lt (Nat.mod_le _ _) ((Nat.div_lt_iff_lt_mul (Nat.pow_pos W_pos)).2 hV)
  have hsplit := split_at (dg W i x) s (by omega)
  have hlo : ∃ m, lo = 2 ^ s * m ∧ m + 1 ≤ 2 ^ (64 - s) := by
    have e : W = 2 ^ s * 2 ^ (64 - s) := by rw [← Nat.pow_add, show s + (64 - s) = 64 by omega]; rfl
    refine ⟨dg W i x % 2 ^ (64 - s), ?_, Nat.mod_lt _ (Nat.pow_pos (by decide))⟩
    show dg W i x * 2 ^ s % W = _
    rw [e, Nat.mul_comm, Nat.mul_mod_mul_left]
  obtain ⟨m, hm, hm2⟩ := hlo
  have hadd : t + lo < W := by
    have e : W = 2 ^ s * 2 ^ (64 - s) := by rw [← Nat.pow_add, show s + (64 - s) = 64 by omega]; rfl
    rw [e, hm]
    have : 2 ^ s * (m + 1) ≤ 2 ^ s * 2 ^ (64 - s) := Nat.mul_le_mul_left _ hm2
    rw [Nat.mul_add] at this; omega
  refine ⟨hV1, ?_, hadd, Nat.lt_of_le_of_lt (Nat.div_le_self _ _) hd, ?_⟩
  · rw [hm, Nat.or_comm, ← Nat.two_pow_add_eq_or_of_lt ht, Nat.add_comm]
  · have e1 : put W (i + q) V (t + lo) = V + lo * W ^ (i + q) := by
      unfold put
      have hz : V / W ^ (i + q + 1) = 0 := Nat.div_eq_of_lt hV1
      have hVs : V = V % W ^ (i + q) + t * W ^ (i + q) := by
        have := low_succ W (i + q) V
        rw [Nat.mod_eq_of_lt hV1] at this
        exact this
      rw [hz, Nat.add_mul]
      omega
    have e2 : V + lo * W ^ (i + q) < W ^ (i + q + 1) := by
      rw [← e1]; exact put_lt W_pos (by omega) hV1 hadd
    rw [e1, put_top e2]
    have e3 : low W (i + 1) x * 2 ^ s * W ^ q = V + (dg W i x * 2 ^ s) * W ^ (i + q) := by
      rw [← low_next, Nat.add_mul, Nat.add_mul, Nat.pow_add]
      congr 1
      rw [Nat.mul_right_comm (dg W i x), Nat.mul_assoc (dg W i x * 2 ^ s)]
    rw [e3, ← hsplit, Nat.add_mul, Nat.pow_succ]
    show V + lo * W ^ (i + q) + hi * (W ^ (i + q) * W) = V + (hi * W * W ^ (i + q) + lo * W ^ (i + q))
    rw [Nat.mul_comm (W ^ (i + q)) W, ← Nat.mul_assoc]
    omega
def shv (q s i x : Nat) : Nat := low W i x * 2 ^ s * W ^ q
theorem shv_zero (q s x : Nat) : shv q s 0 x = 0 := by unfold shv; rw [low_nought]; simp
theorem shv_all {q s n x : Nat} (h : x < W ^ n) : shv q s n x = x * 2 ^ s * W ^ q := by unfold shv; rw [low_all h]
theorem nat_Shl_no (A : Option Addr) (n c : Nat) (k : Int) (w : World) (hk : k < 0 ∨ 65536 < k) :
    Calls Try.prog 37 #[.agg #[.slice A n c], .int .i64 k] w (RetNatB w 0 false) := by
  have fin : ∀ w', RetNatB w 0 false (.returned (.tuple #[.agg #[.slice none 0 0], .bool false])) ((w.alloc (.cells #[.slice A n c] 25)).alloc w') := fun _ => ⟨none, 0, 0, rfl, ⟨Dig.nil _ _ _ _ (by omega), fun h => absurd h (by omega)⟩, nxa (nxa (Below.refl _ _) _) _⟩
  have FIN := Lib.hid fin
  clear fin
  rcases hk with hk | hk
  · go_enter Try.func37, Try.ntmps37
    go_wp2_with fail
    exact bodyPost_ret (v := .tuple #[.agg #[.slice none 0 0], .bool false]) (by simp [results, Try.results37, go_sem]) rfl (FIN.out _)
  · have hk' : ¬ k < 0 := by omega
    go_enter Try.func37, Try.ntmps37
    go_wp2_with fail
    exact bodyPost_ret (v := .tuple #[.agg #[.slice none 0 0], .bool false]) (by simp [results, Try.results37, go_sem]) rfl (FIN.out _)
set_option maxRecDepth 100000 in
set_option maxHeartbeats 1000000 in
theorem nat_Shl (A : Option Addr) (n c x k : Nat) (w : World) (h : NatAt w A n c x) (hk : k ≤ 65536) (hn : n ≤ 17592186044416) :
    Calls Try.prog 37 #[.agg #[.slice A n c], .int .i64 (k : Int)] w (RetNatB w (x * 2 ^ k) true) := by
  obtain ⟨i0, hi, hz0, hz1, hz2⟩ := info_parts info_u64
  have m1 := h.1.max
  have m2 := h.1.cap
  obtain ⟨q, hq⟩ : ∃ q, q = k / 64 := ⟨_, rfl⟩
  obtain ⟨s, hs⟩ : ∃ s, s = k % 64 := ⟨_, rfl⟩
  have eq1 : (k : Int) / 64 = (q : Int) := by omega
  have es1 : (k : Int) % 64 = (s : Int) := by omega
  have hs63 : s ≤ 63 := by omega
  have hq1 : q ≤ 1024 := by omega
  have hX := Lib.hid (show x * 2 ^ k = shv q s n x by rw [shv_all h.1.lt, Nat.mul_assoc, W_pow, ← Nat.pow_add]; congr 2; omega)
  have B0 := (Blk1.new w 25 (.slice A n c)).alloc (.cells #[.slice none 0 0] 25)
  have B1 := Blk1.new (w.alloc (.cells #[.slice A n c] 25)) 25 (.slice none 0 0)
  simp only [World.size_alloc] at B1
  have hk65 : ¬ 65536 < (k : Int) := by omega
  clear hq hs
  go_enter Try.func37, Try.ntmps37
  go_wp2_with (at_make; refine wpList_make_full _ rfl _ _ 22 rfl (w.heap.size + 1 + 1) 30 i0 (.int .u64 0) 1 Try.underlying22 hi hz0 hz1 .i64 .i64 _ _ (n + q + 1) rfl rfl (by omega) (by omega) (by rw [hz2]; omega) (by unfold maxLen; omega) (by simp) ?_)
  intro w1 hown hgrow
  rw [made_dl .u64 W] at hown
  have hb1 := below_of_none hgrow
  have X0 := B0.to hb1
  have X1 := B1.to hb1
  have hbel : Below w.heap.size w w1 := nx (nxa (nxa (Below.refl _ _) _) _) hb1
  have c0 := X0.cell
  have hs1 : w.heap.size + 1 + 1 < w1.heap.size := (hown.lt _ rfl).2
  clear hgrow hb1
  go_wp2_with fail
  clear c0
  go_loopw [8, 9, 30] (fun _ _ k wr => ∃ i : Nat, i ≤ n ∧ k = .int .i64 (i : Int) ∧ wr.ownsRow (w.heap.size + 1 + 1) 30 1 (.slice (some ⟨w.heap.size + 1 + 1, 0, none⟩) (n + q + 1) (n + q + 1)) (n + q + 1) (dl .u64 W (n + q + 1) (shv q s i x)) ∧ Below w.heap.size w wr ∧ Blk1 wr w.heap.size 25 (.slice A n c) ∧ Blk1 wr (w.heap.size + 1) 25 (.slice none 0 0)) (fun _ _ k _ => n - (intOf k).toNat)
  case atStart => exact ⟨0, Nat.zero_le _, rfl, by rw [shv_zero]; exact hown, hbel, X0, X1⟩
  case round =>
    obtain ⟨i, hik, rfl, hown, hbel, X0, X1⟩ := hrel
    by_cases hlt : i < n
    · have SD := shl_digit (i := i) (q := q) (s := s) (x := x) hs63
      obtain ⟨s1, s2, s3, s4, s5⟩ := SD
      change put W (i + q + 1) (put W (i + q) (shv q s i x) (dg W (i + q) (shv q s i x) + dg W i x * 2 ^ s % W)) (dg W i x / 2 ^ (64 - s)) = shv q s (i + 1) x at s5
      change dg W (i + q) (shv q s i x) ||| dg W i x * 2 ^ s % W = dg W (i + q) (shv q s i x) + dg W i x * 2 ^ s % W at s2
      change dg W (i + q) (shv q s i x) + dg W i x * 2 ^ s % W < W at s3
      change shv q s i x < W ^ (i + q + 1) at s1
      obtain ⟨g, o, rfl, hg, hcell⟩ := h.1.at_ (by omega)
      have cd := (hbel.cell (p := ⟨g, o + i, none⟩) hg).trans (hcell i hlt)
      clear hcell
      have c3 := hown.cellAt (i + q) (by omega)
      rw [dl_get _ _ _ _ _ (by omega)] at c3
      have f3 := hown.frozenAt (i + q)
      obtain ⟨xi, hxi⟩ : ∃ xi, xi = dg W i x := ⟨_, rfl⟩
      obtain ⟨t, ht⟩ : ∃ t, t = dg W (i + q) (shv q s i x) := ⟨_, rfl⟩
      obtain ⟨v1, hv1⟩ : ∃ v1, v1 = t + xi * 2 ^ s % W := ⟨_, rfl⟩
      obtain ⟨v2, hv2⟩ : ∃ v2, v2 = xi / 2 ^ (64 - s) := ⟨_, rfl⟩
      have htw : t < W := by rw [ht]; exact dg_lt W_pos _ _
      rw [← hxi, ← ht] at s2 s3 s5
      rw [← hv1] at s2 s3 s5
      rw [← hv2] at s5
      rw [← ht] at c3
      rw [← hxi] at cd s4
      have q1 : bits .or .u64 (t : Int) (IntKind.u64.wrap ((xi : Int) * 2 ^ s)) = (v1 : Int) := by
        rw [show ((2 : Int) ^ s) = ((2 ^ s : Nat) : Int) by simp, wrap_mul, or_nat _ _ htw (Nat.mod_lt _ W_pos), s2]
      have q2 : (xi : Int) / 2 ^ (64 - s) = (v2 : Int) := by
        rw [show ((2 : Int) ^ (64 - s)) = ((2 ^ (64 - s) : Nat) : Int) by simp, div_nat, ← hv2]
      have iN : (i : Int) < (n : Int) := by omega
      have S5 := Lib.hid s5
      have S1 := Lib.hid s1
      have S3 := Lib.hid s3
      have S4 := Lib.hid (show v2 < W by rw [hv2]; exact s4)
      clear s1 s2 s3 s4 s5 hv1 hv2 ht hxi htw
      go_wp2_with fail
      go_region
      have c5 := hown.cellAt (i + q + 1) (by omega)
      rw [dl_get _ _ _ _ _ (by omega)] at c5
      have f5 := hown.frozenAt (i + q + 1)
      have ho := (((hown.stored (i + q) (.int .u64 (v1 : Nat))).1).stored (i + q + 1) (.int .u64 (v2 : Nat))).1
      rw [dl_set W_pos (by omega) S3.out, dl_set W_pos (by omega) S4.out, S5.out] at ho
      have hbel' := (hbel.setCell (p := ⟨w.heap.size + 1 + 1, i + q, none⟩) (by show w.heap.size ≤ w.heap.size + 1 + 1; omega) (.int .u64 (v1 : Nat))).setCell (p := ⟨w.heap.size + 1 + 1, i + q + 1, none⟩) (by show w.heap.size ≤ w.heap.size + 1 + 1; omega) (.int .u64 (v2 : Nat))
      have Y0 := (X0.far (p := ⟨w.heap.size + 1 + 1, i + q, none⟩) (by show _ ≠ w.heap.size + 1 + 1; omega) (.int .u64 (v1 : Nat))).far (p := ⟨w.heap.size + 1 + 1, i + q + 1, none⟩) (by show _ ≠ w.heap.size + 1 + 1; omega) (.int .u64 (v2 : Nat))
      have Y1 := (X1.far (p := ⟨w.heap.size + 1 + 1, i + q, none⟩) (by show _ ≠ w.heap.size + 1 + 1; omega) (.int .u64 (v1 : Nat))).far (p := ⟨w.heap.size + 1 + 1, i + q + 1, none⟩) (by show _ ≠ w.heap.size + 1 + 1; omega) (.int .u64 (v2 : Nat))
      clear hown hbel X0 X1 c3 f3
      go_wp2_with fail
      go_roundw
      case rel => exact ⟨i + 1, by omega, by go_num, ho, hbel'.drew, Y0, Y1⟩
      case measure => simp [intOf]; omega
    · obtain rfl : i = n := by omega
      have hfit : shv q s i x < W ^ (i + q + 1) := by
        have := (shl_digit (i := i) (q := q) (s := s) (x := x) hs63).1
        exact this
      obtain ⟨A1, c1, hv, hd, hf⟩ := own_form hown hfit
      cases hv
      go_wp2_with fail
      refine (nat_trim _ (i + q + 1) (i + q + 1) _ _ hd).mono ?_
      rintro e w3 ⟨m, rfl, hd2, hb2, hm⟩
      have Z1 := X1.to hb2
      have c0 := Z1.cell
      have f0 := Z1.free
      have hbel' := nx hbel hb2
      clear hd hf hown hb2
      go_wp2_with fail
      exact bodyPost_ret (v := .tuple #[.agg #[.slice (some ⟨w.heap.size + 1 + 1, 0, none⟩) m (i + q + 1)], .bool true]) (by simp [results, Try.results37, go_sem, c0]) rfl ⟨_, m, _, rfl, by rw [hX.out]; exact hd2.put_ c0 _, hbel'.setCell (by show w.heap.size ≤ w.heap.size + 1; omega) _⟩
end Go.Proofs.Ytflleaifmeiikaa
