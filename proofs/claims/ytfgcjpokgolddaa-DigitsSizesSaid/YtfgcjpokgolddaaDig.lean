/- The walks of package digits, first part: Size, Bytes, Plain. -/
import Derived.Test.YtfgcjpokgolddaaDigLaw
import Derived.Test.YtfgcjpokgolddaaKD
import Derived.Test.YtfgcjpokgolddaaKH
import Derived.IntWalk
set_option linter.unusedVariables false
set_option linter.unusedSimpArgs false
namespace Go.Proofs.Ytfgcjpokgolddaa
open Go.RowKit
set_option maxRecDepth 100000
theorem info_u8 : (Try.prog.info? 5).map (fun i => (i.zero, i.size, i.bytes)) = some (some (.int .u8 0), 1, 1) := by kernel_rfl
def bsize (x : Nat) : Nat := (blen x + 7) / 8
theorem bsize_lt (x : Nat) : x < 256 ^ bsize x := by
  unfold bsize
  have h1 := blen_lt x
  rw [show 256 = 2 ^ 8 by decide, ← Nat.pow_mul]
  exact Nat.lt_of_lt_of_le h1 (Nat.pow_le_pow_right (by decide) (by omega))
theorem bsize_len (x : Nat) : IsLen 256 x (bsize x) := by
  refine ⟨bsize_lt x, fun h => ?_⟩
  unfold bsize at h ⊢
  have hx : x ≠ 0 := fun e => by subst e; simp [blen] at h
  have h1 := blen_le hx
  rw [show 256 = 2 ^ 8 by decide, ← Nat.pow_mul]
  exact Nat.le_trans (Nat.pow_le_pow_right (by decide) (by have := blen_pos hx; omega)) h1
theorem digits_Size (A : Option Addr) (n c x : Nat) (w : World) (h : NatAt w A n c x) (hn : n ≤ 17592186044416) :
    Calls Try.prog 14 #[.agg #[.slice A n c]] w (Ret w (.int .i64 (bsize x : Nat))) := by
  have B0 := Blk1.new w 25 (.slice A n c)
  have hbl : blen x ≤ 64 * n := blen_le_of_lt (by rw [← W_pow]; exact h.lt)
  obtain ⟨b, hb⟩ : ∃ b, b = blen x := ⟨_, rfl⟩
  rw [← hb] at hbl
  have HB := Lib.hid hb
  clear hb
  obtain ⟨z, hz⟩ : ∃ z, z = (b + 7) / 8 := ⟨_, rfl⟩
  have e1 : ((b : Int) + 7) / 8 = (z : Int) := by omega
  have e2 : ((b : Int) + 7).tdiv 8 = (z : Int) := by rw [Int.tdiv_eq_ediv_of_nonneg (by omega)]; exact e1
  have HZ := Lib.hid hz
  clear hz
  go_enter Try.func14, Try.ntmps14
  go_wp2_with fail
  refine (nat_Bits A n c x _ (h.alloc _) hn).mono ?_
  rw [← HB.out]
  rintro e w1 ⟨rfl, hb1⟩
  go_wp2_with fail
  go_ret
  exact ⟨by unfold bsize; rw [← HB.out, ← HZ.out]; rfl, nx (nxa (Below.refl _ _) _) hb1⟩
def RetOwn8 (w : World) (n x : Nat) (e : Ending) (w' : World) : Prop := ∃ A c, e = .returned (.slice A n c) ∧ w'.ownsRow w.heap.size 5 1 (.slice A n c) n (dl .u8 256 n x) ∧ Below w.heap.size w w'
set_option maxHeartbeats 1000000 in
theorem digits_Bytes (A : Option Addr) (n c x : Nat) (w : World) (h : NatAt w A n c x) (hn : n ≤ 17592186044416) :
    Calls Try.prog 12 #[.agg #[.slice A n c]] w (RetOwn8 w (bsize x) (rv 256 (bsize x) x)) := by
  obtain ⟨i0, hi, hz0, hz1, hz2⟩ := info_parts info_u8
  have m1 := h.1.max
  have m2 := h.1.cap
  obtain ⟨K, hK⟩ : ∃ K, K = bsize x := ⟨_, rfl⟩
  have hKn : K ≤ 8 * n := by
    have hbl : blen x ≤ 64 * n := blen_le_of_lt (by rw [← W_pow]; exact h.lt)
    rw [hK]; unfold bsize; omega
  have HK := Lib.hid hK
  rw [← hK]
  clear hK
  obtain ⟨we, hwe⟩ : ∃ we, we = w.alloc (.cells #[.slice A n c] 25) := ⟨_, rfl⟩
  have B0 : Blk1 we w.heap.size 25 (.slice A n c) := by rw [hwe]; exact Blk1.new _ _ _
  have hbe : Below w.heap.size w we := by rw [hwe]; exact nxa (Below.refl _ _) _
  have HW := Lib.hid hwe
  clear hwe
  go_enter Try.func12, Try.ntmps12
  go_wp2_with fail
  rw [← HW.out]
  refine (digits_Size A n c x _ (h.to hbe) hn).mono ?_
  rw [← HK.out]
  rintro e w1 ⟨rfl, hb1⟩
  go_wp2_with (at_make; refine wpList_make_full _ rfl _ _ 30 rfl w.heap.size 5 i0 (.int .u8 0) 1 Try.underlying30 hi hz0 hz1 .i64 .i64 _ _ K rfl rfl rfl rfl (by rw [hz2]; omega) (by unfold maxLen; omega) (nx hbe hb1).size ?_)
  intro w2 hown hgrow
  rw [made_dl .u8 256] at hown
  have hb2 := below_of_none hgrow
  obtain ⟨G, hG⟩ : ∃ G, G = w1.heap.size := ⟨_, rfl⟩
  have hGs0 : w.heap.size < G := by rw [hG]; exact (B0.to hb1).lt
  have hGs : w.heap.size ≤ G := Nat.le_of_lt hGs0
  have hbl : Below we.heap.size we w2 := nx hb1 hb2
  rw [← hG] at hown ⊢
  clear hgrow hb2 hb1 hG
  go_wp2_with fail
  go_loopw [4, 5, 11] (fun _ _ t wr => ∃ k : Nat, k ≤ K ∧ t = .int .i64 (k : Int) ∧ wr.ownsRow w.heap.size 5 1 (.slice (some ⟨G, 0, none⟩) K K) K (dl .u8 256 K (rv 256 k x * 256 ^ (K - k))) ∧ Below w.heap.size w wr ∧ Blk1 wr w.heap.size 25 (.slice A n c)) (fun _ _ t _ => K - (intOf t).toNat)
  case atStart => exact ⟨0, Nat.zero_le _, rfl, by simpa [rv] using hown, nx hbe hbl, B0.to hbl⟩
  case round =>
    clear hown hbl B0
    obtain ⟨k, hk, rfl, ho, hbl, X⟩ := hrel
    by_cases hlt : k < K
    · have kI : (k : Int) < (K : Int) := by omega
      obtain ⟨q, hq⟩ : ∃ q, q = k / 8 := ⟨_, rfl⟩
      obtain ⟨r, hr⟩ : ∃ r, r = k % 8 := ⟨_, rfl⟩
      obtain ⟨j, hj⟩ : ∃ j, j = K - 1 - k := ⟨_, rfl⟩
      have e1 : (k : Int) / 8 = (q : Int) := by omega
      have e2 : (k : Int) % 8 = (r : Int) := by omega
      have e3 : (K : Int) - 1 - (k : Int) = (j : Int) := by omega
      have hr7 : r ≤ 7 := by omega
      have hqk : q ≤ 9223372036854775807 := by omega
      have hjK : j < K := by omega
      have jI : (j : Int) < (K : Int) := by omega
      have HB := Lib.hid (byte_at x k)
      rw [← hq, ← hr] at HB
      have HS := Lib.hid (show put 256 j (rv 256 k x * 256 ^ (K - k)) (dg 256 k x) = rv 256 (k + 1) x * 256 ^ (K - (k + 1)) by
        rw [show K - k = j + 1 by omega, put_upper (by decide), show K - (k + 1) = j by omega, rv_succ, Nat.mul_comm 256, Nat.add_comm])
      have hd := dg_lt (b := 256) (by decide) k x
      have c0 := X.cell
      have c4 := ho.cellAt j (by omega)
      rw [dl_get _ _ _ _ _ (by omega)] at c4
      have f4 := ho.frozenAt j
      clear hq hr hj
      go_wp2_with fail
      refine (nat_Word A n c x q _ (h.to hbl) hqk).mono ?_
      rintro e w4 ⟨rfl, hb4⟩
      have ho4 := own_below ho hb4
      have c5 := cellB hb4 c4
      have f5 := ho4.frozenAt j
      have hw := dg_lt W_pos q x
      obtain ⟨D, hD⟩ : ∃ D, D = dg W q x := ⟨_, rfl⟩
      rw [← hD] at HB hw ⊢
      clear hD c4 f4
      have ho5 := (ho4.stored j (.int .u8 (dg 256 k x : Nat))).1
      rw [dl_set (by decide) hjK hd, HS.out] at ho5
      have Y := (X.to hb4).far (p := ⟨G, j, none⟩) (by show w.heap.size ≠ G; omega) (.int .u8 (dg 256 k x : Nat))
      have hbl5 := (nx hbl hb4).setCell (p := ⟨G, j, none⟩) hGs (.int .u8 (dg 256 k x : Nat))
      have EQ := Lib.hid (show ((D : Int) / 2 ^ (8 * r) % 256) = ((dg 256 k x : Nat) : Int) by rw [← HB.out]; simp)
      clear ho4 X hbl hb4 ho c0
      go_wp2_with fail
      rw [EQ.out]
      go_roundw
      case rel => exact ⟨k + 1, by omega, by go_num, ho5, hbl5, Y⟩
      case measure => simp [intOf]; omega
    · obtain rfl : k = K := by omega
      rw [Nat.sub_self, Nat.pow_zero, Nat.mul_one] at ho
      go_wp2_with fail
      go_ret
      exact ⟨_, _, rfl, ho, hbl⟩
end Go.Proofs.Ytfgcjpokgolddaa
