/- The walks of nat.Of and quot.ByWord again: their results' rows are the call's own. -/
import Derived.Test.YtihbpkljjmpkjaaKH
set_option linter.unusedVariables false
set_option linter.unusedSimpArgs false
namespace Go.Proofs.Ytihbpkljjmpkjaa
open Go.RowKit
def RetDivF (w : World) (q r : Nat) (e : Ending) (w' : World) : Prop := ∃ A n c, e = .returned (.tuple #[.agg #[.slice A n c], .int .u64 (r : Nat), .bool true]) ∧ NatAt w' A n c q ∧ Below w.heap.size w w' ∧ Fresh w.heap.size A
set_option maxHeartbeats 1000000
theorem nat_Of_own (A : Option Addr) (n c x : Nat) (w : World) (h : Dig .u64 W w A n c x) (hn : n ≤ 17592186044416) :
    Calls Try.prog 38 #[.slice A n c] w fun e w' => ∃ A m c, e = .returned (.agg #[.slice A m c]) ∧ NatAt w' A m c x ∧ Below w.heap.size w w' ∧ m ≤ n ∧ Fresh w.heap.size A := by
  have B0 := Blk1.new w 27 (.slice none 0 0)
  go_enter Try.func38, Try.ntmps38
  go_wp2_with fail
  refine (clone A n c x _ (h.alloc _) hn).mono ?_
  intro e w1 hr
  obtain ⟨A1, c1, rfl, hd1, hb1, hf1⟩ := hr.dig h.lt
  clear hr
  go_wp2_with fail
  refine (nat_trim A1 n c1 x _ hd1).mono ?_
  rintro e w2 ⟨m, rfl, hd2, hb2, hm⟩
  have hb3 := nx (nx (nxa (Below.refl w.heap.size w) (.cells #[.slice none 0 0] 27)) hb1) hb2
  have B2 := (B0.to hb1).to hb2
  have c0 := B2.cell
  have f0 := B2.free
  go_wp2_with fail
  exact bodyPost_ret (v := .agg #[.slice A1 m c1]) (by simp [results, Try.results38, go_sem, c0]) rfl ⟨A1, m, c1, rfl, hd2.put_ c0 _, hb3.setCell (Nat.le_refl _) _, hm, hf1.mono (by simp)⟩
theorem quot_ByWord_own (A : Option Addr) (n c x m : Nat) (w : World) (h : NatAt w A n c x) (hm : 0 < m) (hmw : m < W) (hn : n ≤ 17592186044416) :
    Calls Try.prog 63 #[.agg #[.slice A n c], .int .u64 (m : Nat)] w (RetDivF w (x / m) (x % m)) := by
  obtain ⟨i0, hi, hz0, hz1, hz2⟩ := info_parts info_u64
  have m1 := h.1.max
  have m2 := h.1.cap
  have B0 := (Blk1.new w 27 (.slice A n c)).alloc (.cells #[.slice none 0 0] 27)
  have B1 := Blk1.new (w.alloc (.cells #[.slice A n c] 27)) 27 (.slice none 0 0)
  simp only [World.size_alloc] at B1
  have hbe : Below w.heap.size w ((w.alloc (.cells #[.slice A n c] 27)).alloc (.cells #[.slice none 0 0] 27)) := nxa (nxa (Below.refl _ _) _) _
  have hx := h.to hbe
  have hm0 : ((m : Int) == 0) = false := by simp; omega
  go_enter Try.func63, Try.ntmps63
  go_wp2_with fail
  refine (nat_Len A n c _).mono ?_
  rintro e w1 ⟨rfl, hb1⟩
  go_wp2_with (at_make; refine wpList_make_full _ rfl _ _ 22 rfl w1.heap.size 74 i0 (.int .u64 0) 1 Try.underlying22 hi hz0 hz1 .i64 .i64 _ _ n rfl rfl rfl rfl (by rw [hz2]; omega) (by unfold maxLen; omega) (Nat.le_refl _) ?_)
  intro w2 hown hgrow
  rw [made_dl .u64 W] at hown
  have hb2 := below_of_none hgrow
  generalize (w.alloc (.cells #[.slice A n c] 27)).alloc (.cells #[.slice none 0 0] 27) = we at B0 B1 hbe hx hb1
  obtain ⟨G, hG⟩ : ∃ G, G = w1.heap.size := ⟨_, rfl⟩
  have hGs : we.heap.size ≤ G := by rw [hG]; exact hb1.size
  have hbl : Below we.heap.size we w2 := nx hb1 hb2
  have hown' : w2.ownsRow we.heap.size 74 1 (.slice (some ⟨G, 0, none⟩) n n) n (dl .u64 W n 0) := by rw [hG]; exact hown.mono hb1.size
  rw [← hG]
  clear hgrow hb2 hb1 hown hG
  have c0 := (B0.to hbl).cell
  go_wp2_with fail
  refine (nat_Len A n c _).mono ?_
  rintro e w3 ⟨rfl, hb3⟩
  have hown3 := own_below hown' hb3
  have hbl3 := nx hbl hb3
  clear hb3 hbl hown' c0
  go_wp2_with fail
  go_loopw [8, 9] (fun l k wr => ∃ kk r : Nat, kk ≤ n ∧ k = .int .i64 ((kk : Int) - 1) ∧ l = .int .u64 (r : Nat) ∧ r = up W kk x % m ∧ wr.ownsRow we.heap.size 74 1 (.slice (some ⟨G, 0, none⟩) n n) n (dl .u64 W n (up W kk (x / m) * W ^ kk)) ∧ Below we.heap.size we wr) (fun _ k _ => (intOf k + 1).toNat)
  case atStart =>
    refine ⟨n, 0, Nat.le_refl _, rfl, rfl, ?_, ?_, hbl3⟩
    · rw [up_eq_zero hx.lt, Nat.zero_mod]
    · rw [up_eq_zero (Nat.lt_of_le_of_lt (Nat.div_le_self _ _) hx.lt), Nat.zero_mul]; exact hown3
  case round =>
    clear hown3 hbl3
    obtain ⟨kk, r, hk, rfl, rfl, hr, hown, hbl⟩ := hrel
    have hrm : r < m := by rw [hr]; exact Nat.mod_lt _ hm
    rcases kk with _ | j
    · rw [up_zero] at hr hown
      rw [Nat.pow_zero, Nat.mul_one] at hown
      have HR := Lib.hid hr
      obtain ⟨A1, c1, hv, hd1, hf⟩ := own_form hown (Nat.lt_of_le_of_lt (Nat.div_le_self _ _) hx.lt)
      cases hv
      clear hr hown
      go_wp2_with fail
      refine (nat_Of_own _ _ _ _ _ hd1 (by omega)).mono ?_
      rintro e w5 ⟨A2, n2, c2, rfl, h2, hb5, hm2, hf2⟩
      have Y := (B1.to hbl).to hb5
      obtain ⟨l1, hb⟩ := store1 (w0 := w) (nx hbe (nx hbl hb5)) (by show w.heap.size ≤ w.heap.size + 1; omega) Y h2
      have c6 := Y.cell
      have f6 := Y.free
      have e1 := l1.1.cell
      clear hd1 hf hb5
      go_wp2_with fail
      exact bodyPost_ret (v := .tuple #[.agg #[.slice A2 n2 c2], .int .u64 (r : Nat), .bool true]) (by simp [results, Try.results63, go_sem, e1]) rfl ⟨A2, n2, c2, by rw [← HR.out], l1.2, hb, hf2.mono (show w.heap.size ≤ _ from (nx hbe hbl).size)⟩
    · obtain ⟨t1, t2, t3⟩ := bw_step (j := j) (X := x) hm
      obtain ⟨a, ha⟩ : ∃ a, a = dg W j x := ⟨_, rfl⟩
      have haw : a < W := by rw [ha]; exact dg_lt W_pos _ _
      rw [← hr, ← ha] at t1 t2 t3
      have HA := Lib.hid ha
      have jN : (j : Int) < (n : Int) := by omega
      have jM : j ≤ 9223372036854775807 := by omega
      have ej : ((j + 1 : Nat) : Int) - 1 = (j : Int) := by omega
      rw [ej]
      have c0 := (B0.to hbl).cell
      clear hr ha ej
      go_wp2_with fail
      refine (nat_Word A n c x j _ (hx.to hbl) jM).mono ?_
      rw [← HA.out]
      rintro e w4 ⟨rfl, hb4⟩
      have ho4 := own_below hown hb4
      have c4 := ho4.cellAt j (by omega)
      rw [dl_get _ _ _ _ _ (by omega)] at c4
      have f4 := ho4.frozenAt j
      go_wp2_with fail
      refine (word_Div_yes r a m _ hmw haw hrm).mono ?_
      rintro e w5 ⟨rfl, nd, rfl⟩
      obtain ⟨d, hd⟩ : ∃ d, d = (r * W + a) / m := ⟨_, rfl⟩
      obtain ⟨t, ht⟩ : ∃ t, t = (r * W + a) % m := ⟨_, rfl⟩
      rw [← hd] at t1 t3 ⊢
      rw [← ht] at t2 ⊢
      have ho := ((own_drewN ho4 nd).stored j (.int .u64 (d : Nat))).1
      rw [dl_set W_pos (by omega) t3, put_upper W_pos, ← t1] at ho
      have hbl' := (below_drewN (nx hbl hb4) nd).setCell (p := ⟨G, j, none⟩) hGs (.int .u64 (d : Nat))
      have T2 := Lib.hid t2
      clear t1 t2 t3 hd ht hown hbl hb4 c0
      go_wp2_with fail
      go_roundw
      case rel => exact ⟨j, t, by omega, rfl, rfl, T2.out, ho, hbl'⟩
      case measure => simp [intOf]
end Go.Proofs.Ytihbpkljjmpkjaa
