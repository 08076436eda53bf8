/- The walks of package actuaryref01 (the document's answer for words, bit by bit). -/
import Derived.Test.YtnhcanpogmhjpaaWordWalk
import Derived.Test.YtnhcanpogmhjpaaMem
import Derived.Deep.RegionWith
namespace Go.Proofs.Ytnhcanpogmhjpaa
open Go.RowKit
theorem info_int : (Try.prog.info? 3).map (fun i => (i.zero, i.size, i.bytes)) = some (some (.int .i64 0), 1, 8) := by kernel_rfl
set_option maxHeartbeats 400000 in
theorem ref1_Bits (x : Nat) (w : World) (hx : x < W) :
    Calls Try.prog 30 #[.int .u64 (x : Int)] w (RetDig .i64 2 w 64 x) := by
  obtain ⟨i0, hi, hz0, hz1, hz2⟩ := info_parts info_int
  go_enter Try.func30, Try.ntmps30
  go_wp2
  go_loopw [0, 3, 4] (fun y out k wr => ∃ kk : Nat, kk ≤ 64 ∧ k = .int .i64 (kk : Int) ∧ y = .int .u64 (up 2 kk x : Nat) ∧ wr.ownsRow w.heap.size 3 1 out kk (dl .i64 2 kk (low 2 kk x)) ∧ Below w.heap.size w wr) (fun _ _ k _ => 64 - (intOf k).toNat)
  case atStart => exact ⟨0, by omega, rfl, by rw [up_zero], by rw [low_nought]; exact own_nil _ _ _ _ _, Below.refl _ _⟩
  case round =>
    obtain ⟨kk, hk, rfl, rfl, hown, hbel⟩ := hrel
    have hu : up 2 kk x ≤ 18446744073709551615 := le_W (Nat.lt_of_le_of_lt (up_le _ _ _) hx)
    by_cases hlt : kk < 64
    · go_wp2_with (at_builtin; go_loud (refine wpList_append_own _ rfl _ _ 33 rfl w.heap.size 3 i0 (.int .i64 0) 1 8 Try.underlying33 hi hz0 hz1 hz2 rfl (by decide) _ _ _ rfl (hown.alloc _) ⟨wr.heap.size, 0, none⟩ 1 1 [.int .i64 ((up 2 kk x : Nat) % 2 : Int)] rfl rfl ?c1 ?c2 ?c3 ?c4 ?c5 ?_))
      case c1 => exact news_one _ _ _
      case c2 => exact one_one _ _
      case c3 => unfold maxLen; omega
      case c4 => omega
      case c5 => have := hbel.size; simp; omega
      intro v' w1 hown' hgrow _
      have hb1 : Below w.heap.size w w1 := (hbel.alloc hbel.size _).grown hgrow (by have := hbel.size; simp; omega) (fun k hk => (hown.lt k hk).1)
      have ho1 : w1.ownsRow w.heap.size 3 1 v' (kk + 1) (dl .i64 2 (kk + 1) (low 2 (kk + 1) x)) := by
        rw [← low_next, ← dl_snoc (by decide) (low_bound (by decide) _ _) (dg_lt (by decide) _ _), ← up_mod]; exact hown'
      clear hown' hgrow hbel hown
      go_wp2
      go_roundw
      case rel => exact ⟨kk + 1, by omega, by go_num, by rw [← up_succ]; rfl, ho1, hb1⟩
      case measure => simp [intOf]; omega
    · obtain rfl : kk = 64 := by omega
      rw [low_all hx] at hown
      go_wp2
      go_ret
      obtain ⟨A, c, hv, hd, hf⟩ := own_form hown hx
      exact ⟨A, c, by rw [hv]; rfl, hd, hbel, hf⟩
theorem ref1_Word (A : Option Addr) (n c x : Nat) (w : World) (h : Dig .i64 2 w A n c x) :
    Calls Try.prog 52 #[.slice A n c] w fun e w' => e = .returned (.int .u64 (low 2 64 x : Nat)) ∧ w = w' := by
  have hmax := h.max
  have hcap := h.cap
  go_enter Try.func52, Try.ntmps52
  go_wp2
  go_loop [3, 4] (fun v k => ∃ kk : Nat, kk ≤ 64 ∧ k = .int .i64 ((kk : Int) - 1) ∧ v = .int .u64 (low 2 (64 - kk) (up 2 kk x) : Nat)) (fun _ k => (intOf k + 1).toNat)
  case atStart => exact ⟨64, by omega, rfl, by rw [Nat.sub_self, low_nought]; rfl⟩
  case round =>
    obtain ⟨kk, hk, rfl, rfl⟩ := hrel
    rcases kk with _ | j
    · go_wp2
      go_ret
      exact ⟨by rw [up_zero]; rfl, rfl⟩
    · rw [show ((j + 1 : Nat) : Int) - 1 = (j : Int) by omega]
      have e := low_up_succ 2 j (64 - (j + 1)) x
      rw [show 64 - (j + 1) + 1 = 64 - j by omega, show 64 - (j + 1) = 63 - j by omega] at e
      have hb1 : low 2 (63 - j) (up 2 (j + 1) x) ≤ 9223372036854775807 := by
        have h1 := low_bound (b := 2) (by decide) (63 - j) (up 2 (j + 1) x)
        have h2 : 2 ^ (63 - j) ≤ 2 ^ 63 := Nat.pow_le_pow_right (by omega) (by omega)
        omega
      have hd : dg 2 j x ≤ 1 := by have := dg_lt (b := 2) (by decide) j x; omega
      have E := Lib.hid e
      clear e
      by_cases hj : j < n
      · obtain ⟨g, o, rfl, hg, hc⟩ := h.at_ (by omega)
        have hcj := hc j hj
        clear hc
        go_wp2
        go_round
        case rel => exact ⟨j, by omega, by go_num, by rw [E.out]; go_num⟩
        case measure => simp [intOf]
      · have hz : dg 2 j x = 0 := dg_of_lt (Nat.lt_of_lt_of_le h.lt (Nat.pow_le_pow_right (by decide) (by omega)))
        have HZ := Lib.hid hz
        clear hz hd
        go_wp2
        go_round
        case rel => exact ⟨j, by omega, by go_num, by rw [E.out, HZ.out]; go_num⟩
        case measure => simp [intOf]

set_option maxRecDepth 100000 in
set_option maxHeartbeats 1000000 in
theorem ref1_Add (A : Option Addr) (n c x : Nat) (A' : Option Addr) (n' c' y : Nat) (w : World) (h : Dig .i64 2 w A n c x) (h' : Dig .i64 2 w A' n' c' y) :
    Calls Try.prog 29 #[.slice A n c, .slice A' n' c'] w (RetDig .i64 2 w 128 (low 2 128 (x + y))) := by
  obtain ⟨i0, hi, hz0, hz1, hz2⟩ := info_parts info_int
  have m1 := h.max
  have m2 := h.cap
  have m3 := h'.max
  have m4 := h'.cap
  go_enter Try.func29, Try.ntmps29
  go_wp2
  go_loopw [5, 6, 7, 8] (fun out cc k _ wr => ∃ kk : Nat, kk ≤ 128 ∧ k = .int .i64 (kk : Int) ∧ cc = .int .i64 (carry 2 kk x y : Nat) ∧ wr.ownsRow w.heap.size 3 1 out kk (dl .i64 2 kk (low 2 kk (x + y))) ∧ Below w.heap.size w wr) (fun _ _ k _ _ => 128 - (intOf k).toNat)
  case atStart => exact ⟨0, by omega, rfl, by rw [carry_zero]; rfl, by rw [low_nought]; exact own_nil _ _ _ _ _, Below.refl _ _⟩
  case round =>
    obtain ⟨kk, hk, rfl, rfl, hown, hbel⟩ := hrel
    by_cases hlt : kk < 128
    · have hc := carry_le (b := 2) (by decide) kk x y
      have hd1 : dg 2 kk x ≤ 1 := by have := dg_lt (b := 2) (by decide) kk x; omega
      have hd2 : dg 2 kk y ≤ 1 := by have := dg_lt (b := 2) (by decide) kk y; omega
      have S := Lib.hid (carry_step (b := 2) (by decide) kk x y)
      have step : ∀ (v' : Value) (w1 : World) (u : Nat), (u = carry 2 kk x y + dg 2 kk x + dg 2 kk y) → w1.ownsRow w.heap.size 3 1 v' (kk + 1) (dl .i64 2 kk (low 2 kk (x + y)) ++ [.int .i64 ((u : Int) % 2)]) → w1.ownsRow w.heap.size 3 1 v' (kk + 1) (dl .i64 2 (kk + 1) (low 2 (kk + 1) (x + y))) := by
        intro v' w1 u hu ho
        rw [← low_next, ← dl_snoc (by decide) (low_bound (by decide) _ _) (dg_lt (by decide) _ _), ← S.out.2, ← hu]
        exact ho
      have STEP := Lib.hid step
      clear step
      by_cases ha : kk < n
      · obtain ⟨g, o, rfl, hg, hcell⟩ := h.at_ (by omega)
        have hcx : wr.cell? ⟨g, o + kk, none⟩ = some (.int .i64 (dg 2 kk x : Nat)) := (hbel.cell (by exact hg)).trans (hcell kk ha)
        clear hcell
        by_cases hb : kk < n'
        · obtain ⟨g', o', rfl, hg', hcell'⟩ := h'.at_ (by omega)
          have hcy : wr.cell? ⟨g', o' + kk, none⟩ = some (.int .i64 (dg 2 kk y : Nat)) := (hbel.cell (by exact hg')).trans (hcell' kk hb)
          clear hcell'
          go_wp2_with (at_builtin; refine wpList_append_own _ rfl _ _ 33 rfl w.heap.size 3 i0 (.int .i64 0) 1 8 Try.underlying33 hi hz0 hz1 hz2 rfl (by decide) _ _ _ rfl (hown.alloc _) ⟨wr.heap.size, 0, none⟩ 1 1 [.int .i64 (((carry 2 kk x y : Nat) + (dg 2 kk x : Nat) + (dg 2 kk y : Nat) : Int) % 2)] rfl rfl (news_one _ _ _) (one_one _ _) (by unfold maxLen; omega) (by omega) (by have := hbel.size; simp; omega) ?_)
          intro v' w1 hown' hgrow _
          have hb1 : Below w.heap.size w w1 := (hbel.alloc hbel.size _).grown hgrow (by have := hbel.size; simp; omega) (fun k hk => (hown.lt k hk).1)
          have ho1 := STEP.out v' w1 _ rfl hown'
          clear hown' hgrow hbel hown
          go_wp2
          go_roundw
          case rel => exact ⟨kk + 1, by omega, by go_num, by rw [← S.out.1]; rfl, ho1, hb1⟩
          case measure => simp [intOf]; omega
        · have HY := Lib.hid (show dg 2 kk y = 0 from dg_of_lt (Nat.lt_of_lt_of_le h'.lt (Nat.pow_le_pow_right (by decide) (by omega))))
          clear hd2
          go_wp2_with (at_builtin; refine wpList_append_own _ rfl _ _ 33 rfl w.heap.size 3 i0 (.int .i64 0) 1 8 Try.underlying33 hi hz0 hz1 hz2 rfl (by decide) _ _ _ rfl (hown.alloc _) ⟨wr.heap.size, 0, none⟩ 1 1 [.int .i64 (((carry 2 kk x y : Nat) + (dg 2 kk x : Nat) : Int) % 2)] rfl rfl (news_one _ _ _) (one_one _ _) (by unfold maxLen; omega) (by omega) (by have := hbel.size; simp; omega) ?_)
          intro v' w1 hown' hgrow _
          have hb1 : Below w.heap.size w w1 := (hbel.alloc hbel.size _).grown hgrow (by have := hbel.size; simp; omega) (fun k hk => (hown.lt k hk).1)
          have ho1 := STEP.out v' w1 (carry 2 kk x y + dg 2 kk x) (by rw [HY.out]; rfl) hown'
          clear hown' hgrow hbel hown
          go_wp2
          go_roundw
          case rel => exact ⟨kk + 1, by omega, by go_num, by rw [← S.out.1, HY.out]; rfl, ho1, hb1⟩
          case measure => simp [intOf]; omega
      · have HX := Lib.hid (show dg 2 kk x = 0 from dg_of_lt (Nat.lt_of_lt_of_le h.lt (Nat.pow_le_pow_right (by decide) (by omega))))
        clear hd1
        by_cases hb : kk < n'
        · obtain ⟨g', o', rfl, hg', hcell'⟩ := h'.at_ (by omega)
          have hcy : wr.cell? ⟨g', o' + kk, none⟩ = some (.int .i64 (dg 2 kk y : Nat)) := (hbel.cell (by exact hg')).trans (hcell' kk hb)
          clear hcell'
          go_wp2_with (at_builtin; refine wpList_append_own _ rfl _ _ 33 rfl w.heap.size 3 i0 (.int .i64 0) 1 8 Try.underlying33 hi hz0 hz1 hz2 rfl (by decide) _ _ _ rfl (hown.alloc _) ⟨wr.heap.size, 0, none⟩ 1 1 [.int .i64 (((carry 2 kk x y : Nat) + (dg 2 kk y : Nat) : Int) % 2)] rfl rfl (news_one _ _ _) (one_one _ _) (by unfold maxLen; omega) (by omega) (by have := hbel.size; simp; omega) ?_)
          intro v' w1 hown' hgrow _
          have hb1 : Below w.heap.size w w1 := (hbel.alloc hbel.size _).grown hgrow (by have := hbel.size; simp; omega) (fun k hk => (hown.lt k hk).1)
          have ho1 := STEP.out v' w1 (carry 2 kk x y + dg 2 kk y) (by rw [HX.out]; rfl) hown'
          clear hown' hgrow hbel hown
          go_wp2
          go_roundw
          case rel => exact ⟨kk + 1, by omega, by go_num, by rw [← S.out.1, HX.out]; rfl, ho1, hb1⟩
          case measure => simp [intOf]; omega
        · have HY := Lib.hid (show dg 2 kk y = 0 from dg_of_lt (Nat.lt_of_lt_of_le h'.lt (Nat.pow_le_pow_right (by decide) (by omega))))
          clear hd2
          go_wp2_with (at_builtin; refine wpList_append_own _ rfl _ _ 33 rfl w.heap.size 3 i0 (.int .i64 0) 1 8 Try.underlying33 hi hz0 hz1 hz2 rfl (by decide) _ _ _ rfl (hown.alloc _) ⟨wr.heap.size, 0, none⟩ 1 1 [.int .i64 (((carry 2 kk x y : Nat) : Int) % 2)] rfl rfl (news_one _ _ _) (one_one _ _) (by unfold maxLen; omega) (by omega) (by have := hbel.size; simp; omega) ?_)
          intro v' w1 hown' hgrow _
          have hb1 : Below w.heap.size w w1 := (hbel.alloc hbel.size _).grown hgrow (by have := hbel.size; simp; omega) (fun k hk => (hown.lt k hk).1)
          have ho1 := STEP.out v' w1 (carry 2 kk x y) (by rw [HX.out, HY.out]; rfl) hown'
          clear hown' hgrow hbel hown
          go_wp2
          go_roundw
          case rel => exact ⟨kk + 1, by omega, by go_num, by rw [← S.out.1, HX.out, HY.out]; rfl, ho1, hb1⟩
          case measure => simp [intOf]; omega
    · obtain rfl : kk = 128 := by omega
      go_wp2
      go_ret
      obtain ⟨A, c, hv, hd, hf⟩ := own_form hown (low_bound (by decide) _ _)
      exact ⟨A, c, by rw [hv]; rfl, hd, hbel, hf⟩
set_option maxHeartbeats 400000 in
theorem ref1_Shift (A : Option Addr) (n c x m : Nat) (w : World) (h : Dig .i64 2 w A n c x) (hn : n ≤ 64) (hm : m ≤ 64) :
    Calls Try.prog 53 #[.slice A n c, .int .i64 (m : Int)] w (RetDig .i64 2 w (m + n) (x * 2 ^ m)) := by
  obtain ⟨i0, hi, hz0, hz1, hz2⟩ := info_parts info_int
  have m1 := h.max
  have m2 := h.cap
  go_enter Try.func53, Try.ntmps53
  go_wp2
  go_loopw [5, 6] (fun out k wr => ∃ kk : Nat, kk ≤ m ∧ k = .int .i64 (kk : Int) ∧ wr.ownsRow w.heap.size 3 1 out kk (dl .i64 2 kk 0) ∧ Below w.heap.size w wr) (fun _ k _ => m - (intOf k).toNat)
  case atStart => exact ⟨0, by omega, rfl, own_nil _ _ _ _ _, Below.refl _ _⟩
  case round =>
    obtain ⟨kk, hk, rfl, hown, hbel⟩ := hrel
    by_cases hlt : kk < m
    · go_wp2_with (at_builtin; refine wpList_append_own _ rfl _ _ 33 rfl w.heap.size 3 i0 (.int .i64 0) 1 8 Try.underlying33 hi hz0 hz1 hz2 rfl (by decide) _ _ _ rfl (hown.alloc _) ⟨wr.heap.size, 0, none⟩ 1 1 [.int .i64 0] rfl rfl (news_one _ _ _) (one_one _ _) (by unfold maxLen; omega) (by omega) (by have := hbel.size; simp; omega) ?_)
      intro v' w1 hown' hgrow _
      have hb1 : Below w.heap.size w w1 := (hbel.alloc hbel.size _).grown hgrow (by have := hbel.size; simp; omega) (fun k hk => (hown.lt k hk).1)
      have ho1 : w1.ownsRow w.heap.size 3 1 v' (kk + 1) (dl .i64 2 (kk + 1) 0) := by
        have := dl_snoc (k := .i64) (b := 2) (n := kk) (x := 0) (d := 0) (by decide) (Nat.pow_pos (by decide)) (by decide)
        rw [Nat.zero_mul, Nat.add_zero] at this
        rw [← this]; exact hown'
      clear hown' hgrow hbel hown
      go_wp2
      go_roundw
      case rel => exact ⟨kk + 1, by omega, by go_num, ho1, hb1⟩
      case measure => simp [intOf]; omega
    · obtain rfl : kk = m := by omega
      have hd := h.below hbel (Nat.le_refl _)
      go_wp2_with (at_builtin; refine wpList_append_dig _ rfl _ _ 33 rfl w.heap.size 3 i0 (.int .i64 0) 8 Try.underlying33 hi hz0 hz1 hz2 rfl .i64 2 _ _ _ rfl hown A n c x rfl hd (by unfold maxLen; omega) (by omega) hbel.size (by decide) (Nat.pow_pos (by decide)) ?_)
      intro v' w1 hown' hgrow
      have hb1 : Below w.heap.size w w1 := hbel.grown hgrow hbel.size (fun k hk => (hown.lt k hk).1)
      have hx : x * 2 ^ kk < 2 ^ (kk + n) := by
        rw [Nat.add_comm, Nat.pow_add]; exact Nat.mul_lt_mul_of_pos_right h.lt (Nat.pow_pos (by decide))
      clear hgrow hbel hown
      go_wp2
      go_ret
      obtain ⟨A, c, hv, hd, hf⟩ := own_form hown' hx
      exact ⟨A, c, by rw [hv]; rfl, hd, hb1, hf⟩
theorem ref1_Two (A : Option Addr) (c x : Nat) (w : World) (h : Dig .i64 2 w A 128 c x) :
    Calls Try.prog 26 #[.slice A 128 c] w fun e w' => e = .returned (.tuple #[.int .u64 (low 2 64 (up 2 64 x) : Nat), .int .u64 (low 2 64 x : Nat)]) ∧ ∃ n, w' = w.drewN n := by
  have m1 := h.max
  have m2 := h.cap
  obtain ⟨g, o, rfl, hg, hc⟩ := h.at_ (by omega)
  have h1 : ∀ m, Dig .i64 2 (w.drewN m) (some ⟨g, o + 64, none⟩) 64 (c - 64) (up 2 64 x) := fun m => (h.drewN m).from_ (i := 64) (by omega) (fun g' o' e _ => by cases e; rfl)
  have h2 : ∀ m, Dig .i64 2 (w.drewN m) (some ⟨g, o, none⟩) 64 c (low 2 64 x) := fun m => (h.drewN m).upto (by decide) (i := 64) (by omega)
  have hne : ¬ c = 64 := by omega
  have e2 := Lib.hid (low_low (b := 2) (k := 64) (m := 64) (x := x) (by omega))
  clear hc
  go_enter Try.func26, Try.ntmps26
  go_wp2_with fail
  go_quiet (first | (go_at_call 52; with_reducible (exact quietL (ref1_Word _ _ _ _ _ (h1 _)))) | (go_at_call 52; with_reducible (exact quietL (ref1_Word _ _ _ _ _ (h2 _)))))
  go_wp2_with fail
  go_ret2
  exact ⟨ret2 rfl (by rw [e2.out]), _, rfl⟩
end Go.Proofs.Ytnhcanpogmhjpaa
