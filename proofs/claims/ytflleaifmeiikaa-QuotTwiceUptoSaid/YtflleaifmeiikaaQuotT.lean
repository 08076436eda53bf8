/- The walks of package quot, third part: take, back. -/
import Derived.Test.YtflleaifmeiikaaQuotG
import Derived.Test.YtflleaifmeiikaaAny2
set_option linter.unusedVariables false
set_option linter.unusedSimpArgs false
namespace Go.Proofs.Ytflleaifmeiikaa
open Go.RowKit
set_option maxRecDepth 100000
/-! ### a world in which one block, g, has turned -/
theorem gb_below {w a b : World} {r : Option Nat} (h : w.grownBy a r) (k : Below a.heap.size a b) : w.grownBy b r :=
  ⟨k.os.trans h.os, k.tape.trans h.tape, k.output.trans h.output, Nat.le_trans h.size k.size, fun i hi hr => (k.block i (Nat.lt_of_lt_of_le hi h.size)).trans (h.block i hi hr)⟩
theorem gb_set {w a : World} {g : Nat} (h : w.grownBy a (some g)) {p : Addr} (hp : p.block = g) (v : Value) : w.grownBy (a.setCell p v) (some g) :=
  ⟨h.os, h.tape, h.output, by simpa [World.setCell] using h.size, fun i hi hr => (Below.heap_setCell a p v i (fun e => hr (by rw [e, hp]))).trans (h.block i hi hr)⟩
theorem gb_trans {w a b : World} {g : Nat} (h : w.grownBy a (some g)) (k : a.grownBy b (some g)) : w.grownBy b (some g) :=
  ⟨k.os.trans h.os, k.tape.trans h.tape, k.output.trans h.output, Nat.le_trans h.size k.size, fun i hi hr => (k.block i (Nat.lt_of_lt_of_le hi h.size) hr).trans (h.block i hi hr)⟩
theorem Dig.gb {k : IntKind} {b : Nat} {w w' : World} {A : Option Addr} {n c x g : Nat} (h : Dig k b w A n c x) (hg : w.grownBy w' (some g)) (hA : ∀ a, A = some a → a.block ≠ g) : Dig k b w' A n c x := by
  refine ⟨h.1, h.2.1, h.2.2.1, fun hn => ?_⟩
  obtain ⟨g', o, e, hl, hc⟩ := h.2.2.2 hn
  have hne := hA _ e
  have hb := hg.block g' hl (fun e' => hne (Option.some.inj e'))
  exact ⟨g', o, e, Nat.lt_of_lt_of_le hl hg.size, fun j hj => by rw [← hc j hj]; unfold World.cell?; simp only [hb]⟩
theorem NatAt.gb {w w' : World} {A : Option Addr} {n c x g : Nat} (h : NatAt w A n c x) (hg : w.grownBy w' (some g)) (hA : ∀ a, A = some a → a.block ≠ g) : NatAt w' A n c x := ⟨h.1.gb hg hA, h.2⟩
theorem Blk1.gb {w w' : World} {g' t g : Nat} {v : Value} (h : Blk1 w g' t v) (hg : w.grownBy w' (some g)) (hne : g' ≠ g) : Blk1 w' g' t v := h.grown hg (fun e => hne (Option.some.inj e))
theorem gb_refl (w : World) (g : Nat) : w.grownBy w (some g) := World.grownBy.refl w _
set_option maxHeartbeats 2000000 in
theorem quot_take (base g N cap U k m cc : Nat) (A : Option Addr) (c v q : Nat) (w : World) (hown : w.ownsRow base 30 1 (.slice (some ⟨g, 0, none⟩) N cap) N (dl .u64 W N U)) (hv : NatAt w A m c v) (hA : ∀ a, A = some a → a.block ≠ g)
    (hk : k + m + 1 ≤ N) (hq : q < W) (hcc : m + 1 ≤ cc) (hN : N ≤ 17592186044420) (hc9 : cc ≤ 9223372036854775807) :
    Calls Try.prog 63 #[.slice (some ⟨g, k, none⟩) (m + 1) cc, .agg #[.slice A m c], .int .u64 (q : Nat)] w fun e w' => ∃ V b, e = .returned (.bool (decide (b = 1))) ∧ b ≤ 1 ∧ V + q * v * W ^ k = U + b * W ^ (k + m + 1) ∧ up W (k + m + 1) V = up W (k + m + 1) U ∧
      w'.ownsRow base 30 1 (.slice (some ⟨g, 0, none⟩) N cap) N (dl .u64 W N V) ∧ w.grownBy w' (some g) := by
  have hgw : g < w.heap.size := (hown.lt _ rfl).2
  have hgb : base ≤ g := (hown.lt _ rfl).1
  have m1 := hv.1.max
  have m2 := hv.1.cap
  have B0 := Blk1.new w 25 (.slice A m c)
  have hbe : Below w.heap.size w (w.alloc (.cells #[.slice A m c] 25)) := (by with_reducible repeat (first | exact Below.refl _ _ | refine nxa ?_ _ | refine nxd ?_ _ | refine nxw ?_ | refine nx ?_ (by assumption)))
  have hz : (0 : Nat) < W := W_pos
  go_enter Try.func63, Try.ntmps63
  go_wp2_with fail
  refine (nat_Len A m c _).mono ?_
  rintro e w1 ⟨rfl, hb1⟩
  have ho1 := own_below (own_below hown hbe) hb1
  have X1 := B0.to hb1
  have hb2 := gb_below (gb_below (gb_refl w g) hbe) hb1
  clear hbe hb1 B0
  go_wp2_with fail
  go_loopw [7, 8, 9, 10, 11, 14] (fun a b _ _ _ t wr => ∃ j ov br V : Nat, j ≤ m ∧ t = .int .i64 (j : Int) ∧ a = .int .u64 (ov : Nat) ∧ b = .int .u64 (br : Nat) ∧ ov < W ∧ br ≤ 1 ∧ V + q * low W j v * W ^ k = U + (ov + br) * W ^ (k + j) ∧ up W (k + j) V = up W (k + j) U ∧ wr.ownsRow base 30 1 (.slice (some ⟨g, 0, none⟩) N cap) N (dl .u64 W N (V)) ∧ w.grownBy wr (some g) ∧ Blk1 wr w.heap.size 25 (.slice A m c)) (fun _ _ _ _ _ t _ => m - (intOf t).toNat)
  case atStart => exact ⟨0, 0, 0, U, Nat.zero_le _, rfl, rfl, rfl, W_pos, by omega, by rw [low_nought]; simp, rfl, ho1, hb2, X1⟩
  case round =>
    clear ho1 hb2 X1
    obtain ⟨j, ov, br, V, hjm, rfl, rfl, rfl, hov, hbr, hV, hU, hown1, hgb1, X⟩ := hrel
    have hv1 := hv.gb hgb1 hA
    have jM : j ≤ 9223372036854775807 := by omega
    by_cases hlt : j < m
    · have jm : (j : Int) < (m : Int) := by omega
      have c0 := X.cell
      have jm1 : (j : Int) < (m : Int) + 1 := by omega
      go_wp2_with fail
      refine (nat_Word A m c v j _ hv1 jM).mono ?_
      rintro e w2 ⟨rfl, hb2⟩
      have hD := dg_lt W_pos j v
      obtain ⟨s1, s2⟩ := take_step hD hbr hV hU
      go_wp2_with fail
      refine (word_MulAdd _ q ov 0 _ hD hq hov hz).mono ?_
      rintro e w3 ⟨rfl, rfl⟩
      have hhi := maHi_lt (b := 0) hD hq hov hz
      have hlo := maLo_lt (dg W j v) q ov 0
      generalize maHi (dg W j v) q ov 0 = hi at *
      generalize maLo (dg W j v) q ov 0 = lo at *
      have ho2 := own_below hown1 hb2
      have c4 := ho2.cellAt (k + j) (by omega)
      rw [dl_get _ _ _ _ _ (by omega)] at c4
      have f4 := ho2.frozenAt (k + j)
      have hd := dg_lt W_pos (k + j) V
      obtain ⟨d, hdd⟩ : ∃ d, d = dg W (k + j) V := ⟨_, rfl⟩
      rw [← hdd] at c4 hd s1 s2
      clear hV hU hdd
      have S1 := Lib.hid s1
      have S2 := Lib.hid s2
      clear s1 s2
      go_wp2_with fail
      refine (word_Sub d lo br _ hd hlo (Nat.lt_of_le_of_lt hbr (by decide))).mono ?_
      rintro e w4 ⟨rfl, rfl⟩
      have hsl := subLo_lt d lo br
      have hsh := subHi_le d lo br
      have ho := (ho2.stored (k + j) (.int .u64 (subLo d lo br : Nat))).1
      rw [dl_set W_pos (by omega) hsl] at ho
      have Y := (X.to hb2).far (p := ⟨g, k + j, none⟩) (by show w.heap.size ≠ g; omega) (.int .u64 (subLo d lo br : Nat))
      have hgb2 := gb_set (gb_below hgb1 hb2) (p := ⟨g, k + j, none⟩) rfl (.int .u64 (subLo d lo br : Nat))
      clear hown1 hgb1 X hb2 ho2 c0 hv1
      go_wp2_with fail
      go_roundw
      case rel => exact ⟨j + 1, hi, subHi d lo br, _, by omega, by go_num, rfl, rfl, hhi, hsh, S1.out, S2.out, ho, hgb2, Y⟩
      case measure => simp [intOf]; omega
    · obtain rfl : j = m := by omega
      obtain ⟨s1, s2⟩ := take_end hov hbr hv.lt hV hU
      have cU := hown1.cellAt (k + j) (by omega)
      rw [dl_get _ _ _ _ _ (by omega)] at cU
      have hd := dg_lt W_pos (k + j) V
      obtain ⟨d, hdd⟩ : ∃ d, d = dg W (k + j) V := ⟨_, rfl⟩
      rw [← hdd] at cU hd s1 s2
      have S1 := Lib.hid s1
      have S2 := Lib.hid s2
      have jI : (j : Int) < (j : Int) + 1 := by omega
      have c0 := X.cell
      clear hV hU hdd s1 s2 hv1
      go_wp2_with fail
      refine wp_regionS (S := fun w' => w'.cell? ⟨w.heap.size, 0, none⟩ = some (.slice A j c) ∧ w'.cell? ⟨g, k + j, none⟩ = some (.int .u64 (d : Nat))) [15] (by kernel_rfl) ⟨cellB (show Below wr.heap.size wr _ from (by with_reducible repeat (first | exact Below.refl _ _ | refine nxa ?_ _ | refine nxd ?_ _ | refine nxw ?_ | refine nx ?_ (by assumption)))) c0, cellB (show Below wr.heap.size wr _ from (by with_reducible repeat (first | exact Below.refl _ _ | refine nxa ?_ _ | refine nxd ?_ _ | refine nxw ?_ | refine nx ?_ (by assumption)))) cU⟩ (fun hHeld => ?_)
      have hbd1 : Below wr.heap.size wr wr.drew := nxw (Below.refl _ _)
      generalize wr.drew = wd1 at hHeld hbd1 ⊢
      refine anyS_take0 (i := 0) (v := ?_) (by simp only [List.getElem?_toArray, List.getElem?_cons_succ, List.getElem?_cons_zero]; rfl) (by kernel_rfl) (by kernel_rfl) (by kernel_rfl) (by rfl) (by exact fun _ _ _ h => h) (Or.inl ⟨by rfl, ?_⟩) (fun _ => by assumption) ?_
      rotate_left
      · intro w hSw; (try dsimp only at hSw); go_simp; try with_reducible rfl
      try simp only [Act.put, List.setIfInBounds_toArray, List.set_cons_zero, List.set_cons_succ]
      refine anyS_take (i := 1) (v := ?_) (by simp only [List.getElem?_toArray, List.getElem?_cons_succ, List.getElem?_cons_zero]; rfl) (by kernel_rfl) (by kernel_rfl) (by kernel_rfl) (by kernel_rfl) (by kernel_rfl) (by exact fun _ _ _ h => h) (Or.inl ⟨by rfl, ?_⟩) (by assumption) ?_
      rotate_left
      · intro w hSw; (try dsimp only at hSw); go_simp; try with_reducible rfl
      try simp only [Act.put, List.setIfInBounds_toArray, List.set_cons_zero, List.set_cons_succ]
      refine anyS_take0 (i := 3) (v := ?_) (by simp only [List.getElem?_toArray, List.getElem?_cons_succ, List.getElem?_cons_zero]; rfl) (by kernel_rfl) (by kernel_rfl) (by kernel_rfl) (by rfl) (by exact fun _ _ _ h => h) (Or.inl ⟨by rfl, ?_⟩) (fun _ => by assumption) ?_
      rotate_left
      · intro w hSw; (try dsimp only at hSw); go_simp; try with_reducible rfl
      try simp only [Act.put, List.setIfInBounds_toArray, List.set_cons_zero, List.set_cons_succ]
      refine anyS_take (i := 4) (v := ?_) (by simp only [List.getElem?_toArray, List.getElem?_cons_succ, List.getElem?_cons_zero]; rfl) (by kernel_rfl) (by kernel_rfl) (by kernel_rfl) (by kernel_rfl) (by kernel_rfl) (by exact fun _ _ _ h => h) (Or.inl ⟨by rfl, ?_⟩) (by assumption) ?_
      rotate_left
      · intro w hSw; (try dsimp only at hSw); go_simp; try with_reducible rfl
      try simp only [Act.put, List.setIfInBounds_toArray, List.set_cons_zero, List.set_cons_succ]
      refine anyS_take0 (i := 8) (v := ?_) (by simp only [List.getElem?_toArray, List.getElem?_cons_succ, List.getElem?_cons_zero]; rfl) (by kernel_rfl) (by kernel_rfl) (by kernel_rfl) (by rfl) (by exact fun _ _ _ h => h) (Or.inl ⟨by rfl, ?_⟩) (fun _ => by assumption) ?_
      rotate_left
      · intro w hSw; (try dsimp only at hSw); go_simp; try with_reducible rfl
      try simp only [Act.put, List.setIfInBounds_toArray, List.set_cons_zero, List.set_cons_succ]
      refine anyS_take0 (i := 9) (v := ?_) (by simp only [List.getElem?_toArray, List.getElem?_cons_succ, List.getElem?_cons_zero]; rfl) (by kernel_rfl) (by kernel_rfl) (by kernel_rfl) (by rfl) (by exact fun _ _ _ h => h) (Or.inl ⟨by rfl, ?_⟩) (fun _ => by assumption) ?_
      rotate_left
      · intro w hSw; (try dsimp only at hSw); go_simp; try with_reducible rfl
      try simp only [Act.put, List.setIfInBounds_toArray, List.set_cons_zero, List.set_cons_succ]
      refine anyS_ready (rs := [2]) (by kernel_rfl) (by simp) (ReadyS.cons (by simp only [List.getElem?_toArray, List.getElem?_cons_succ, List.getElem?_cons_zero]; rfl) (fun K hK => ?_) ReadyS.nil)
      go_simp
      go_at_call 43
      (with_reducible refine (nat_Len A j c _).mono ?_)
      rintro e w2 ⟨rfl, hb2⟩
      go_simp
      refine hK.out _ _ ⟨cellB (show Below wr.heap.size wr _ from (by with_reducible repeat (first | exact Below.refl _ _ | refine nxa ?_ _ | refine nxd ?_ _ | refine nxw ?_ | refine nx ?_ (by assumption)))) c0, cellB (show Below wr.heap.size wr _ from (by with_reducible repeat (first | exact Below.refl _ _ | refine nxa ?_ _ | refine nxd ?_ _ | refine nxw ?_ | refine nx ?_ (by assumption)))) cU⟩ (fun hHeld => ?_)
      clear hK K
      try simp only [Act.put, List.setIfInBounds_toArray, List.set_cons_zero, List.set_cons_succ]
      refine anyS_ready (rs := [5]) (by kernel_rfl) (by simp) (ReadyS.cons (by simp only [List.getElem?_toArray, List.getElem?_cons_succ, List.getElem?_cons_zero]; rfl) (fun K hK => ?_) ReadyS.nil)
      go_simp
      go_at_call 43
      (with_reducible refine (nat_Len A j c _).mono ?_)
      rintro e w3 ⟨rfl, hb3⟩
      have ho3 := own_below hown1 (show Below wr.heap.size wr w3 from (by with_reducible repeat (first | exact Below.refl _ _ | refine nxa ?_ _ | refine nxd ?_ _ | refine nxw ?_ | refine nx ?_ (by assumption))))
      have f3 := ho3.frozenAt (k + j)
      have c3 := cellB (show Below wr.heap.size wr w3 from (by with_reducible repeat (first | exact Below.refl _ _ | refine nxa ?_ _ | refine nxd ?_ _ | refine nxw ?_ | refine nx ?_ (by assumption)))) cU
      go_simp
      refine hK.out _ _ ⟨cellB (show Below wr.heap.size wr _ from (by with_reducible repeat (first | exact Below.refl _ _ | refine nxa ?_ _ | refine nxd ?_ _ | refine nxw ?_ | refine nx ?_ (by assumption)))) c0, cellB (show Below wr.heap.size wr _ from (by with_reducible repeat (first | exact Below.refl _ _ | refine nxa ?_ _ | refine nxd ?_ _ | refine nxw ?_ | refine nx ?_ (by assumption)))) cU⟩ (fun hHeld => ?_)
      clear hK K
      try simp only [Act.put, List.setIfInBounds_toArray, List.set_cons_zero, List.set_cons_succ]
      refine anyS_take0 (i := 6) (v := ?_) (by simp only [List.getElem?_toArray, List.getElem?_cons_succ, List.getElem?_cons_zero]; rfl) (by kernel_rfl) (by kernel_rfl) (by kernel_rfl) (by rfl) (by exact fun _ _ _ h => h) (Or.inl ⟨by rfl, ?_⟩) (fun _ => by assumption) ?_
      rotate_left
      · intro w hSw; (try dsimp only at hSw); go_simp; try with_reducible rfl
      try simp only [Act.put, List.setIfInBounds_toArray, List.set_cons_zero, List.set_cons_succ]
      refine anyS_take (i := 7) (v := ?_) (by simp only [List.getElem?_toArray, List.getElem?_cons_succ, List.getElem?_cons_zero]; rfl) (by kernel_rfl) (by kernel_rfl) (by kernel_rfl) (by kernel_rfl) (by kernel_rfl) (by exact fun _ _ _ h => h) (Or.inl ⟨by rfl, ?_⟩) (by assumption) ?_
      rotate_left
      · intro w hSw; (try dsimp only at hSw); go_simp; try with_reducible rfl
      try simp only [Act.put, List.setIfInBounds_toArray, List.set_cons_zero, List.set_cons_succ]
      refine anyS_ready (rs := [10]) (by kernel_rfl) (by simp) (ReadyS.cons (by simp only [List.getElem?_toArray, List.getElem?_cons_succ, List.getElem?_cons_zero]; rfl) (fun K hK => ?_) ReadyS.nil)
      go_simp
      go_at_call 70
      (with_reducible refine (word_Sub d ov br _ hd hov (Nat.lt_of_le_of_lt hbr (by decide))).mono ?_)
      rintro e w4 ⟨rfl, rfl⟩
      go_simp
      refine hK.out _ _ ⟨cellB (show Below wr.heap.size wr _ from (by with_reducible repeat (first | exact Below.refl _ _ | refine nxa ?_ _ | refine nxd ?_ _ | refine nxw ?_ | refine nx ?_ (by assumption)))) c0, cellB (show Below wr.heap.size wr _ from (by with_reducible repeat (first | exact Below.refl _ _ | refine nxa ?_ _ | refine nxd ?_ _ | refine nxw ?_ | refine nx ?_ (by assumption)))) cU⟩ (fun hHeld => ?_)
      clear hK K
      try simp only [Act.put, List.setIfInBounds_toArray, List.set_cons_zero, List.set_cons_succ]
      refine anyS_take0 (i := 11) (v := ?_) (by simp only [List.getElem?_toArray, List.getElem?_cons_succ, List.getElem?_cons_zero]; rfl) (by kernel_rfl) (by kernel_rfl) (by kernel_rfl) (by rfl) (by exact fun _ _ _ h => h) (Or.inl ⟨by rfl, ?_⟩) (fun _ => by assumption) ?_
      rotate_left
      · intro w hSw; (try dsimp only at hSw); go_simp; try with_reducible rfl
      try simp only [Act.put, List.setIfInBounds_toArray, List.set_cons_zero, List.set_cons_succ]
      refine anyS_take0 (i := 12) (v := ?_) (by simp only [List.getElem?_toArray, List.getElem?_cons_succ, List.getElem?_cons_zero]; rfl) (by kernel_rfl) (by kernel_rfl) (by kernel_rfl) (by rfl) (by exact fun _ _ _ h => h) (Or.inl ⟨by rfl, ?_⟩) (fun _ => by assumption) ?_
      rotate_left
      · intro w hSw; (try dsimp only at hSw); go_simp; try with_reducible rfl
      try simp only [Act.put, List.setIfInBounds_toArray, List.set_cons_zero, List.set_cons_succ]
      refine anyS_take0 (i := 13) (v := ?_) (by simp only [List.getElem?_toArray, List.getElem?_cons_succ, List.getElem?_cons_zero]; rfl) (by kernel_rfl) (by kernel_rfl) (by kernel_rfl) (by rfl) (by exact fun _ _ _ h => h) (Or.inl ⟨by rfl, ?_⟩) (fun _ => by assumption) ?_
      rotate_left
      · intro w hSw; (try dsimp only at hSw); go_simp; try with_reducible rfl
      try simp only [Act.put, List.setIfInBounds_toArray, List.set_cons_zero, List.set_cons_succ]
      refine anyS_take0 (i := 14) (v := ?_) (by simp only [List.getElem?_toArray, List.getElem?_cons_succ, List.getElem?_cons_zero]; rfl) (by kernel_rfl) (by kernel_rfl) (by kernel_rfl) (by rfl) (by exact fun _ _ _ h => h) (Or.inl ⟨by rfl, ?_⟩) (fun _ => by assumption) ?_
      rotate_left
      · intro w hSw; (try dsimp only at hSw); go_simp; try with_reducible rfl
      try simp only [Act.put, List.setIfInBounds_toArray, List.set_cons_zero, List.set_cons_succ]
      refine anyS_ready (rs := [15]) (by kernel_rfl) (by simp) (ReadyS.last (by simp only [List.getElem?_toArray, List.getElem?_cons_succ, List.getElem?_cons_zero]; rfl) (by kernel_rfl) (fun K hK => ?_))
      go_simp
      refine hK.out _ _ ?_
      clear hK K
      try simp only [Act.put, List.setIfInBounds_toArray, List.set_cons_zero, List.set_cons_succ]
      refine anyS_take1 (i := 16) (v := ?_) (by simp only [List.getElem?_toArray, List.getElem?_cons_succ, List.getElem?_cons_zero]; rfl) (by kernel_rfl) (by kernel_rfl) (by kernel_rfl) (by rfl) (by kernel_rfl) (by exact fun _ _ _ h => h) (Or.inl ⟨by rfl, ?_⟩) ?_
      rotate_left
      · intro w hSw; (try dsimp only at hSw); go_simp; try with_reducible rfl
      try simp only [Act.put, List.setIfInBounds_toArray, List.set_cons_zero, List.set_cons_succ]
      refine anyS_done (by kernel_rfl) ?_ _
      have hsl := subLo_lt d ov br
      have hsh := subHi_le d ov br
      have ho := (ho3.stored (k + j) (.int .u64 (subLo d ov br : Nat))).1
      rw [dl_set W_pos (by omega) hsl] at ho
      have hgb2 := gb_set (gb_below hgb1 (show Below wr.heap.size wr w3 from (by with_reducible repeat (first | exact Below.refl _ _ | refine nxa ?_ _ | refine nxd ?_ _ | refine nxw ?_ | refine nx ?_ (by assumption))))) (p := ⟨g, k + j, none⟩) rfl (.int .u64 (subLo d ov br : Nat))
      generalize subHi d ov br = b at *
      clear c3 f3 ho3 hb2 hb3 hown1 X
      go_wp2_with fail
      go_ret
      exact ⟨_, b, retb (by rcases (show b = 0 ∨ b = 1 by omega) with rfl | rfl <;> rfl), hsh, S1.out, S2.out, ho, hgb2⟩
set_option maxHeartbeats 2000000 in
theorem quot_back (base g N cap U k m cc : Nat) (A : Option Addr) (c v : Nat) (w : World) (hown : w.ownsRow base 30 1 (.slice (some ⟨g, 0, none⟩) N cap) N (dl .u64 W N U)) (hv : NatAt w A m c v) (hA : ∀ a, A = some a → a.block ≠ g)
    (hk : k + m + 1 ≤ N) (hcc : m + 1 ≤ cc) (hN : N ≤ 17592186044420) (hc9 : cc ≤ 9223372036854775807) :
    Calls Try.prog 64 #[.slice (some ⟨g, k, none⟩) (m + 1) cc, .agg #[.slice A m c]] w fun e w' => ∃ V b, e = .returned (.tuple #[]) ∧ V + b * W ^ (k + m + 1) = U + v * W ^ k ∧ up W (k + m + 1) V = up W (k + m + 1) U ∧
      w'.ownsRow base 30 1 (.slice (some ⟨g, 0, none⟩) N cap) N (dl .u64 W N V) ∧ w.grownBy w' (some g) := by
  have hgw : g < w.heap.size := (hown.lt _ rfl).2
  have hgb : base ≤ g := (hown.lt _ rfl).1
  have m1 := hv.1.max
  have m2 := hv.1.cap
  have B0 := Blk1.new w 25 (.slice A m c)
  have hbe : Below w.heap.size w (w.alloc (.cells #[.slice A m c] 25)) := (by with_reducible repeat (first | exact Below.refl _ _ | refine nxa ?_ _ | refine nxd ?_ _ | refine nxw ?_ | refine nx ?_ (by assumption)))
  go_enter Try.func64, Try.ntmps64
  go_wp2_with fail
  refine (nat_Len A m c _).mono ?_
  rintro e w1 ⟨rfl, hb1⟩
  have ho1 := own_below (own_below hown hbe) hb1
  have X1 := B0.to hb1
  have hb2 := gb_below (gb_below (gb_refl w g) hbe) hb1
  clear hbe hb1 B0
  go_wp2_with fail
  go_loopw [4, 5, 8] (fun b _ t wr => ∃ j cy V : Nat, j ≤ m ∧ t = .int .i64 (j : Int) ∧ b = .int .u64 (cy : Nat) ∧ cy ≤ 1 ∧ V + cy * W ^ (k + j) = U + low W j v * W ^ k ∧ up W (k + j) V = up W (k + j) U ∧ wr.ownsRow base 30 1 (.slice (some ⟨g, 0, none⟩) N cap) N (dl .u64 W N (V)) ∧ w.grownBy wr (some g) ∧ Blk1 wr w.heap.size 25 (.slice A m c)) (fun _ _ t _ => m - (intOf t).toNat)
  case atStart => exact ⟨0, 0, U, Nat.zero_le _, rfl, rfl, by omega, by rw [low_nought, Nat.zero_mul, Nat.zero_mul], rfl, ho1, hb2, X1⟩
  case round =>
    clear ho1 hb2 X1
    obtain ⟨j, cy, V, hjm, rfl, rfl, hcy, hV, hU, hown1, hgb1, X⟩ := hrel
    have hv1 := hv.gb hgb1 hA
    have jM : j ≤ 9223372036854775807 := by omega
    have c0 := X.cell
    by_cases hlt : j < m
    · have jm : (j : Int) < (m : Int) := by omega
      have jm1 : (j : Int) < (m : Int) + 1 := by omega
      obtain ⟨s1, s2⟩ := back_step hcy hV hU
      have cU := hown1.cellAt (k + j) (by omega)
      rw [dl_get _ _ _ _ _ (by omega)] at cU
      have hd := dg_lt W_pos (k + j) V
      have hD := dg_lt W_pos j v
      obtain ⟨d, hdd⟩ : ∃ d, d = dg W (k + j) V := ⟨_, rfl⟩
      rw [← hdd] at cU hd s1 s2
      have S1 := Lib.hid s1
      have S2 := Lib.hid s2
      clear hV hU hdd s1 s2
      go_wp2_with fail
      refine wp_regionS (S := fun w' => w'.cell? ⟨w.heap.size, 0, none⟩ = some (.slice A m c) ∧ w'.cell? ⟨g, k + j, none⟩ = some (.int .u64 (d : Nat))) [15] (by kernel_rfl) ⟨cellB (show Below wr.heap.size wr _ from (by with_reducible repeat (first | exact Below.refl _ _ | refine nxa ?_ _ | refine nxd ?_ _ | refine nxw ?_ | refine nx ?_ (by assumption)))) c0, cellB (show Below wr.heap.size wr _ from (by with_reducible repeat (first | exact Below.refl _ _ | refine nxa ?_ _ | refine nxd ?_ _ | refine nxw ?_ | refine nx ?_ (by assumption)))) cU⟩ (fun hHeld => ?_)
      have hbd1 : Below wr.heap.size wr wr.drew := nxw (Below.refl _ _)
      generalize wr.drew = wd1 at hHeld hbd1 ⊢
      refine anyS_take0 (i := 0) (v := ?_) (by simp only [List.getElem?_toArray, List.getElem?_cons_succ, List.getElem?_cons_zero]; rfl) (by kernel_rfl) (by kernel_rfl) (by kernel_rfl) (by rfl) (by exact fun _ _ _ h => h) (Or.inl ⟨by rfl, ?_⟩) (fun _ => by assumption) ?_
      rotate_left
      · intro w hSw; (try dsimp only at hSw); go_simp; try with_reducible rfl
      try simp only [Act.put, List.setIfInBounds_toArray, List.set_cons_zero, List.set_cons_succ]
      refine anyS_take0 (i := 1) (v := ?_) (by simp only [List.getElem?_toArray, List.getElem?_cons_succ, List.getElem?_cons_zero]; rfl) (by kernel_rfl) (by kernel_rfl) (by kernel_rfl) (by rfl) (by exact fun _ _ _ h => h) (Or.inl ⟨by rfl, ?_⟩) (fun _ => by assumption) ?_
      rotate_left
      · intro w hSw; (try dsimp only at hSw); go_simp; try with_reducible rfl
      try simp only [Act.put, List.setIfInBounds_toArray, List.set_cons_zero, List.set_cons_succ]
      refine anyS_take0 (i := 2) (v := ?_) (by simp only [List.getElem?_toArray, List.getElem?_cons_succ, List.getElem?_cons_zero]; rfl) (by kernel_rfl) (by kernel_rfl) (by kernel_rfl) (by rfl) (by exact fun _ _ _ h => h) (Or.inl ⟨by rfl, ?_⟩) (fun _ => by assumption) ?_
      rotate_left
      · intro w hSw; (try dsimp only at hSw); go_simp; try with_reducible rfl
      try simp only [Act.put, List.setIfInBounds_toArray, List.set_cons_zero, List.set_cons_succ]
      refine anyS_take0 (i := 3) (v := ?_) (by simp only [List.getElem?_toArray, List.getElem?_cons_succ, List.getElem?_cons_zero]; rfl) (by kernel_rfl) (by kernel_rfl) (by kernel_rfl) (by rfl) (by exact fun _ _ _ h => h) (Or.inl ⟨by rfl, ?_⟩) (fun _ => by assumption) ?_
      rotate_left
      · intro w hSw; (try dsimp only at hSw); go_simp; try with_reducible rfl
      try simp only [Act.put, List.setIfInBounds_toArray, List.set_cons_zero, List.set_cons_succ]
      refine anyS_take0 (i := 4) (v := ?_) (by simp only [List.getElem?_toArray, List.getElem?_cons_succ, List.getElem?_cons_zero]; rfl) (by kernel_rfl) (by kernel_rfl) (by kernel_rfl) (by rfl) (by exact fun _ _ _ h => h) (Or.inl ⟨by rfl, ?_⟩) (fun _ => by assumption) ?_
      rotate_left
      · intro w hSw; (try dsimp only at hSw); go_simp; try with_reducible rfl
      try simp only [Act.put, List.setIfInBounds_toArray, List.set_cons_zero, List.set_cons_succ]
      refine anyS_take (i := 5) (v := ?_) (by simp only [List.getElem?_toArray, List.getElem?_cons_succ, List.getElem?_cons_zero]; rfl) (by kernel_rfl) (by kernel_rfl) (by kernel_rfl) (by kernel_rfl) (by kernel_rfl) (by exact fun _ _ _ h => h) (Or.inl ⟨by rfl, ?_⟩) (by assumption) ?_
      rotate_left
      · intro w hSw; (try dsimp only at hSw); go_simp; try with_reducible rfl
      try simp only [Act.put, List.setIfInBounds_toArray, List.set_cons_zero, List.set_cons_succ]
      refine anyS_take (i := 6) (v := ?_) (by simp only [List.getElem?_toArray, List.getElem?_cons_succ, List.getElem?_cons_zero]; rfl) (by kernel_rfl) (by kernel_rfl) (by kernel_rfl) (by kernel_rfl) (by kernel_rfl) (by exact fun _ _ _ h => h) (Or.inl ⟨by rfl, ?_⟩) (by assumption) ?_
      rotate_left
      · intro w hSw; (try dsimp only at hSw); go_simp; try with_reducible rfl
      try simp only [Act.put, List.setIfInBounds_toArray, List.set_cons_zero, List.set_cons_succ]
      refine anyS_take0 (i := 7) (v := ?_) (by simp only [List.getElem?_toArray, List.getElem?_cons_succ, List.getElem?_cons_zero]; rfl) (by kernel_rfl) (by kernel_rfl) (by kernel_rfl) (by rfl) (by exact fun _ _ _ h => h) (Or.inl ⟨by rfl, ?_⟩) (fun _ => by assumption) ?_
      rotate_left
      · intro w hSw; (try dsimp only at hSw); go_simp; try with_reducible rfl
      try simp only [Act.put, List.setIfInBounds_toArray, List.set_cons_zero, List.set_cons_succ]
      refine anyS_take0 (i := 9) (v := ?_) (by simp only [List.getElem?_toArray, List.getElem?_cons_succ, List.getElem?_cons_zero]; rfl) (by kernel_rfl) (by kernel_rfl) (by kernel_rfl) (by rfl) (by exact fun _ _ _ h => h) (Or.inl ⟨by rfl, ?_⟩) (fun _ => by assumption) ?_
      rotate_left
      · intro w hSw; (try dsimp only at hSw); go_simp; try with_reducible rfl
      try simp only [Act.put, List.setIfInBounds_toArray, List.set_cons_zero, List.set_cons_succ]
      refine anyS_ready (rs := [8]) (by kernel_rfl) (by simp) (ReadyS.cons (by simp only [List.getElem?_toArray, List.getElem?_cons_succ, List.getElem?_cons_zero]; rfl) (fun K hK => ?_) ReadyS.nil)
      go_simp
      go_at_call 20
      (with_reducible refine (nat_Word A m c v j _ (hv1.to (by with_reducible repeat (first | exact Below.refl _ _ | refine nxa ?_ _ | refine nxd ?_ _ | refine nxw ?_ | refine nx ?_ (by assumption)))) jM).mono ?_)
      rintro e w2 ⟨rfl, hb2⟩
      have ho3 := own_below hown1 (show Below wr.heap.size wr w2 from (by with_reducible repeat (first | exact Below.refl _ _ | refine nxa ?_ _ | refine nxd ?_ _ | refine nxw ?_ | refine nx ?_ (by assumption))))
      have f3 := ho3.frozenAt (k + j)
      have c3 := cellB (show Below wr.heap.size wr w2 from (by with_reducible repeat (first | exact Below.refl _ _ | refine nxa ?_ _ | refine nxd ?_ _ | refine nxw ?_ | refine nx ?_ (by assumption)))) cU
      go_simp
      refine hK.out _ _ ⟨cellB (show Below wr.heap.size wr _ from (by with_reducible repeat (first | exact Below.refl _ _ | refine nxa ?_ _ | refine nxd ?_ _ | refine nxw ?_ | refine nx ?_ (by assumption)))) c0, cellB (show Below wr.heap.size wr _ from (by with_reducible repeat (first | exact Below.refl _ _ | refine nxa ?_ _ | refine nxd ?_ _ | refine nxw ?_ | refine nx ?_ (by assumption)))) cU⟩ (fun hHeld => ?_)
      clear hK K
      try simp only [Act.put, List.setIfInBounds_toArray, List.set_cons_zero, List.set_cons_succ]
      refine anyS_ready (rs := [10]) (by kernel_rfl) (by simp) (ReadyS.cons (by simp only [List.getElem?_toArray, List.getElem?_cons_succ, List.getElem?_cons_zero]; rfl) (fun K hK => ?_) ReadyS.nil)
      go_simp
      go_at_call 58
      (with_reducible refine (word_Add d _ cy _ hd hD (Nat.lt_of_le_of_lt hcy (by decide))).mono ?_)
      rintro e w4 ⟨rfl, rfl⟩
      go_simp
      refine hK.out _ _ ⟨cellB (show Below wr.heap.size wr _ from (by with_reducible repeat (first | exact Below.refl _ _ | refine nxa ?_ _ | refine nxd ?_ _ | refine nxw ?_ | refine nx ?_ (by assumption)))) c0, cellB (show Below wr.heap.size wr _ from (by with_reducible repeat (first | exact Below.refl _ _ | refine nxa ?_ _ | refine nxd ?_ _ | refine nxw ?_ | refine nx ?_ (by assumption)))) cU⟩ (fun hHeld => ?_)
      clear hK K
      try simp only [Act.put, List.setIfInBounds_toArray, List.set_cons_zero, List.set_cons_succ]
      refine anyS_take0 (i := 11) (v := ?_) (by simp only [List.getElem?_toArray, List.getElem?_cons_succ, List.getElem?_cons_zero]; rfl) (by kernel_rfl) (by kernel_rfl) (by kernel_rfl) (by rfl) (by exact fun _ _ _ h => h) (Or.inl ⟨by rfl, ?_⟩) (fun _ => by assumption) ?_
      rotate_left
      · intro w hSw; (try dsimp only at hSw); go_simp; try with_reducible rfl
      try simp only [Act.put, List.setIfInBounds_toArray, List.set_cons_zero, List.set_cons_succ]
      refine anyS_take0 (i := 12) (v := ?_) (by simp only [List.getElem?_toArray, List.getElem?_cons_succ, List.getElem?_cons_zero]; rfl) (by kernel_rfl) (by kernel_rfl) (by kernel_rfl) (by rfl) (by exact fun _ _ _ h => h) (Or.inl ⟨by rfl, ?_⟩) (fun _ => by assumption) ?_
      rotate_left
      · intro w hSw; (try dsimp only at hSw); go_simp; try with_reducible rfl
      try simp only [Act.put, List.setIfInBounds_toArray, List.set_cons_zero, List.set_cons_succ]
      refine anyS_take0 (i := 13) (v := ?_) (by simp only [List.getElem?_toArray, List.getElem?_cons_succ, List.getElem?_cons_zero]; rfl) (by kernel_rfl) (by kernel_rfl) (by kernel_rfl) (by rfl) (by exact fun _ _ _ h => h) (Or.inl ⟨by rfl, ?_⟩) (fun _ => by assumption) ?_
      rotate_left
      · intro w hSw; (try dsimp only at hSw); go_simp; try with_reducible rfl
      try simp only [Act.put, List.setIfInBounds_toArray, List.set_cons_zero, List.set_cons_succ]
      refine anyS_take0 (i := 14) (v := ?_) (by simp only [List.getElem?_toArray, List.getElem?_cons_succ, List.getElem?_cons_zero]; rfl) (by kernel_rfl) (by kernel_rfl) (by kernel_rfl) (by rfl) (by exact fun _ _ _ h => h) (Or.inl ⟨by rfl, ?_⟩) (fun _ => by assumption) ?_
      rotate_left
      · intro w hSw; (try dsimp only at hSw); go_simp; try with_reducible rfl
      try simp only [Act.put, List.setIfInBounds_toArray, List.set_cons_zero, List.set_cons_succ]
      refine anyS_ready (rs := [15]) (by kernel_rfl) (by simp) (ReadyS.last (by simp only [List.getElem?_toArray, List.getElem?_cons_succ, List.getElem?_cons_zero]; rfl) (by kernel_rfl) (fun K hK => ?_))
      go_simp
      refine hK.out _ _ ?_
      clear hK K
      try simp only [Act.put, List.setIfInBounds_toArray, List.set_cons_zero, List.set_cons_succ]
      refine anyS_take1 (i := 16) (v := ?_) (by simp only [List.getElem?_toArray, List.getElem?_cons_succ, List.getElem?_cons_zero]; rfl) (by kernel_rfl) (by kernel_rfl) (by kernel_rfl) (by rfl) (by kernel_rfl) (by exact fun _ _ _ h => h) (Or.inl ⟨by rfl, ?_⟩) ?_
      rotate_left
      · intro w hSw; (try dsimp only at hSw); go_simp; try with_reducible rfl
      try simp only [Act.put, List.setIfInBounds_toArray, List.set_cons_zero, List.set_cons_succ]
      refine anyS_done (by kernel_rfl) ?_ _
      have hsl := addLo_lt d (dg W j v) cy
      have hsh := addHi_le cy hd hD
      have ho := (ho3.stored (k + j) (.int .u64 (addLo d (dg W j v) cy : Nat))).1
      rw [dl_set W_pos (by omega) hsl] at ho
      have hgb2 := gb_set (gb_below hgb1 (show Below wr.heap.size wr w2 from (by with_reducible repeat (first | exact Below.refl _ _ | refine nxa ?_ _ | refine nxd ?_ _ | refine nxw ?_ | refine nx ?_ (by assumption))))) (p := ⟨g, k + j, none⟩) rfl (.int .u64 (addLo d (dg W j v) cy : Nat))
      have Y := (X.to (show Below wr.heap.size wr w2 from (by with_reducible repeat (first | exact Below.refl _ _ | refine nxa ?_ _ | refine nxd ?_ _ | refine nxw ?_ | refine nx ?_ (by assumption))))).far (p := ⟨g, k + j, none⟩) (by show w.heap.size ≠ g; omega) (.int .u64 (addLo d (dg W j v) cy : Nat))
      clear c3 f3 ho3 hb2 hown1 X c0 cU hgb1 hv1
      go_wp2_with fail
      go_roundw
      case rel => exact ⟨j + 1, addHi d (dg W j v) cy, _, by omega, by go_num, rfl, hsh, S1.out, S2.out, ho, hgb2, Y⟩
      case measure => simp [intOf]; omega
    · obtain rfl : j = m := by omega
      obtain ⟨b, s1, s2⟩ := back_end hv.lt hV hU
      obtain ⟨d, hdd⟩ : ∃ d, d = dg W (k + j) V := ⟨_, rfl⟩
      rw [← hdd] at s1 s2
      have S1 := Lib.hid s1
      have S2 := Lib.hid s2
      have jI : (j : Int) < (j : Int) + 1 := by omega
      have hdw : d < W := by rw [hdd]; exact dg_lt W_pos _ _
      have HD := Lib.hid hdd
      clear hV hU s1 s2 hdd hv1
      go_wp2_with fail
      refine (nat_Len A j c _).mono ?_
      rintro e w2 ⟨rfl, hb2⟩
      have ho3 := own_below hown1 hb2
      have f3 := ho3.frozenAt (k + j)
      have c3 := ho3.cellAt (k + j) (by omega)
      rw [dl_get _ _ _ _ _ (by omega), ← HD.out] at c3
      have zw : IntKind.u64.wrap ((d : Int) + (cy : Int)) = (((d + cy) % W : Nat) : Int) := wrap_add d cy
      have ho := (ho3.stored (k + j) (.int .u64 ((d + cy) % W : Nat))).1
      rw [dl_set W_pos (by omega) (Nat.mod_lt _ W_pos)] at ho
      have hgb2 := gb_set (gb_below hgb1 hb2) (p := ⟨g, k + j, none⟩) rfl (.int .u64 ((d + cy) % W : Nat))
      generalize (d + cy) % W = t at *
      clear ho3 hown1 hb2 hgb1 X c0
      go_wp2_with fail
      go_end0
      exact ⟨_, b, rfl, S1.out, S2.out, ho, hgb2⟩
end Go.Proofs.Ytflleaifmeiikaa
