/- The walks of actuarylaw02.Is; slices written out; the document's examples of layer 2. -/
import Derived.Test.YtflleaifmeiikaaNatLow
import Derived.WalkLawsBesides
namespace Go.Proofs.Ytflleaifmeiikaa
open Go.RowKit
/-- a cell that was there is there behind a call that turns nothing -/
theorem cellB {w w' : World} (hb : Below w.heap.size w w') {p : Addr} {v : Value} (h : w.cell? p = some v) : w'.cell? p = some v := (hb.cell (World.block_lt_of_cell? w p h)).trans h
theorem low_eq_succ {kk x y : Nat} (h : low W kk x = low W kk y) (hd : dg W kk x = dg W kk y) : low W (kk + 1) x = low W (kk + 1) y := by rw [← low_next, ← low_next, h, hd]
set_option maxRecDepth 100000 in
set_option maxHeartbeats 1000000 in
theorem law_Is (A : Option Addr) (n c x : Nat) (A' : Option Addr) (n' c' y : Nat) (w : World) (h : NatAt w A n c x) (h' : Dig .u64 W w A' n' c' y) (hn : n ≤ 17592186044416) :
    Calls Try.prog 44 #[.agg #[.slice A n c], .slice A' n' c'] w (Ret w (.bool (decide (n = n' ∧ x = y)))) := by
  have m1 := h.1.max
  have m2 := h.1.cap
  have m3 := h'.max
  have m4 := h'.cap
  have B0 := Blk1.new w 25 (.slice A n c)
  by_cases hnn : n = n'
  · subst hnn
    go_enter Try.func44, Try.ntmps44
    go_wp2_with fail
    refine (nat_Words A n c x _ (h.alloc _) hn).mono ?_
    rintro e w1 ⟨A1, c1, rfl, hown, hb1⟩
    obtain ⟨A2, c2, hv, hd1, hf1⟩ := own_form hown h.1.lt
    cases hv
    have X0 := B0.to hb1
    have c0 := X0.cell
    have hbel := nx (nxa (Below.refl w.heap.size w) _) hb1
    have m5 := hd1.max
    have m6 := hd1.cap
    clear hb1 hown hf1
    go_wp2_with fail
    refine (nat_Len A n c _).mono ?_
    rintro e w2 ⟨rfl, hb2⟩
    have hd2 := hd1.below hb2 (Nat.le_refl _)
    have X1 := X0.to hb2
    have hbel2 := nx hbel hb2
    clear hb2 hd1 X0 c0 hbel
    go_wp2_with fail
    go_loopw [6] (fun k wr => ∃ kk : Nat, kk ≤ n ∧ k = .int .i64 (kk : Int) ∧ low W kk x = low W kk y ∧ Below w.heap.size w wr ∧ Blk1 wr w.heap.size 25 (.slice A n c) ∧ Dig .u64 W wr A1 n c1 x) (fun k _ => n - (intOf k).toNat)
    case atStart => exact ⟨0, Nat.zero_le _, rfl, by rw [low_nought, low_nought], hbel2, X1, hd2⟩
    case round =>
      obtain ⟨kk, hk, rfl, hlow, hbel, X0, hd⟩ := hrel
      clear hd2 X1 hbel2
      by_cases hlt : kk < n
      · obtain ⟨g1, o1, rfl, hg1, hcell1⟩ := hd.at_ (by omega)
        obtain ⟨g2, o2, rfl, hg2, hcell2⟩ := h'.at_ (by omega)
        have k1 := hcell1 kk hlt
        have k2 := (hbel.cell (p := ⟨g2, o2 + kk, none⟩) hg2).trans (hcell2 kk hlt)
        have c0 := X0.cell
        have hx := h.below hbel (Nat.le_refl _)
        have kM : kk ≤ 9223372036854775807 := by omega
        have hkN : (kk : Int) < (n : Int) := by omega
        clear hcell1 hcell2
        by_cases hdd : dg W kk x = dg W kk y
        · have hB : (((dg W kk x : Nat) : Int) != (dg W kk y : Nat)) = false := by simp [hdd]
          have hB2 : (((dg W kk x : Nat) : Int) != (dg W kk x : Nat)) = false := by simp
          have HL := Lib.hid (low_eq_succ hlow hdd)
          have HD := Lib.hid hdd
          clear hlow hdd
          go_wp2_with fail
          go_region_held3 (fun w' => w'.cell? ⟨w.heap.size, 0, none⟩ = some (.slice A n c) ∧ w'.cell? ⟨g1, o1 + kk, none⟩ = some (.int .u64 (dg W kk x : Nat)) ∧ w'.cell? ⟨g2, o2 + kk, none⟩ = some (.int .u64 (dg W kk y : Nat))) (first | (exact And.imp (cellB hb2) (And.imp (cellB hb2) (cellB hb2)) (by assumption)) | go_keep)
            (first | (go_at_call 20; (with_reducible refine (nat_Word A n c x kk _ hx.drew kM).mono ?_); rintro e w3 ⟨rfl, hb2⟩))
          have X1 := X0.drew.to hb2
          have hd2 := hd.drew.below hb2 (Nat.le_refl _)
          have hbel2 := nx (nxd hbel 1) hb2
          clear hb2 hd X0 hbel k1 k2 c0
          go_wp2_with fail
          go_roundw
          case rel => exact ⟨kk + 1, by omega, by go_num, HL.out, hbel2, X1, hd2⟩
          case measure => simp [intOf]; omega
        · have hB : (((dg W kk x : Nat) : Int) != (dg W kk y : Nat)) = true := by rw [bne_iff_ne]; omega
          have HF := Lib.hid (show decide (n = n ∧ x = y) = false by
            simp only [decide_eq_false_iff_not, not_and]
            intro _ e; exact hdd (by rw [e]))
          clear hlow hdd
          go_wp2_with fail
          go_quiet (fail)
          go_wp2_with fail
          go_ret
          exact ⟨by rw [HF.out]; rfl, nxd hbel _⟩
      · obtain rfl : kk = n := by omega
        rw [low_all h.1.lt, low_all h'.lt] at hlow
        have HF := Lib.hid hlow
        clear hlow
        go_wp2_with fail
        go_ret
        exact ⟨retb (by have := HF.out; simp [this]), hbel⟩
  · have hB : (((n : Nat) : Int) != (n' : Nat)) = true := by rw [bne_iff_ne]; omega
    have HF := Lib.hid (show decide (n = n' ∧ x = y) = false by simp [hnn])
    clear hnn
    go_enter Try.func44, Try.ntmps44
    go_wp2_with fail
    refine (nat_Words A n c x _ (h.alloc _) hn).mono ?_
    rintro e w1 ⟨A1, c1, rfl, hown, hb1⟩
    have hbel := nx (nxa (Below.refl w.heap.size w) _) hb1
    clear hb1 hown
    go_wp2_with fail
    go_ret
    exact ⟨by rw [HF.out]; rfl, hbel⟩
/-! ### slices written out -/
theorem Dig.lit (w : World) (e : TypeId) (l : List Nat) (hl : ∀ d ∈ l, d < W) (hn : l.length ≤ 9223372036854775807) : Dig .u64 W (w.alloc (.cells (l.map fun d : Nat => Value.int .u64 (d : Int)).toArray e)) (some ⟨w.heap.size, 0, none⟩) l.length l.length (val W l) := by
  refine ⟨val_lt W_pos hl, Nat.le_refl _, hn, fun _ => ⟨w.heap.size, 0, rfl, by simp, fun j hj => ?_⟩⟩
  rw [Nat.zero_add, World.cell?_alloc_new, dg_val W_pos hl hj]
  simp [List.getD_eq_getElem?_getD, hj]
end Go.Proofs.Ytflleaifmeiikaa
