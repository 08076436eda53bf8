/- The walk of quot.DivMod, first part: by a number of at most one word; of a number that is below.
   The walk of quot.DivMod, main path: of a number that is not below, by one of two words or more.
   DivMod of every divisor; Div, Mod, Divides. -/
import Derived.Deep.DeepCutAuto
import Derived.Test.YthjokpnihoigeaaKH
import Derived.Test.YthjokpnihoigeaaKD
import Derived.Test.YthjokpnihoigeaaKB
set_option linter.unusedVariables false
set_option linter.unusedSimpArgs false
namespace Go.Proofs.Ythjokpnihoigeaa
open Go.RowKit
set_option maxRecDepth 100000
def RetDiv (w : World) (q r : Nat) (b : Bool) (e : Ending) (w' : World) : Prop := ∃ A n c A' n' c', e = .returned (.tuple #[.agg #[.slice A n c], .agg #[.slice A' n' c'], .bool b]) ∧ NatAt w' A n c q ∧ NatAt w' A' n' c' r ∧ Below w.heap.size w w'
def OneD (w0 : World) (T x : Nat) (p : Value) (w : World) : Prop := ∃ g A n c, p = .pointer (some ⟨g, 0, none⟩) ∧ Loc w g T A n c x ∧ Below w0.heap.size w0 w
theorem dig_lit1 (w : World) (g : Nat) (e : TypeId) (d : Nat) (hg : w.heap.size = g) (hd : d < W) : Dig .u64 W (w.alloc (.cells #[.int .u64 (d : Nat)] e)) (some ⟨g, 0, none⟩) 1 1 d := by
  subst hg
  have := Dig.lit w e [d] (by simpa using hd) (by simp)
  simpa [val] using this
set_option maxHeartbeats 4000000 in
theorem quot_DivMod_zero (A : Option Addr) (n c x : Nat) (A' : Option Addr) (n' c' y : Nat) (w : World) (h : NatAt w A n c x) (h' : NatAt w A' n' c' y) (hn : n ≤ 17592186044416) (hy0 : y = 0) :
    Calls Try.prog 49 #[.agg #[.slice A n c], .agg #[.slice A' n' c']] w (RetDiv w 0 0 false) := by
  have hn' : n' ≤ 1 := by have := h'.zero_iff.1 hy0; omega
  have hyw : y < W := by have := h'.lt; have h2 := Nat.pow_le_pow_right W_pos hn'; rw [Nat.pow_one] at h2; omega
  have HD := Lib.hid (show dg W 0 y = y by unfold dg; rw [Nat.pow_zero, Nat.div_one, Nat.mod_eq_of_lt hyw])
  have hnI : (n' : Int) ≤ 1 := by omega
  subst hy0
  have B0 := (((Blk1.new w 25 (.slice A n c)).alloc (.cells #[.slice A' n' c'] 25)).alloc (.cells #[.slice none 0 0] 25)).alloc (.cells #[.slice none 0 0] 25)
  have B1 := ((Blk1.new (w.alloc (.cells #[.slice A n c] 25)) 25 (.slice A' n' c')).alloc (.cells #[.slice none 0 0] 25)).alloc (.cells #[.slice none 0 0] 25)
  have B2 := (Blk1.new ((w.alloc (.cells #[.slice A n c] 25)).alloc (.cells #[.slice A' n' c'] 25)) 25 (.slice none 0 0)).alloc (.cells #[.slice none 0 0] 25)
  have B3 := Blk1.new (((w.alloc (.cells #[.slice A n c] 25)).alloc (.cells #[.slice A' n' c'] 25)).alloc (.cells #[.slice none 0 0] 25)) 25 (.slice none 0 0)
  simp only [World.size_alloc] at B1 B2 B3
  have hbe : Below w.heap.size w ((((w.alloc (.cells #[.slice A n c] 25)).alloc (.cells #[.slice A' n' c'] 25)).alloc (.cells #[.slice none 0 0] 25)).alloc (.cells #[.slice none 0 0] 25)) := bW
  go_enter Try.func49, Try.ntmps49
  go_wp2_with fail
  generalize ((((w.alloc (.cells #[.slice A n c] 25)).alloc (.cells #[.slice A' n' c'] 25)).alloc (.cells #[.slice none 0 0] 25)).alloc (.cells #[.slice none 0 0] 25)) = we at B0 B1 B2 B3 hbe ⊢
  have s0 := B3.lt
  have hx := h.to hbe
  have hy := h'.to hbe
  refine (nat_Len A' n' c' _).mono ?_
  rintro e w1 ⟨rfl, hb1⟩
  replace B0 := B0.to hb1
  replace B1 := B1.to hb1
  replace B2 := B2.to hb1
  replace B3 := B3.to hb1
  replace hbe := nx hbe hb1
  replace hx := hx.to hb1
  replace hy := hy.to hb1
  clear hb1
  go_wp2_with fail
  go_cut [7, 8, 9] (fun p a b wc => OneD w1 25 0 p wc ∧ a = .int .u64 (0 : Nat) ∧ b = .bool false)
  case first =>
    have CB0 := (show Blk1 w1 _ _ _ from B0.to bW).cell
    have CB1 := (show Blk1 w1 _ _ _ from B1.to bW).cell
    have KP1 : ∀ w', Below w1.heap.size w1 w' → w'.cell? ⟨w.heap.size, 0, none⟩ = some (.slice A n c) ∧ w'.cell? ⟨w.heap.size + 1, 0, none⟩ = some (.slice A' n' c') ∧ True := fun w' hw' => ⟨cellB hw' CB0, cellB hw' CB1, trivial⟩
    refine wp_regionT (S := fun w' => w'.cell? ⟨w.heap.size, 0, none⟩ = some (.slice A n c) ∧ w'.cell? ⟨w.heap.size + 1, 0, none⟩ = some (.slice A' n' c') ∧ True) [] kR (KP1 _ bW) (fun hHeld => ?_)
    have hbd1 : Below w1.heap.size w1 w1.drew := nxw (Below.refl _ _)
    generalize w1.drew = wd1 at hHeld hbd1 ⊢
    refine anyT_take (i := 0) (v := ?_) gO kR kR kR kR (by exact fun _ _ _ h => h) (Or.inl ⟨by rfl, ?_⟩) (by assumption) ?_
    rotate_left
    · intro w hSw; (try dsimp only at hSw); go_simp; try with_reducible rfl
    try simp only [Act.put, sX, sY, sZ]
    refine anyT_take (i := 1) (v := ?_) gO kR kR kR kR (by exact fun _ _ _ h => h) (Or.inl ⟨by rfl, ?_⟩) (by assumption) ?_
    rotate_left
    · intro w hSw; (try dsimp only at hSw); go_simp; try with_reducible rfl
    try simp only [Act.put, sX, sY, sZ]
    refine anyT_ready (rs := [2, 8]) kR (by simp) (ReadyT.cons gO (fun K hK => ?_) (ReadyT.cons gO (fun K hK => ?_) ReadyT.nil))
    · skip
      go_simp
      go_at_call 32
      refine (nat_Word _ _ _ _ 0 _ (hy.to bW) (by decide)).mono ?_
      rw [HD.out]
      rintro e w2 ⟨rfl, hb2⟩
      go_simp
      refine hK.out _ _ (KP1 _ bW) (fun hHeld => ?_)
      clear hK K
      try simp only [Act.put, sX, sY, sZ]
      refine anyT_ready (rs := [3, 8]) kR (by simp) (ReadyT.cons gO (fun K hK => ?_) (ReadyT.cons gO (fun K hK => ?_) ReadyT.nil))
      · skip
        go_simp
        go_at_call 58
        refine (quot_ByWord_no _ _ _ _).mono ?_
        rintro e w3 ⟨A3, n3, c3, rfl, h3, hb3⟩
        go_simp
        refine hK.out _ _ (KP1 _ bW) (fun hHeld => ?_)
        clear hK K
        try simp only [Act.put, sX, sY, sZ]
        refine anyT_take (i := 4) (v := ?_) gO kR kR kR kR (by exact fun _ _ _ h => h) (Or.inl ⟨by rfl, ?_⟩) (by assumption) ?_
        rotate_left
        · intro w hSw; (try dsimp only at hSw); go_simp; try with_reducible rfl
        try simp only [Act.put, sX, sY, sZ]
        refine anyT_take (i := 5) (v := ?_) gO kR kR kR kR (by exact fun _ _ _ h => h) (Or.inl ⟨by rfl, ?_⟩) (by assumption) ?_
        rotate_left
        · intro w hSw; (try dsimp only at hSw); go_simp; try with_reducible rfl
        try simp only [Act.put, sX, sY, sZ]
        refine anyT_take (i := 6) (v := ?_) gO kR kR kR kR (by exact fun _ _ _ h => h) (Or.inl ⟨by rfl, ?_⟩) (by assumption) ?_
        rotate_left
        · intro w hSw; (try dsimp only at hSw); go_simp; try with_reducible rfl
        try simp only [Act.put, sX, sY, sZ]
        refine anyT_take (i := 7) (v := ?_) gO kR kR kR kR (by exact fun _ _ _ h => h) (Or.inl ⟨by rfl, ?_⟩) (by assumption) ?_
        rotate_left
        · intro w hSw; (try dsimp only at hSw); go_simp; try with_reducible rfl
        try simp only [Act.put, sX, sY, sZ]
        refine anyT_ready (rs := [8]) kR (by simp) (ReadyT.cons gO (fun K hK => ?_) ReadyT.nil)
        go_simp
        have X8 := Blk1.newAt w3 w3.heap.size 25 (.slice none 0 0) rfl
        have X8g : w1.heap.size ≤ w3.heap.size := (show Below w1.heap.size w1 w3 from bW).size
        have hbwa2 := nxa (Below.refl w3.heap.size w3) (.cells #[.slice none 0 0] 25)
        generalize w3.alloc (.cells #[.slice none 0 0] 25) = wa2 at X8 hbwa2 ⊢
        refine hK.out _ _ (KP1 _ bW) (fun hHeld => ?_)
        clear hK K
        try simp only [Act.put, sX, sY, sZ]
        refine anyT_ready (rs := [9]) kR (by simp) (ReadyT.cons gO (fun K hK => ?_) ReadyT.nil)
        replace X8 := (show Blk1 wa2 _ _ _ from X8.to bW)
        rw [if_pos (by rfl)]
        refine wp_store_nat _ _ rfl rfl rfl X8 ?_
        replace h3 := (show NatAt wa2 _ _ _ _ from h3.to bW).put_ X8.cell (.slice A3 n3 c3)
        have hbws3 := nxs (show Below w1.heap.size w1 wa2 from bW) (p := ⟨w3.heap.size, 0, none⟩) X8g (.slice A3 n3 c3)
        replace X8 := X8.set (.slice A3 n3 c3)
        generalize wa2.setCell ⟨w3.heap.size, 0, none⟩ (.slice A3 n3 c3) = ws3 at X8 h3 hbws3 ⊢
        refine hK.out _ _ (KP1 _ bW) (fun hHeld => ?_)
        clear hK K
        try simp only [Act.put, sX, sY, sZ]
        refine anyT_take (i := 10) (v := ?_) gO kR kR kR kR (by exact fun _ _ _ h => h) (Or.inl ⟨by rfl, ?_⟩) (by assumption) ?_
        rotate_left
        · intro w hSw; (try dsimp only at hSw); go_simp; try with_reducible rfl
        try simp only [Act.put, sX, sY, sZ]
        refine anyT_take (i := 11) (v := ?_) gO kR kR kR kR (by exact fun _ _ _ h => h) (Or.inl ⟨by rfl, ?_⟩) (by assumption) ?_
        rotate_left
        · intro w hSw; (try dsimp only at hSw); go_simp; try with_reducible rfl
        try simp only [Act.put, sX, sY, sZ]
        refine anyT_done kR ?_ _
        go_wp2_with fail
        go_meet
        exact ⟨⟨_, A3, n3, c3, rfl, ⟨X8, h3⟩, bW⟩, rfl, rfl⟩
      · skip
        go_simp
        have X8 := Blk1.newAt w2 w2.heap.size 25 (.slice none 0 0) rfl
        have X8g : w1.heap.size ≤ w2.heap.size := (show Below w1.heap.size w1 w2 from bW).size
        have hbwa4 := nxa (Below.refl w2.heap.size w2) (.cells #[.slice none 0 0] 25)
        generalize w2.alloc (.cells #[.slice none 0 0] 25) = wa4 at X8 hbwa4 ⊢
        refine hK.out _ _ (KP1 _ bW) (fun hHeld => ?_)
        clear hK K
        try simp only [Act.put, sX, sY, sZ]
        refine anyT_ready (rs := [3]) kR (by simp) (ReadyT.cons gO (fun K hK => ?_) ReadyT.nil)
        go_simp
        go_at_call 58
        refine (quot_ByWord_no _ _ _ _).mono ?_
        rintro e w3 ⟨A3, n3, c3, rfl, h3, hb3⟩
        go_simp
        refine hK.out _ _ (KP1 _ bW) (fun hHeld => ?_)
        clear hK K
        try simp only [Act.put, sX, sY, sZ]
        refine anyT_take (i := 4) (v := ?_) gO kR kR kR kR (by exact fun _ _ _ h => h) (Or.inl ⟨by rfl, ?_⟩) (by assumption) ?_
        rotate_left
        · intro w hSw; (try dsimp only at hSw); go_simp; try with_reducible rfl
        try simp only [Act.put, sX, sY, sZ]
        refine anyT_take (i := 5) (v := ?_) gO kR kR kR kR (by exact fun _ _ _ h => h) (Or.inl ⟨by rfl, ?_⟩) (by assumption) ?_
        rotate_left
        · intro w hSw; (try dsimp only at hSw); go_simp; try with_reducible rfl
        try simp only [Act.put, sX, sY, sZ]
        refine anyT_take (i := 6) (v := ?_) gO kR kR kR kR (by exact fun _ _ _ h => h) (Or.inl ⟨by rfl, ?_⟩) (by assumption) ?_
        rotate_left
        · intro w hSw; (try dsimp only at hSw); go_simp; try with_reducible rfl
        try simp only [Act.put, sX, sY, sZ]
        refine anyT_take (i := 7) (v := ?_) gO kR kR kR kR (by exact fun _ _ _ h => h) (Or.inl ⟨by rfl, ?_⟩) (by assumption) ?_
        rotate_left
        · intro w hSw; (try dsimp only at hSw); go_simp; try with_reducible rfl
        try simp only [Act.put, sX, sY, sZ]
        refine anyT_ready (rs := [9]) kR (by simp) (ReadyT.cons gO (fun K hK => ?_) ReadyT.nil)
        replace X8 := (show Blk1 w3 _ _ _ from X8.to bW)
        rw [if_pos (by rfl)]
        refine wp_store_nat _ _ rfl rfl rfl X8 ?_
        replace h3 := (show NatAt w3 _ _ _ _ from h3.to bW).put_ X8.cell (.slice A3 n3 c3)
        have hbws5 := nxs (show Below w1.heap.size w1 w3 from bW) (p := ⟨w2.heap.size, 0, none⟩) X8g (.slice A3 n3 c3)
        replace X8 := X8.set (.slice A3 n3 c3)
        generalize w3.setCell ⟨w2.heap.size, 0, none⟩ (.slice A3 n3 c3) = ws5 at X8 h3 hbws5 ⊢
        refine hK.out _ _ (KP1 _ bW) (fun hHeld => ?_)
        clear hK K
        try simp only [Act.put, sX, sY, sZ]
        refine anyT_take (i := 10) (v := ?_) gO kR kR kR kR (by exact fun _ _ _ h => h) (Or.inl ⟨by rfl, ?_⟩) (by assumption) ?_
        rotate_left
        · intro w hSw; (try dsimp only at hSw); go_simp; try with_reducible rfl
        try simp only [Act.put, sX, sY, sZ]
        refine anyT_take (i := 11) (v := ?_) gO kR kR kR kR (by exact fun _ _ _ h => h) (Or.inl ⟨by rfl, ?_⟩) (by assumption) ?_
        rotate_left
        · intro w hSw; (try dsimp only at hSw); go_simp; try with_reducible rfl
        try simp only [Act.put, sX, sY, sZ]
        refine anyT_done kR ?_ _
        go_wp2_with fail
        go_meet
        exact ⟨⟨_, A3, n3, c3, rfl, ⟨X8, h3⟩, bW⟩, rfl, rfl⟩
    · skip
      go_simp
      have X8 := Blk1.newAt wd1 wd1.heap.size 25 (.slice none 0 0) rfl
      have X8g : w1.heap.size ≤ wd1.heap.size := (show Below w1.heap.size w1 wd1 from bW).size
      have hbwa6 := nxa (Below.refl wd1.heap.size wd1) (.cells #[.slice none 0 0] 25)
      generalize wd1.alloc (.cells #[.slice none 0 0] 25) = wa6 at X8 hbwa6 ⊢
      refine hK.out _ _ (KP1 _ bW) (fun hHeld => ?_)
      clear hK K
      try simp only [Act.put, sX, sY, sZ]
      refine anyT_ready (rs := [2]) kR (by simp) (ReadyT.cons gO (fun K hK => ?_) ReadyT.nil)
      go_simp
      go_at_call 32
      refine (nat_Word _ _ _ _ 0 _ (hy.to bW) (by decide)).mono ?_
      rw [HD.out]
      rintro e w2 ⟨rfl, hb2⟩
      go_simp
      refine hK.out _ _ (KP1 _ bW) (fun hHeld => ?_)
      clear hK K
      try simp only [Act.put, sX, sY, sZ]
      refine anyT_ready (rs := [3]) kR (by simp) (ReadyT.cons gO (fun K hK => ?_) ReadyT.nil)
      go_simp
      go_at_call 58
      refine (quot_ByWord_no _ _ _ _).mono ?_
      rintro e w3 ⟨A3, n3, c3, rfl, h3, hb3⟩
      go_simp
      refine hK.out _ _ (KP1 _ bW) (fun hHeld => ?_)
      clear hK K
      try simp only [Act.put, sX, sY, sZ]
      refine anyT_take (i := 4) (v := ?_) gO kR kR kR kR (by exact fun _ _ _ h => h) (Or.inl ⟨by rfl, ?_⟩) (by assumption) ?_
      rotate_left
      · intro w hSw; (try dsimp only at hSw); go_simp; try with_reducible rfl
      try simp only [Act.put, sX, sY, sZ]
      refine anyT_take (i := 5) (v := ?_) gO kR kR kR kR (by exact fun _ _ _ h => h) (Or.inl ⟨by rfl, ?_⟩) (by assumption) ?_
      rotate_left
      · intro w hSw; (try dsimp only at hSw); go_simp; try with_reducible rfl
      try simp only [Act.put, sX, sY, sZ]
      refine anyT_take (i := 6) (v := ?_) gO kR kR kR kR (by exact fun _ _ _ h => h) (Or.inl ⟨by rfl, ?_⟩) (by assumption) ?_
      rotate_left
      · intro w hSw; (try dsimp only at hSw); go_simp; try with_reducible rfl
      try simp only [Act.put, sX, sY, sZ]
      refine anyT_take (i := 7) (v := ?_) gO kR kR kR kR (by exact fun _ _ _ h => h) (Or.inl ⟨by rfl, ?_⟩) (by assumption) ?_
      rotate_left
      · intro w hSw; (try dsimp only at hSw); go_simp; try with_reducible rfl
      try simp only [Act.put, sX, sY, sZ]
      refine anyT_ready (rs := [9]) kR (by simp) (ReadyT.cons gO (fun K hK => ?_) ReadyT.nil)
      replace X8 := (show Blk1 w3 _ _ _ from X8.to bW)
      rw [if_pos (by rfl)]
      refine wp_store_nat _ _ rfl rfl rfl X8 ?_
      replace h3 := (show NatAt w3 _ _ _ _ from h3.to bW).put_ X8.cell (.slice A3 n3 c3)
      have hbws7 := nxs (show Below w1.heap.size w1 w3 from bW) (p := ⟨wd1.heap.size, 0, none⟩) X8g (.slice A3 n3 c3)
      replace X8 := X8.set (.slice A3 n3 c3)
      generalize w3.setCell ⟨wd1.heap.size, 0, none⟩ (.slice A3 n3 c3) = ws7 at X8 h3 hbws7 ⊢
      refine hK.out _ _ (KP1 _ bW) (fun hHeld => ?_)
      clear hK K
      try simp only [Act.put, sX, sY, sZ]
      refine anyT_take (i := 10) (v := ?_) gO kR kR kR kR (by exact fun _ _ _ h => h) (Or.inl ⟨by rfl, ?_⟩) (by assumption) ?_
      rotate_left
      · intro w hSw; (try dsimp only at hSw); go_simp; try with_reducible rfl
      try simp only [Act.put, sX, sY, sZ]
      refine anyT_take (i := 11) (v := ?_) gO kR kR kR kR (by exact fun _ _ _ h => h) (Or.inl ⟨by rfl, ?_⟩) (by assumption) ?_
      rotate_left
      · intro w hSw; (try dsimp only at hSw); go_simp; try with_reducible rfl
      try simp only [Act.put, sX, sY, sZ]
      refine anyT_done kR ?_ _
      go_wp2_with fail
      go_meet
      exact ⟨⟨_, A3, n3, c3, rfl, ⟨X8, h3⟩, bW⟩, rfl, rfl⟩
  case rest =>
    rename World => w4
    obtain ⟨⟨g8, A3, n3, c3, rfl, ⟨L8, h3⟩, hb4⟩, rfl, rfl⟩ := hcut
    replace B2 := B2.to hb4
    replace B3 := B3.to hb4
    replace hbe := nx hbe hb4
    clear hb4 B0 B1
    have hrw : 0 < W := W_pos
    go_wp2_with fail
    have CL8 := (show Blk1 w4 _ _ _ from L8.to bW).cell
    have KP2 : ∀ w', Below w4.heap.size w4 w' → w'.cell? ⟨g8, 0, none⟩ = some (.slice A3 n3 c3) ∧ True := fun w' hw' => ⟨cellB hw' CL8, trivial⟩
    refine wp_regionS (S := fun w' => w'.cell? ⟨g8, 0, none⟩ = some (.slice A3 n3 c3) ∧ True) [5] kR (KP2 _ bW) (fun hHeld => ?_)
    have hbd8 : Below w4.heap.size w4 w4.drew := nxw (Below.refl _ _)
    generalize w4.drew = wd8 at hHeld hbd8 ⊢
    refine anyS_take (i := 0) (v := ?_) gO kR kR kR kR kR (by exact fun _ _ _ h => h) (Or.inl ⟨by rfl, ?_⟩) (by assumption) ?_
    rotate_left
    · intro w hSw; (try dsimp only at hSw); go_simp; try with_reducible rfl
    try simp only [Act.put, sX, sY, sZ]
    refine anyS_take0 (i := 1) (v := ?_) gO kR kR kR (by rfl) (by exact fun _ _ _ h => h) (Or.inl ⟨by rfl, ?_⟩) (fun _ => by assumption) ?_
    rotate_left
    · intro w hSw; (try dsimp only at hSw); go_simp; try with_reducible rfl
    try simp only [Act.put, sX, sY, sZ]
    refine anyS_take0 (i := 4) (v := ?_) gO kR kR kR (by rfl) (by exact fun _ _ _ h => h) (Or.inl ⟨by rfl, ?_⟩) (fun _ => by assumption) ?_
    rotate_left
    · intro w hSw; (try dsimp only at hSw); go_simp; try with_reducible rfl
    try simp only [Act.put, sX, sY, sZ]
    refine anyS_ready (rs := [2]) kR (by simp) (ReadyS.cons gO (fun K hK => ?_) ReadyS.nil)
    go_simp
    refine hK.out _ _ (KP2 _ bW) (fun hHeld => ?_)
    clear hK K
    try simp only [Act.put, sX, sY, sZ]
    refine anyS_ready (rs := [3]) kR (by simp) (ReadyS.cons gO (fun K hK => ?_) ReadyS.nil)
    go_simp
    go_at_call 10
    refine (nat_Of _ _ _ _ _ (dig_lit1 _ _ _ 0 (by rfl) hrw) (by decide)).mono ?_
    rintro e w6 ⟨A6, n6, c6, rfl, h6, hb6, m6⟩
    replace hb6 := nx (nxa (Below.refl _ _) _) hb6
    have Y2 := (show Blk1 w6 _ _ _ from B2.to bW)
    have Y3 := (show Blk1 w6 _ _ _ from B3.to bW)
    have c2 := Y2.cell
    have f2 := Y2.free
    go_simp
    refine hK.out _ _ (KP2 _ bW) (fun hHeld => ?_)
    clear hK K
    try simp only [Act.put, sX, sY, sZ]
    refine anyS_ready (rs := [5]) kR (by simp) (ReadyS.last gO kR (fun K hK => ?_))
    go_simp
    refine hK.out _ _ ?_
    clear hK K
    try simp only [Act.put, sX, sY, sZ]
    refine anyS_ready (rs := [6]) kR (by simp) (ReadyS.last gO kR (fun K hK => ?_))
    have Z3 := Y3.far (p := ⟨w.heap.size + 1 + 1, 0, none⟩) (by show _ ≠ w.heap.size + 1 + 1; omega) (.slice A3 n3 c3)
    have c3' := Z3.cell
    have f3' := Z3.free
    go_simp
    refine hK.out _ _ ?_
    clear hK K
    try simp only [Act.put, sX, sY, sZ]
    refine anyS_take1 (i := 7) (v := ?_) gO kR kR kR (by rfl) kR (by exact fun _ _ _ h => h) (Or.inl ⟨by rfl, ?_⟩) ?_
    rotate_left
    · intro w hSw; (try dsimp only at hSw); go_simp; try with_reducible rfl
    try simp only [Act.put, sX, sY, sZ]
    refine anyS_done kR ?_ _
    obtain ⟨l1, l2, hb⟩ := store2 (w0 := w) (nx hbe (show Below w4.heap.size w4 w6 from bW)) (by show w.heap.size ≤ w.heap.size + 1 + 1; omega) (by show w.heap.size ≤ w.heap.size + 1 + 1 + 1; omega) (by omega) Y2 Y3 (h3.to (show Below w4.heap.size w4 w6 from bW)) h6
    have e1 := l1.1.cell
    have e2 := l2.1.cell
    go_wp2_with fail
    exact bodyPost_ret (v := .tuple #[.agg #[.slice A3 n3 c3], .agg #[.slice A6 n6 c6], .bool false]) (by simp [results, Try.results49, go_sem, e1, e2]) rfl ⟨_, _, _, _, _, _, rfl, l1.2, l2.2, hb⟩
set_option maxHeartbeats 4000000 in
theorem quot_DivMod_word (A : Option Addr) (n c x : Nat) (A' : Option Addr) (n' c' y : Nat) (w : World) (h : NatAt w A n c x) (h' : NatAt w A' n' c' y) (hn : n ≤ 17592186044416) (hn' : n' ≤ 1) (hy0 : 0 < y) :
    Calls Try.prog 49 #[.agg #[.slice A n c], .agg #[.slice A' n' c']] w (RetDiv w (x / y) (x % y) true) := by
  have hyw : y < W := by have := h'.lt; have h2 := Nat.pow_le_pow_right W_pos hn'; rw [Nat.pow_one] at h2; omega
  have HD := Lib.hid (show dg W 0 y = y by unfold dg; rw [Nat.pow_zero, Nat.div_one, Nat.mod_eq_of_lt hyw])
  have hnI : (n' : Int) ≤ 1 := by omega
  have B0 := (((Blk1.new w 25 (.slice A n c)).alloc (.cells #[.slice A' n' c'] 25)).alloc (.cells #[.slice none 0 0] 25)).alloc (.cells #[.slice none 0 0] 25)
  have B1 := ((Blk1.new (w.alloc (.cells #[.slice A n c] 25)) 25 (.slice A' n' c')).alloc (.cells #[.slice none 0 0] 25)).alloc (.cells #[.slice none 0 0] 25)
  have B2 := (Blk1.new ((w.alloc (.cells #[.slice A n c] 25)).alloc (.cells #[.slice A' n' c'] 25)) 25 (.slice none 0 0)).alloc (.cells #[.slice none 0 0] 25)
  have B3 := Blk1.new (((w.alloc (.cells #[.slice A n c] 25)).alloc (.cells #[.slice A' n' c'] 25)).alloc (.cells #[.slice none 0 0] 25)) 25 (.slice none 0 0)
  simp only [World.size_alloc] at B1 B2 B3
  have hbe : Below w.heap.size w ((((w.alloc (.cells #[.slice A n c] 25)).alloc (.cells #[.slice A' n' c'] 25)).alloc (.cells #[.slice none 0 0] 25)).alloc (.cells #[.slice none 0 0] 25)) := bW
  go_enter Try.func49, Try.ntmps49
  go_wp2_with fail
  generalize ((((w.alloc (.cells #[.slice A n c] 25)).alloc (.cells #[.slice A' n' c'] 25)).alloc (.cells #[.slice none 0 0] 25)).alloc (.cells #[.slice none 0 0] 25)) = we at B0 B1 B2 B3 hbe ⊢
  have s0 := B3.lt
  have hx := h.to hbe
  have hy := h'.to hbe
  refine (nat_Len A' n' c' _).mono ?_
  rintro e w1 ⟨rfl, hb1⟩
  replace B0 := B0.to hb1
  replace B1 := B1.to hb1
  replace B2 := B2.to hb1
  replace B3 := B3.to hb1
  replace hbe := nx hbe hb1
  replace hx := hx.to hb1
  replace hy := hy.to hb1
  clear hb1
  go_wp2_with fail
  go_cut [7, 8, 9] (fun p a b wc => OneD w1 25 (x / y) p wc ∧ a = .int .u64 ((x % y) : Nat) ∧ b = .bool true)
  case first =>
    have CB0 := (show Blk1 w1 _ _ _ from B0.to bW).cell
    have CB1 := (show Blk1 w1 _ _ _ from B1.to bW).cell
    have KP1 : ∀ w', Below w1.heap.size w1 w' → w'.cell? ⟨w.heap.size, 0, none⟩ = some (.slice A n c) ∧ w'.cell? ⟨w.heap.size + 1, 0, none⟩ = some (.slice A' n' c') ∧ True := fun w' hw' => ⟨cellB hw' CB0, cellB hw' CB1, trivial⟩
    refine wp_regionT (S := fun w' => w'.cell? ⟨w.heap.size, 0, none⟩ = some (.slice A n c) ∧ w'.cell? ⟨w.heap.size + 1, 0, none⟩ = some (.slice A' n' c') ∧ True) [] kR (KP1 _ bW) (fun hHeld => ?_)
    have hbd1 : Below w1.heap.size w1 w1.drew := nxw (Below.refl _ _)
    generalize w1.drew = wd1 at hHeld hbd1 ⊢
    refine anyT_take (i := 0) (v := ?_) gO kR kR kR kR (by exact fun _ _ _ h => h) (Or.inl ⟨by rfl, ?_⟩) (by assumption) ?_
    rotate_left
    · intro w hSw; (try dsimp only at hSw); go_simp; try with_reducible rfl
    try simp only [Act.put, sX, sY, sZ]
    refine anyT_take (i := 1) (v := ?_) gO kR kR kR kR (by exact fun _ _ _ h => h) (Or.inl ⟨by rfl, ?_⟩) (by assumption) ?_
    rotate_left
    · intro w hSw; (try dsimp only at hSw); go_simp; try with_reducible rfl
    try simp only [Act.put, sX, sY, sZ]
    refine anyT_ready (rs := [2, 8]) kR (by simp) (ReadyT.cons gO (fun K hK => ?_) (ReadyT.cons gO (fun K hK => ?_) ReadyT.nil))
    · skip
      go_simp
      go_at_call 32
      refine (nat_Word _ _ _ _ 0 _ (hy.to bW) (by decide)).mono ?_
      rw [HD.out]
      rintro e w2 ⟨rfl, hb2⟩
      go_simp
      refine hK.out _ _ (KP1 _ bW) (fun hHeld => ?_)
      clear hK K
      try simp only [Act.put, sX, sY, sZ]
      refine anyT_ready (rs := [3, 8]) kR (by simp) (ReadyT.cons gO (fun K hK => ?_) (ReadyT.cons gO (fun K hK => ?_) ReadyT.nil))
      · skip
        go_simp
        go_at_call 58
        (with_reducible refine (quot_ByWord _ _ _ _ y _ (hx.to bW) hy0 hyw hn).mono ?_)
        rintro e w3 ⟨A3, n3, c3, rfl, h3, hb3⟩
        go_simp
        refine hK.out _ _ (KP1 _ bW) (fun hHeld => ?_)
        clear hK K
        try simp only [Act.put, sX, sY, sZ]
        refine anyT_take (i := 4) (v := ?_) gO kR kR kR kR (by exact fun _ _ _ h => h) (Or.inl ⟨by rfl, ?_⟩) (by assumption) ?_
        rotate_left
        · intro w hSw; (try dsimp only at hSw); go_simp; try with_reducible rfl
        try simp only [Act.put, sX, sY, sZ]
        refine anyT_take (i := 5) (v := ?_) gO kR kR kR kR (by exact fun _ _ _ h => h) (Or.inl ⟨by rfl, ?_⟩) (by assumption) ?_
        rotate_left
        · intro w hSw; (try dsimp only at hSw); go_simp; try with_reducible rfl
        try simp only [Act.put, sX, sY, sZ]
        refine anyT_take (i := 6) (v := ?_) gO kR kR kR kR (by exact fun _ _ _ h => h) (Or.inl ⟨by rfl, ?_⟩) (by assumption) ?_
        rotate_left
        · intro w hSw; (try dsimp only at hSw); go_simp; try with_reducible rfl
        try simp only [Act.put, sX, sY, sZ]
        refine anyT_take (i := 7) (v := ?_) gO kR kR kR kR (by exact fun _ _ _ h => h) (Or.inl ⟨by rfl, ?_⟩) (by assumption) ?_
        rotate_left
        · intro w hSw; (try dsimp only at hSw); go_simp; try with_reducible rfl
        try simp only [Act.put, sX, sY, sZ]
        refine anyT_ready (rs := [8]) kR (by simp) (ReadyT.cons gO (fun K hK => ?_) ReadyT.nil)
        go_simp
        have X8 := Blk1.newAt w3 w3.heap.size 25 (.slice none 0 0) rfl
        have X8g : w1.heap.size ≤ w3.heap.size := (show Below w1.heap.size w1 w3 from bW).size
        have hbwa2 := nxa (Below.refl w3.heap.size w3) (.cells #[.slice none 0 0] 25)
        generalize w3.alloc (.cells #[.slice none 0 0] 25) = wa2 at X8 hbwa2 ⊢
        refine hK.out _ _ (KP1 _ bW) (fun hHeld => ?_)
        clear hK K
        try simp only [Act.put, sX, sY, sZ]
        refine anyT_ready (rs := [9]) kR (by simp) (ReadyT.cons gO (fun K hK => ?_) ReadyT.nil)
        replace X8 := (show Blk1 wa2 _ _ _ from X8.to bW)
        rw [if_pos (by rfl)]
        refine wp_store_nat _ _ rfl rfl rfl X8 ?_
        replace h3 := (show NatAt wa2 _ _ _ _ from h3.to bW).put_ X8.cell (.slice A3 n3 c3)
        have hbws3 := nxs (show Below w1.heap.size w1 wa2 from bW) (p := ⟨w3.heap.size, 0, none⟩) X8g (.slice A3 n3 c3)
        replace X8 := X8.set (.slice A3 n3 c3)
        generalize wa2.setCell ⟨w3.heap.size, 0, none⟩ (.slice A3 n3 c3) = ws3 at X8 h3 hbws3 ⊢
        refine hK.out _ _ (KP1 _ bW) (fun hHeld => ?_)
        clear hK K
        try simp only [Act.put, sX, sY, sZ]
        refine anyT_take (i := 10) (v := ?_) gO kR kR kR kR (by exact fun _ _ _ h => h) (Or.inl ⟨by rfl, ?_⟩) (by assumption) ?_
        rotate_left
        · intro w hSw; (try dsimp only at hSw); go_simp; try with_reducible rfl
        try simp only [Act.put, sX, sY, sZ]
        refine anyT_take (i := 11) (v := ?_) gO kR kR kR kR (by exact fun _ _ _ h => h) (Or.inl ⟨by rfl, ?_⟩) (by assumption) ?_
        rotate_left
        · intro w hSw; (try dsimp only at hSw); go_simp; try with_reducible rfl
        try simp only [Act.put, sX, sY, sZ]
        refine anyT_done kR ?_ _
        go_wp2_with fail
        go_meet
        exact ⟨⟨_, A3, n3, c3, rfl, ⟨X8, h3⟩, bW⟩, rfl, rfl⟩
      · skip
        go_simp
        have X8 := Blk1.newAt w2 w2.heap.size 25 (.slice none 0 0) rfl
        have X8g : w1.heap.size ≤ w2.heap.size := (show Below w1.heap.size w1 w2 from bW).size
        have hbwa4 := nxa (Below.refl w2.heap.size w2) (.cells #[.slice none 0 0] 25)
        generalize w2.alloc (.cells #[.slice none 0 0] 25) = wa4 at X8 hbwa4 ⊢
        refine hK.out _ _ (KP1 _ bW) (fun hHeld => ?_)
        clear hK K
        try simp only [Act.put, sX, sY, sZ]
        refine anyT_ready (rs := [3]) kR (by simp) (ReadyT.cons gO (fun K hK => ?_) ReadyT.nil)
        go_simp
        go_at_call 58
        (with_reducible refine (quot_ByWord _ _ _ _ y _ (hx.to bW) hy0 hyw hn).mono ?_)
        rintro e w3 ⟨A3, n3, c3, rfl, h3, hb3⟩
        go_simp
        refine hK.out _ _ (KP1 _ bW) (fun hHeld => ?_)
        clear hK K
        try simp only [Act.put, sX, sY, sZ]
        refine anyT_take (i := 4) (v := ?_) gO kR kR kR kR (by exact fun _ _ _ h => h) (Or.inl ⟨by rfl, ?_⟩) (by assumption) ?_
        rotate_left
        · intro w hSw; (try dsimp only at hSw); go_simp; try with_reducible rfl
        try simp only [Act.put, sX, sY, sZ]
        refine anyT_take (i := 5) (v := ?_) gO kR kR kR kR (by exact fun _ _ _ h => h) (Or.inl ⟨by rfl, ?_⟩) (by assumption) ?_
        rotate_left
        · intro w hSw; (try dsimp only at hSw); go_simp; try with_reducible rfl
        try simp only [Act.put, sX, sY, sZ]
        refine anyT_take (i := 6) (v := ?_) gO kR kR kR kR (by exact fun _ _ _ h => h) (Or.inl ⟨by rfl, ?_⟩) (by assumption) ?_
        rotate_left
        · intro w hSw; (try dsimp only at hSw); go_simp; try with_reducible rfl
        try simp only [Act.put, sX, sY, sZ]
        refine anyT_take (i := 7) (v := ?_) gO kR kR kR kR (by exact fun _ _ _ h => h) (Or.inl ⟨by rfl, ?_⟩) (by assumption) ?_
        rotate_left
        · intro w hSw; (try dsimp only at hSw); go_simp; try with_reducible rfl
        try simp only [Act.put, sX, sY, sZ]
        refine anyT_ready (rs := [9]) kR (by simp) (ReadyT.cons gO (fun K hK => ?_) ReadyT.nil)
        replace X8 := (show Blk1 w3 _ _ _ from X8.to bW)
        rw [if_pos (by rfl)]
        refine wp_store_nat _ _ rfl rfl rfl X8 ?_
        replace h3 := (show NatAt w3 _ _ _ _ from h3.to bW).put_ X8.cell (.slice A3 n3 c3)
        have hbws5 := nxs (show Below w1.heap.size w1 w3 from bW) (p := ⟨w2.heap.size, 0, none⟩) X8g (.slice A3 n3 c3)
        replace X8 := X8.set (.slice A3 n3 c3)
        generalize w3.setCell ⟨w2.heap.size, 0, none⟩ (.slice A3 n3 c3) = ws5 at X8 h3 hbws5 ⊢
        refine hK.out _ _ (KP1 _ bW) (fun hHeld => ?_)
        clear hK K
        try simp only [Act.put, sX, sY, sZ]
        refine anyT_take (i := 10) (v := ?_) gO kR kR kR kR (by exact fun _ _ _ h => h) (Or.inl ⟨by rfl, ?_⟩) (by assumption) ?_
        rotate_left
        · intro w hSw; (try dsimp only at hSw); go_simp; try with_reducible rfl
        try simp only [Act.put, sX, sY, sZ]
        refine anyT_take (i := 11) (v := ?_) gO kR kR kR kR (by exact fun _ _ _ h => h) (Or.inl ⟨by rfl, ?_⟩) (by assumption) ?_
        rotate_left
        · intro w hSw; (try dsimp only at hSw); go_simp; try with_reducible rfl
        try simp only [Act.put, sX, sY, sZ]
        refine anyT_done kR ?_ _
        go_wp2_with fail
        go_meet
        exact ⟨⟨_, A3, n3, c3, rfl, ⟨X8, h3⟩, bW⟩, rfl, rfl⟩
    · skip
      go_simp
      have X8 := Blk1.newAt wd1 wd1.heap.size 25 (.slice none 0 0) rfl
      have X8g : w1.heap.size ≤ wd1.heap.size := (show Below w1.heap.size w1 wd1 from bW).size
      have hbwa6 := nxa (Below.refl wd1.heap.size wd1) (.cells #[.slice none 0 0] 25)
      generalize wd1.alloc (.cells #[.slice none 0 0] 25) = wa6 at X8 hbwa6 ⊢
      refine hK.out _ _ (KP1 _ bW) (fun hHeld => ?_)
      clear hK K
      try simp only [Act.put, sX, sY, sZ]
      refine anyT_ready (rs := [2]) kR (by simp) (ReadyT.cons gO (fun K hK => ?_) ReadyT.nil)
      go_simp
      go_at_call 32
      refine (nat_Word _ _ _ _ 0 _ (hy.to bW) (by decide)).mono ?_
      rw [HD.out]
      rintro e w2 ⟨rfl, hb2⟩
      go_simp
      refine hK.out _ _ (KP1 _ bW) (fun hHeld => ?_)
      clear hK K
      try simp only [Act.put, sX, sY, sZ]
      refine anyT_ready (rs := [3]) kR (by simp) (ReadyT.cons gO (fun K hK => ?_) ReadyT.nil)
      go_simp
      go_at_call 58
      (with_reducible refine (quot_ByWord _ _ _ _ y _ (hx.to bW) hy0 hyw hn).mono ?_)
      rintro e w3 ⟨A3, n3, c3, rfl, h3, hb3⟩
      go_simp
      refine hK.out _ _ (KP1 _ bW) (fun hHeld => ?_)
      clear hK K
      try simp only [Act.put, sX, sY, sZ]
      refine anyT_take (i := 4) (v := ?_) gO kR kR kR kR (by exact fun _ _ _ h => h) (Or.inl ⟨by rfl, ?_⟩) (by assumption) ?_
      rotate_left
      · intro w hSw; (try dsimp only at hSw); go_simp; try with_reducible rfl
      try simp only [Act.put, sX, sY, sZ]
      refine anyT_take (i := 5) (v := ?_) gO kR kR kR kR (by exact fun _ _ _ h => h) (Or.inl ⟨by rfl, ?_⟩) (by assumption) ?_
      rotate_left
      · intro w hSw; (try dsimp only at hSw); go_simp; try with_reducible rfl
      try simp only [Act.put, sX, sY, sZ]
      refine anyT_take (i := 6) (v := ?_) gO kR kR kR kR (by exact fun _ _ _ h => h) (Or.inl ⟨by rfl, ?_⟩) (by assumption) ?_
      rotate_left
      · intro w hSw; (try dsimp only at hSw); go_simp; try with_reducible rfl
      try simp only [Act.put, sX, sY, sZ]
      refine anyT_take (i := 7) (v := ?_) gO kR kR kR kR (by exact fun _ _ _ h => h) (Or.inl ⟨by rfl, ?_⟩) (by assumption) ?_
      rotate_left
      · intro w hSw; (try dsimp only at hSw); go_simp; try with_reducible rfl
      try simp only [Act.put, sX, sY, sZ]
      refine anyT_ready (rs := [9]) kR (by simp) (ReadyT.cons gO (fun K hK => ?_) ReadyT.nil)
      replace X8 := (show Blk1 w3 _ _ _ from X8.to bW)
      rw [if_pos (by rfl)]
      refine wp_store_nat _ _ rfl rfl rfl X8 ?_
      replace h3 := (show NatAt w3 _ _ _ _ from h3.to bW).put_ X8.cell (.slice A3 n3 c3)
      have hbws7 := nxs (show Below w1.heap.size w1 w3 from bW) (p := ⟨wd1.heap.size, 0, none⟩) X8g (.slice A3 n3 c3)
      replace X8 := X8.set (.slice A3 n3 c3)
      generalize w3.setCell ⟨wd1.heap.size, 0, none⟩ (.slice A3 n3 c3) = ws7 at X8 h3 hbws7 ⊢
      refine hK.out _ _ (KP1 _ bW) (fun hHeld => ?_)
      clear hK K
      try simp only [Act.put, sX, sY, sZ]
      refine anyT_take (i := 10) (v := ?_) gO kR kR kR kR (by exact fun _ _ _ h => h) (Or.inl ⟨by rfl, ?_⟩) (by assumption) ?_
      rotate_left
      · intro w hSw; (try dsimp only at hSw); go_simp; try with_reducible rfl
      try simp only [Act.put, sX, sY, sZ]
      refine anyT_take (i := 11) (v := ?_) gO kR kR kR kR (by exact fun _ _ _ h => h) (Or.inl ⟨by rfl, ?_⟩) (by assumption) ?_
      rotate_left
      · intro w hSw; (try dsimp only at hSw); go_simp; try with_reducible rfl
      try simp only [Act.put, sX, sY, sZ]
      refine anyT_done kR ?_ _
      go_wp2_with fail
      go_meet
      exact ⟨⟨_, A3, n3, c3, rfl, ⟨X8, h3⟩, bW⟩, rfl, rfl⟩
  case rest =>
    rename World => w4
    obtain ⟨⟨g8, A3, n3, c3, rfl, ⟨L8, h3⟩, hb4⟩, rfl, rfl⟩ := hcut
    replace B2 := B2.to hb4
    replace B3 := B3.to hb4
    replace hbe := nx hbe hb4
    clear hb4 B0 B1
    have hrw : x % y < W := Nat.lt_trans (Nat.mod_lt _ hy0) hyw
    generalize x % y = r at *
    generalize x / y = q at *
    go_wp2_with fail
    have CL8 := (show Blk1 w4 _ _ _ from L8.to bW).cell
    have KP2 : ∀ w', Below w4.heap.size w4 w' → w'.cell? ⟨g8, 0, none⟩ = some (.slice A3 n3 c3) ∧ True := fun w' hw' => ⟨cellB hw' CL8, trivial⟩
    refine wp_regionS (S := fun w' => w'.cell? ⟨g8, 0, none⟩ = some (.slice A3 n3 c3) ∧ True) [5] kR (KP2 _ bW) (fun hHeld => ?_)
    have hbd8 : Below w4.heap.size w4 w4.drew := nxw (Below.refl _ _)
    generalize w4.drew = wd8 at hHeld hbd8 ⊢
    refine anyS_take (i := 0) (v := ?_) gO kR kR kR kR kR (by exact fun _ _ _ h => h) (Or.inl ⟨by rfl, ?_⟩) (by assumption) ?_
    rotate_left
    · intro w hSw; (try dsimp only at hSw); go_simp; try with_reducible rfl
    try simp only [Act.put, sX, sY, sZ]
    refine anyS_take0 (i := 1) (v := ?_) gO kR kR kR (by rfl) (by exact fun _ _ _ h => h) (Or.inl ⟨by rfl, ?_⟩) (fun _ => by assumption) ?_
    rotate_left
    · intro w hSw; (try dsimp only at hSw); go_simp; try with_reducible rfl
    try simp only [Act.put, sX, sY, sZ]
    refine anyS_take0 (i := 4) (v := ?_) gO kR kR kR (by rfl) (by exact fun _ _ _ h => h) (Or.inl ⟨by rfl, ?_⟩) (fun _ => by assumption) ?_
    rotate_left
    · intro w hSw; (try dsimp only at hSw); go_simp; try with_reducible rfl
    try simp only [Act.put, sX, sY, sZ]
    refine anyS_ready (rs := [2]) kR (by simp) (ReadyS.cons gO (fun K hK => ?_) ReadyS.nil)
    go_simp
    refine hK.out _ _ (KP2 _ bW) (fun hHeld => ?_)
    clear hK K
    try simp only [Act.put, sX, sY, sZ]
    refine anyS_ready (rs := [3]) kR (by simp) (ReadyS.cons gO (fun K hK => ?_) ReadyS.nil)
    go_simp
    go_at_call 10
    refine (nat_Of _ _ _ _ _ (dig_lit1 _ _ _ r (by rfl) hrw) (by decide)).mono ?_
    rintro e w6 ⟨A6, n6, c6, rfl, h6, hb6, m6⟩
    replace hb6 := nx (nxa (Below.refl _ _) _) hb6
    have Y2 := (show Blk1 w6 _ _ _ from B2.to bW)
    have Y3 := (show Blk1 w6 _ _ _ from B3.to bW)
    have c2 := Y2.cell
    have f2 := Y2.free
    go_simp
    refine hK.out _ _ (KP2 _ bW) (fun hHeld => ?_)
    clear hK K
    try simp only [Act.put, sX, sY, sZ]
    refine anyS_ready (rs := [5]) kR (by simp) (ReadyS.last gO kR (fun K hK => ?_))
    go_simp
    refine hK.out _ _ ?_
    clear hK K
    try simp only [Act.put, sX, sY, sZ]
    refine anyS_ready (rs := [6]) kR (by simp) (ReadyS.last gO kR (fun K hK => ?_))
    have Z3 := Y3.far (p := ⟨w.heap.size + 1 + 1, 0, none⟩) (by show _ ≠ w.heap.size + 1 + 1; omega) (.slice A3 n3 c3)
    have c3' := Z3.cell
    have f3' := Z3.free
    go_simp
    refine hK.out _ _ ?_
    clear hK K
    try simp only [Act.put, sX, sY, sZ]
    refine anyS_take1 (i := 7) (v := ?_) gO kR kR kR (by rfl) kR (by exact fun _ _ _ h => h) (Or.inl ⟨by rfl, ?_⟩) ?_
    rotate_left
    · intro w hSw; (try dsimp only at hSw); go_simp; try with_reducible rfl
    try simp only [Act.put, sX, sY, sZ]
    refine anyS_done kR ?_ _
    obtain ⟨l1, l2, hb⟩ := store2 (w0 := w) (nx hbe (show Below w4.heap.size w4 w6 from bW)) (by show w.heap.size ≤ w.heap.size + 1 + 1; omega) (by show w.heap.size ≤ w.heap.size + 1 + 1 + 1; omega) (by omega) Y2 Y3 (h3.to (show Below w4.heap.size w4 w6 from bW)) h6
    have e1 := l1.1.cell
    have e2 := l2.1.cell
    go_wp2_with fail
    exact bodyPost_ret (v := .tuple #[.agg #[.slice A3 n3 c3], .agg #[.slice A6 n6 c6], .bool true]) (by simp [results, Try.results49, go_sem, e1, e2]) rfl ⟨_, _, _, _, _, _, rfl, l1.2, l2.2, hb⟩
set_option maxHeartbeats 4000000 in
theorem quot_DivMod_below (A : Option Addr) (n c x : Nat) (A' : Option Addr) (n' c' y : Nat) (w : World) (h : NatAt w A n c x) (h' : NatAt w A' n' c' y) (hn' : 1 < n') (hlt : x < y) :
    Calls Try.prog 49 #[.agg #[.slice A n c], .agg #[.slice A' n' c']] w (RetDiv w 0 x true) := by
  have hnI : ¬ (n' : Int) ≤ 1 := by omega
  have HC := Lib.hid (cmpI_lt hlt)
  clear hlt
  have B0 := (((Blk1.new w 25 (.slice A n c)).alloc (.cells #[.slice A' n' c'] 25)).alloc (.cells #[.slice none 0 0] 25)).alloc (.cells #[.slice none 0 0] 25)
  have B1 := ((Blk1.new (w.alloc (.cells #[.slice A n c] 25)) 25 (.slice A' n' c')).alloc (.cells #[.slice none 0 0] 25)).alloc (.cells #[.slice none 0 0] 25)
  have B2 := (Blk1.new ((w.alloc (.cells #[.slice A n c] 25)).alloc (.cells #[.slice A' n' c'] 25)) 25 (.slice none 0 0)).alloc (.cells #[.slice none 0 0] 25)
  have B3 := Blk1.new (((w.alloc (.cells #[.slice A n c] 25)).alloc (.cells #[.slice A' n' c'] 25)).alloc (.cells #[.slice none 0 0] 25)) 25 (.slice none 0 0)
  simp only [World.size_alloc] at B1 B2 B3
  have hbe : Below w.heap.size w ((((w.alloc (.cells #[.slice A n c] 25)).alloc (.cells #[.slice A' n' c'] 25)).alloc (.cells #[.slice none 0 0] 25)).alloc (.cells #[.slice none 0 0] 25)) := bW
  go_enter Try.func49, Try.ntmps49
  go_wp2_with fail
  generalize ((((w.alloc (.cells #[.slice A n c] 25)).alloc (.cells #[.slice A' n' c'] 25)).alloc (.cells #[.slice none 0 0] 25)).alloc (.cells #[.slice none 0 0] 25)) = we at B0 B1 B2 B3 hbe ⊢
  have s0 := B3.lt
  have hx := h.to hbe
  have hy := h'.to hbe
  refine (nat_Len A' n' c' _).mono ?_
  rintro e w1 ⟨rfl, hb1⟩
  replace B0 := B0.to hb1
  replace B1 := B1.to hb1
  replace B2 := B2.to hb1
  replace B3 := B3.to hb1
  replace hbe := nx hbe hb1
  replace hx := hx.to hb1
  replace hy := hy.to hb1
  clear hb1
  have c0 := B0.cell
  have c1 := B1.cell
  go_wp2_with fail
  refine (nat_Cmp _ _ _ _ _ _ _ _ _ hx hy).mono ?_
  rw [HC.out]
  rintro e w2 ⟨rfl, hb2⟩
  replace B0 := B0.to hb2
  replace B2 := B2.to hb2
  replace B3 := B3.to hb2
  replace hbe := nx hbe hb2
  replace hx := hx.to hb2
  clear hb2 c0 c1 hy B1
  go_wp2_with fail
  refine wp_regionT (S := fun w' => w'.cell? ⟨w.heap.size, 0, none⟩ = some (.slice A n c) ∧ True) [] kR ⟨(by first | exact B0.drew.cell | exact (B0.to hbd1).cell | exact ((B0.to hbd1).far (by show w.heap.size ≠ w.heap.size + 1 + 1; omega) _).cell | exact (((B0.to hbd1).far (by show w.heap.size ≠ w.heap.size + 1 + 1; omega) _).far (by show w.heap.size ≠ w.heap.size + 1 + 1 + 1; omega) _).cell), trivial⟩ (fun hHeld => ?_)
  have hbd1 : Below w2.heap.size w2 w2.drew := nxw (Below.refl _ _)
  generalize w2.drew = wd1 at hHeld hbd1 ⊢
  refine anyT_take (i := 0) (v := ?_) gO kR kR kR kR (by exact fun _ _ _ h => h) (Or.inl ⟨by rfl, ?_⟩) (by assumption) ?_
  rotate_left
  · intro w hSw; (try dsimp only at hSw); go_simp; try with_reducible rfl
  try simp only [Act.put, sX, sY, sZ]
  refine anyT_take (i := 1) (v := ?_) gO kR kR kR kR (by exact fun _ _ _ h => h) (Or.inl ⟨by rfl, ?_⟩) (by assumption) ?_
  rotate_left
  · intro w hSw; (try dsimp only at hSw); go_simp; try with_reducible rfl
  try simp only [Act.put, sX, sY, sZ]
  refine anyT_ready (rs := [2]) kR (by simp) (ReadyT.cons gO (fun K hK => ?_) ReadyT.nil)
  have c2 := (B2.to hbd1).cell
  have f2 := (B2.to hbd1).free
  go_simp
  refine hK.out _ _ ⟨(by first | exact B0.drew.cell | exact (B0.to hbd1).cell | exact ((B0.to hbd1).far (by show w.heap.size ≠ w.heap.size + 1 + 1; omega) _).cell | exact (((B0.to hbd1).far (by show w.heap.size ≠ w.heap.size + 1 + 1; omega) _).far (by show w.heap.size ≠ w.heap.size + 1 + 1 + 1; omega) _).cell), trivial⟩ (fun hHeld => ?_)
  clear hK K
  try simp only [Act.put, sX, sY, sZ]
  refine anyT_ready (rs := [3]) kR (by simp) (ReadyT.cons gO (fun K hK => ?_) ReadyT.nil)
  have Z3 := (B3.to hbd1).far (p := ⟨w.heap.size + 1 + 1, 0, none⟩) (by show _ ≠ w.heap.size + 1 + 1; omega) (.slice none 0 0)
  have c3 := Z3.cell
  have f3 := Z3.free
  go_simp
  refine hK.out _ _ ⟨(by first | exact B0.drew.cell | exact (B0.to hbd1).cell | exact ((B0.to hbd1).far (by show w.heap.size ≠ w.heap.size + 1 + 1; omega) _).cell | exact (((B0.to hbd1).far (by show w.heap.size ≠ w.heap.size + 1 + 1; omega) _).far (by show w.heap.size ≠ w.heap.size + 1 + 1 + 1; omega) _).cell), trivial⟩ (fun hHeld => ?_)
  clear hK K
  try simp only [Act.put, sX, sY, sZ]
  refine anyT_take (i := 4) (v := ?_) gO kR kR kR kR (by exact fun _ _ _ h => h) (Or.inl ⟨by rfl, ?_⟩) (by assumption) ?_
  rotate_left
  · intro w hSw; (try dsimp only at hSw); go_simp; try with_reducible rfl
  try simp only [Act.put, sX, sY, sZ]
  refine anyT_done kR ?_ _
  have N0 : NatAt wd1 none 0 0 0 := ⟨Dig.nil _ _ _ _ (by omega), fun h => absurd h (by omega)⟩
  obtain ⟨l1, l2, hb⟩ := store2 (w0 := w) (nx hbe hbd1) (by show w.heap.size ≤ w.heap.size + 1 + 1; omega) (by show w.heap.size ≤ w.heap.size + 1 + 1 + 1; omega) (by omega) (B2.to hbd1) (B3.to hbd1) N0 (hx.to hbd1)
  have e1 := l1.1.cell
  have e2 := l2.1.cell
  go_wp2_with fail
  exact bodyPost_ret (v := .tuple #[.agg #[.slice none 0 0], .agg #[.slice A n c], .bool true]) (by simp [results, Try.results49, go_sem, e1, e2]) rfl ⟨_, _, _, _, _, _, rfl, l1.2, l2.2, hb⟩
end Go.Proofs.Ythjokpnihoigeaa
set_option linter.unusedVariables false
set_option linter.unusedSimpArgs false
namespace Go.Proofs.Ythjokpnihoigeaa
open Go.RowKit
set_option maxRecDepth 100000
theorem dig_lit00 (w : World) (e : TypeId) : Dig .u64 W (w.alloc (.cells #[.int .u64 0, .int .u64 0] e)) (some ⟨w.heap.size, 0, none⟩) 2 2 0 := by
  have := Dig.lit w e [0, 0] (by simp [W_pos]) (by simp)
  simpa [val] using this
def RowU (w0 : World) (n X : Nat) (v : Value) (w : World) : Prop := ∃ g c, v = .slice (some ⟨g, 0, none⟩) n c ∧ w.ownsRow w0.heap.size 36 1 v n (dl .u64 W n X) ∧ Below w0.heap.size w0 w
set_option maxHeartbeats 4000000 in
theorem quot_DivMod_main (A : Option Addr) (n c x : Nat) (A' : Option Addr) (n' c' y : Nat) (w : World) (h : NatAt w A n c x) (h' : NatAt w A' n' c' y) (hn : n ≤ 17592186044000) (hn' : 1 < n') (hle : y ≤ x) :
    Calls Try.prog 49 #[.agg #[.slice A n c], .agg #[.slice A' n' c']] w (RetDiv w (x / y) (x % y) true) := by
  obtain ⟨i0, hi, hz0, hz1, hz2⟩ := info_parts info_u64
  have hnI : ¬ (n' : Int) ≤ 1 := by omega
  have HC := Lib.hid (show ¬ cmpI x y < 0 by unfold cmpI; rw [if_neg (by omega)]; split <;> omega)
  have HS := Lib.hid (show ((n' : Int) - 1) = ((n' - 1 : Nat) : Int) by omega)
  have HW := Lib.hid (show IntKind.i64.wrap ((n' - 1 : Nat) : Int) = ((n' - 1 : Nat) : Int) by have h2 : n' ≤ n := h'.le_of n (Nat.lt_of_le_of_lt hle h.lt); unfold IntKind.wrap; have e : ((n' - 1 : Nat) : Int) % 2 ^ IntKind.i64.bits = ((n' - 1 : Nat) : Int) := Int.emod_eq_of_lt (by omega) (by show _ < (18446744073709551616 : Int); omega); simp only [e]; refine if_neg ?_; intro hh; have h3 := of_decide_eq_true (Bool.and_eq_true_iff.1 hh).2; have h4 : (9223372036854775808 : Int) ≤ ((n' - 1 : Nat) : Int) := h3; omega)
  have hn'n : n' ≤ n := h'.le_of n (Nat.lt_of_le_of_lt hle h.lt)
  have B0 := (((Blk1.new w 25 (.slice A n c)).alloc (.cells #[.slice A' n' c'] 25)).alloc (.cells #[.slice none 0 0] 25)).alloc (.cells #[.slice none 0 0] 25)
  have B1 := ((Blk1.new (w.alloc (.cells #[.slice A n c] 25)) 25 (.slice A' n' c')).alloc (.cells #[.slice none 0 0] 25)).alloc (.cells #[.slice none 0 0] 25)
  have B2 := (Blk1.new ((w.alloc (.cells #[.slice A n c] 25)).alloc (.cells #[.slice A' n' c'] 25)) 25 (.slice none 0 0)).alloc (.cells #[.slice none 0 0] 25)
  have B3 := Blk1.new (((w.alloc (.cells #[.slice A n c] 25)).alloc (.cells #[.slice A' n' c'] 25)).alloc (.cells #[.slice none 0 0] 25)) 25 (.slice none 0 0)
  simp only [World.size_alloc] at B1 B2 B3
  have hbe : Below w.heap.size w ((((w.alloc (.cells #[.slice A n c] 25)).alloc (.cells #[.slice A' n' c'] 25)).alloc (.cells #[.slice none 0 0] 25)).alloc (.cells #[.slice none 0 0] 25)) := bW
  go_enter Try.func49, Try.ntmps49
  go_wp2_with fail
  generalize ((((w.alloc (.cells #[.slice A n c] 25)).alloc (.cells #[.slice A' n' c'] 25)).alloc (.cells #[.slice none 0 0] 25)).alloc (.cells #[.slice none 0 0] 25)) = we at B0 B1 B2 B3 hbe ⊢
  have s0 := B3.lt
  have hx := h.to hbe
  have hy := h'.to hbe
  refine (nat_Len A' n' c' _).mono ?_
  rintro e w1 ⟨rfl, hb1⟩
  replace B0 := B0.to hb1
  replace B1 := B1.to hb1
  replace B2 := B2.to hb1
  replace B3 := B3.to hb1
  replace hbe := nx hbe hb1
  replace hx := hx.to hb1
  replace hy := hy.to hb1
  clear hb1
  have c0 := B0.cell
  have c1 := B1.cell
  go_wp2_with fail
  refine (nat_Cmp _ _ _ _ _ _ _ _ _ hx hy).mono ?_
  rintro e w2 ⟨rfl, hb2⟩
  replace B0 := B0.to hb2
  replace B1 := B1.to hb2
  replace B2 := B2.to hb2
  replace B3 := B3.to hb2
  replace hbe := nx hbe hb2
  replace hx := hx.to hb2
  replace hy := hy.to hb2
  clear hb2 c0 c1
  have hC := HC.out
  go_wp2_with fail
  clear hC
  have CB1 := (show Blk1 w2 _ _ _ from B1.to bW).cell
  have KP1 : ∀ w', Below w2.heap.size w2 w' → w'.cell? ⟨w.heap.size + 1, 0, none⟩ = some (.slice A' n' c') ∧ True := fun w' hw' => ⟨cellB hw' CB1, trivial⟩
  refine wp_regionT (S := fun w' => w'.cell? ⟨w.heap.size + 1, 0, none⟩ = some (.slice A' n' c') ∧ True) [] kR (KP1 _ bW) (fun hHeld => ?_)
  have hbd1 : Below w2.heap.size w2 w2.drew := nxw (Below.refl _ _)
  generalize w2.drew = wd1 at hHeld hbd1 ⊢
  refine anyT_take (i := 0) (v := ?_) gO kR kR kR kR (by exact fun _ _ _ h => h) (Or.inl ⟨by rfl, ?_⟩) (by assumption) ?_
  rotate_left
  · intro w hSw; (try dsimp only at hSw); go_simp; try with_reducible rfl
  try simp only [Act.put, sX, sY, sZ]
  refine anyT_take (i := 1) (v := ?_) gO kR kR kR kR (by exact fun _ _ _ h => h) (Or.inl ⟨by rfl, ?_⟩) (by assumption) ?_
  rotate_left
  · intro w hSw; (try dsimp only at hSw); go_simp; try with_reducible rfl
  try simp only [Act.put, sX, sY, sZ]
  refine anyT_ready (rs := [2]) kR (by simp) (ReadyT.cons gO (fun K hK => ?_) ReadyT.nil)
  go_simp
  go_at_call 33
  refine (nat_Len _ _ _ _).mono ?_
  rintro e w3 ⟨rfl, hb3⟩
  go_simp
  refine hK.out _ _ (KP1 _ bW) (fun hHeld => ?_)
  clear hK K
  try simp only [Act.put, sX, sY, sZ]
  refine anyT_take (i := 3) (v := ?_) gO kR kR kR kR (by exact fun _ _ _ h => h) (Or.inl ⟨by rfl, ?_⟩) (by assumption) ?_
  rotate_left
  · intro w hSw; (try dsimp only at hSw); go_simp; try with_reducible rfl
  try simp only [Act.put, sX, sY, sZ]
  refine anyT_ready (rs := [4]) kR (by simp) (ReadyT.cons gO (fun K hK => ?_) ReadyT.nil)
  go_simp
  go_at_call 32
  rw [HS.out, HW.out]
  (with_reducible refine (nat_Word _ _ _ _ (n' - 1) _ (hy.to bW) (by omega)).mono ?_)
  rintro e w4 ⟨rfl, hb4⟩
  go_simp
  refine hK.out _ _ (KP1 _ bW) (fun hHeld => ?_)
  clear hK K
  try simp only [Act.put, sX, sY, sZ]
  refine anyT_ready (rs := [5]) kR (by simp) (ReadyT.cons gO (fun K hK => ?_) ReadyT.nil)
  go_simp
  go_at_call 59
  refine (word_Lead _ _ (dg_lt W_pos _ _)).mono ?_
  rintro e w5 ⟨rfl, m5, rfl⟩
  go_simp
  refine hK.out _ _ (KP1 _ bW) (fun hHeld => ?_)
  clear hK K
  try simp only [Act.put, sX, sY, sZ]
  refine anyT_take (i := 6) (v := ?_) gO kR kR kR kR (by exact fun _ _ _ h => h) (Or.inl ⟨by rfl, ?_⟩) (by assumption) ?_
  rotate_left
  · intro w hSw; (try dsimp only at hSw); go_simp; try with_reducible rfl
  try simp only [Act.put, sX, sY, sZ]
  refine anyT_done kR ?_ _
  have hbq : Below w2.heap.size w2 (w4.drewN m5) := bW
  clear hHeld CB1 KP1
  generalize w4.drewN m5 = w6 at hbq ⊢
  replace B0 := B0.to hbq
  replace B1 := B1.to hbq
  replace B2 := B2.to hbq
  replace B3 := B3.to hbq
  replace hx := hx.to hbq
  replace hy := hy.to hbq
  replace hbe := nx hbe hbq
  clear hbq hbd1 hb3 hb4
  have HN := Lib.hid (norm_top (m := n' - 1) (y := y) (by have := h'.lt; rwa [show n' - 1 + 1 = n' by omega]) (Nat.le_of_not_lt fun hl => by have := h'.le_of (n' - 1) hl; omega))
  have hs := HN.out.1
  generalize lead (dg W (n' - 1) y) = s at HN hs ⊢
  have c1 := B1.cell
  go_wp2_with fail
  refine (nat_Shl A' n' c' y s _ hy (by omega) (by omega)).mono ?_
  rintro e w7 ⟨A7, n7, c7, rfl, h7, hb7⟩
  have e0 := ((B0.to hb7).alloc (.cells #[.slice A7 n7 c7] 25)).cell
  go_wp2_with fail
  have B4 := Blk1.new w7 25 (.slice A7 n7 c7)
  refine (nat_Shl A n c x s _ ((hx.to hb7).alloc _) (by omega) (by omega)).mono ?_
  rintro e w9 ⟨A9, n9, c9, rfl, h9, hb9⟩
  have hb89 : Below w6.heap.size w6 w9 := bW
  replace B4 := B4.to hb9
  replace h7 := (h7.alloc _).to hb9
  replace B0 := B0.to hb89
  replace B1 := B1.to hb89
  replace B2 := B2.to hb89
  replace B3 := B3.to hb89
  replace hx := hx.to hb89
  replace hy := hy.to hb89
  replace hbe := nx hbe hb89
  clear hb7 hb9 hb89 e0 c1
  go_wp2_with fail
  have B5 := Blk1.newAt w9 w9.heap.size 25 (.slice A9 n9 c9) rfl
  have hb10 := nxa (Below.refl w9.heap.size w9) (.cells #[.slice A9 n9 c9] 25)
  have g5 := B4.lt
  generalize (w9.alloc (.cells #[.slice A9 n9 c9] 25)) = w10 at B5 hb10 ⊢
  replace B0 := B0.to hb10
  replace B1 := B1.to hb10
  replace B2 := B2.to hb10
  replace B3 := B3.to hb10
  replace B4 := B4.to hb10
  replace hx := hx.to hb10
  replace hy := hy.to hb10
  replace h7 := h7.to hb10
  replace h9 := h9.to hb10
  replace hbe := nx hbe hb10
  clear hb10
  have hX : x * 2 ^ s < W ^ (n + 1) := by rw [Nat.pow_succ]; exact Nat.mul_lt_mul'' h.lt (Nat.lt_of_le_of_lt (Nat.pow_le_pow_right (by decide) hs) (by decide))
  have hn9 : n9 ≤ n + 1 := h9.le_of _ hX
  have hn9' : n ≤ n9 := h.le_of _ (Nat.lt_of_le_of_lt (Nat.le_mul_of_pos_right _ (Nat.pow_pos (by decide))) h9.lt)
  have HXL := Lib.hid h9.lt
  go_cut [15] (fun u wc => RowU w10 (n + 1) (x * 2 ^ s) u wc)
  case first =>
    have CB0 := (show Blk1 w10 _ _ _ from B0.to bW).cell
    have CB5 := (show Blk1 w10 _ _ _ from B5.to bW).cell
    have KP2 : ∀ w', Below w10.heap.size w10 w' → w'.cell? ⟨w.heap.size, 0, none⟩ = some (.slice A n c) ∧ w'.cell? ⟨w9.heap.size, 0, none⟩ = some (.slice A9 n9 c9) ∧ True := fun w' hw' => ⟨cellB hw' CB0, cellB hw' CB5, trivial⟩
    refine wp_regionT (S := fun w' => w'.cell? ⟨w.heap.size, 0, none⟩ = some (.slice A n c) ∧ w'.cell? ⟨w9.heap.size, 0, none⟩ = some (.slice A9 n9 c9) ∧ True) [] kR (KP2 _ bW) (fun hHeld => ?_)
    have hbd2 : Below w10.heap.size w10 w10.drew := nxw (Below.refl _ _)
    generalize w10.drew = wd2 at hHeld hbd2 ⊢
    refine anyT_take (i := 0) (v := ?_) gO kR kR kR kR (by exact fun _ _ _ h => h) (Or.inl ⟨by rfl, ?_⟩) (by assumption) ?_
    rotate_left
    · intro w hSw; (try dsimp only at hSw); go_simp; try with_reducible rfl
    try simp only [Act.put, sX, sY, sZ]
    refine anyT_take (i := 4) (v := ?_) gO kR kR kR kR (by exact fun _ _ _ h => h) (Or.inl ⟨by rfl, ?_⟩) (by assumption) ?_
    rotate_left
    · intro w hSw; (try dsimp only at hSw); go_simp; try with_reducible rfl
    try simp only [Act.put, sX, sY, sZ]
    refine anyT_ready (rs := [1, 2]) kR (by simp) (ReadyT.cons gO (fun K hK => ?_) (ReadyT.cons gO (fun K hK => ?_) ReadyT.nil))
    · skip
      go_simp
      go_at_call 39
      (with_reducible refine (nat_Words _ _ _ (x * 2 ^ s) _ (h9.to bW) (by omega)).mono ?_)
      rintro e ww ⟨A1, c1, rfl, ho1, hb1⟩
      go_simp
      refine hK.out _ _ (KP2 _ bW) (fun hHeld => ?_)
      clear hK K
      try simp only [Act.put, sX, sY, sZ]
      refine anyT_ready (rs := [2]) kR (by simp) (ReadyT.cons gO (fun K hK => ?_) ReadyT.nil)
      go_simp
      have Z2 := dig_lit00 ww 36
      have hbz := nxa (Below.refl ww.heap.size ww) (.cells #[.int .u64 0, .int .u64 0] 36)
      generalize ww.alloc (.cells #[.int .u64 0, .int .u64 0] 36) = wz at Z2 hbz ⊢
      refine hK.out _ _ (KP2 _ bW) (fun hHeld => ?_)
      clear hK K
      try simp only [Act.put, sX, sY, sZ]
      refine anyT_ready (rs := [3]) kR (by simp) (ReadyT.cons gO (fun K hK => ?_) ReadyT.nil)
      rw [if_pos (by rfl)]
      refine wp_append _ _ 22 rfl w10.heap.size 36 i0 (.int .u64 0) 8 Try.underlying22 hi hz0 hz1 hz2 rfl .u64 W (.slice A1 n9 c1) n9 (x * 2 ^ s) rfl (own_below (w := ww) (ho1.mono (show Below w10.heap.size w10 _ from bW).size) (show Below ww.heap.size ww wz from bW)) _ 2 _ 0 rfl (show Dig .u64 W wz _ _ _ _ from Z2.to bW) (by unfold maxLen; omega) (by omega) (show Below w10.heap.size w10 wz from bW).size W_pos HXL.out ?_
      intro v' wp howa hgra
      rw [Nat.zero_mul, Nat.add_zero] at howa
      have hbp : Below w10.heap.size w10 wp := (show Below w10.heap.size w10 wz from bW).grown hgra (show Below w10.heap.size w10 wz from bW).size (fun k hk => Nat.le_trans (show Below w10.heap.size w10 _ from bW).size (ho1.lt k hk).1)
      obtain ⟨gp, cp, rfl, hgp, -, hcp, hmp, -, -⟩ := own_lies howa (by omega)
      clear hgra
      have E1 := IntWalk.i64_in ((n : Int) + 1) (by omega)
      have E2 : (0 : Int) ≤ (n : Int) + 1 := by omega
      have E3 : (n : Int) + 1 ≤ (cp : Int) := by omega
      have E4 : ((n : Int) + 1).toNat = n + 1 := by omega
      refine hK.out _ _ (KP2 _ bW) (fun hHeld => ?_)
      clear hK K
      try simp only [Act.put, sX, sY, sZ]
      refine anyT_ready (rs := [5]) kR (by simp) (ReadyT.cons gO (fun K hK => ?_) ReadyT.nil)
      go_simp
      go_at_call 33
      (with_reducible refine (nat_Len _ _ _ _).mono ?_)
      rintro e wl ⟨rfl, hbl⟩
      go_simp
      refine hK.out _ _ (KP2 _ bW) (fun hHeld => ?_)
      clear hK K
      try simp only [Act.put, sX, sY, sZ]
      refine anyT_take (i := 6) (v := ?_) gO kR kR kR kR (by exact fun _ _ _ h => h) (Or.inl ⟨by rfl, ?_⟩) (by assumption) ?_
      rotate_left
      · intro w hSw; (try dsimp only at hSw); go_simp; try with_reducible rfl
      try simp only [Act.put, sX, sY, sZ]
      refine anyT_take (i := 7) (v := ?_) gO kR kR kR kR (by exact fun _ _ _ h => h) (Or.inl ⟨by rfl, ?_⟩) (by assumption) ?_
      rotate_left
      · intro w hSw; (try dsimp only at hSw); go_simp; try with_reducible rfl
      try simp only [Act.put, sX, sY, sZ]
      refine anyT_take (i := 8) (v := ?_) gO kR kR kR kR (by exact fun _ _ _ h => h) (Or.inl ⟨by rfl, ?_⟩) (by assumption) ?_
      rotate_left
      · intro w hSw; (try dsimp only at hSw); go_simp; try with_reducible rfl
      try simp only [Act.put, sX, sY, sZ]
      refine anyT_done kR ?_ _
      go_wp2_with fail
      go_meet
      exact ⟨gp, cp, rfl, own_below (own_shrink howa (by omega)) (show Below wp.heap.size wp wl from bW), show Below w10.heap.size w10 wl from nx hbp (show Below wp.heap.size wp wl from bW)⟩
    · skip
      go_simp
      have Z2 := dig_lit00 wd2 36
      have hbz := nxa (Below.refl wd2.heap.size wd2) (.cells #[.int .u64 0, .int .u64 0] 36)
      generalize wd2.alloc (.cells #[.int .u64 0, .int .u64 0] 36) = wz at Z2 hbz ⊢
      refine hK.out _ _ (KP2 _ bW) (fun hHeld => ?_)
      clear hK K
      try simp only [Act.put, sX, sY, sZ]
      refine anyT_ready (rs := [1]) kR (by simp) (ReadyT.cons gO (fun K hK => ?_) ReadyT.nil)
      go_simp
      go_at_call 39
      (with_reducible refine (nat_Words _ _ _ (x * 2 ^ s) _ (h9.to bW) (by omega)).mono ?_)
      rintro e ww ⟨A1, c1, rfl, ho1, hb1⟩
      go_simp
      refine hK.out _ _ (KP2 _ bW) (fun hHeld => ?_)
      clear hK K
      try simp only [Act.put, sX, sY, sZ]
      refine anyT_ready (rs := [3]) kR (by simp) (ReadyT.cons gO (fun K hK => ?_) ReadyT.nil)
      rw [if_pos (by rfl)]
      refine wp_append _ _ 22 rfl w10.heap.size 36 i0 (.int .u64 0) 8 Try.underlying22 hi hz0 hz1 hz2 rfl .u64 W (.slice A1 n9 c1) n9 (x * 2 ^ s) rfl (own_below (w := ww) (ho1.mono (show Below w10.heap.size w10 _ from bW).size) (show Below ww.heap.size ww ww from bW)) _ 2 _ 0 rfl (show Dig .u64 W ww _ _ _ _ from Z2.to bW) (by unfold maxLen; omega) (by omega) (show Below w10.heap.size w10 ww from bW).size W_pos HXL.out ?_
      intro v' wp howa hgra
      rw [Nat.zero_mul, Nat.add_zero] at howa
      have hbp : Below w10.heap.size w10 wp := (show Below w10.heap.size w10 ww from bW).grown hgra (show Below w10.heap.size w10 ww from bW).size (fun k hk => Nat.le_trans (show Below w10.heap.size w10 _ from bW).size (ho1.lt k hk).1)
      obtain ⟨gp, cp, rfl, hgp, -, hcp, hmp, -, -⟩ := own_lies howa (by omega)
      clear hgra
      have E1 := IntWalk.i64_in ((n : Int) + 1) (by omega)
      have E2 : (0 : Int) ≤ (n : Int) + 1 := by omega
      have E3 : (n : Int) + 1 ≤ (cp : Int) := by omega
      have E4 : ((n : Int) + 1).toNat = n + 1 := by omega
      refine hK.out _ _ (KP2 _ bW) (fun hHeld => ?_)
      clear hK K
      try simp only [Act.put, sX, sY, sZ]
      refine anyT_ready (rs := [5]) kR (by simp) (ReadyT.cons gO (fun K hK => ?_) ReadyT.nil)
      go_simp
      go_at_call 33
      (with_reducible refine (nat_Len _ _ _ _).mono ?_)
      rintro e wl ⟨rfl, hbl⟩
      go_simp
      refine hK.out _ _ (KP2 _ bW) (fun hHeld => ?_)
      clear hK K
      try simp only [Act.put, sX, sY, sZ]
      refine anyT_take (i := 6) (v := ?_) gO kR kR kR kR (by exact fun _ _ _ h => h) (Or.inl ⟨by rfl, ?_⟩) (by assumption) ?_
      rotate_left
      · intro w hSw; (try dsimp only at hSw); go_simp; try with_reducible rfl
      try simp only [Act.put, sX, sY, sZ]
      refine anyT_take (i := 7) (v := ?_) gO kR kR kR kR (by exact fun _ _ _ h => h) (Or.inl ⟨by rfl, ?_⟩) (by assumption) ?_
      rotate_left
      · intro w hSw; (try dsimp only at hSw); go_simp; try with_reducible rfl
      try simp only [Act.put, sX, sY, sZ]
      refine anyT_take (i := 8) (v := ?_) gO kR kR kR kR (by exact fun _ _ _ h => h) (Or.inl ⟨by rfl, ?_⟩) (by assumption) ?_
      rotate_left
      · intro w hSw; (try dsimp only at hSw); go_simp; try with_reducible rfl
      try simp only [Act.put, sX, sY, sZ]
      refine anyT_done kR ?_ _
      go_wp2_with fail
      go_meet
      exact ⟨gp, cp, rfl, own_below (own_shrink howa (by omega)) (show Below wp.heap.size wp wl from bW), show Below w10.heap.size w10 wl from nx hbp (show Below wp.heap.size wp wl from bW)⟩
  case rest =>
    rename World => w11
    obtain ⟨gu, cu, rfl, hu, hbu⟩ := hcut
    have gu0 : w10.heap.size ≤ gu := (hu.lt _ rfl).1
    have hY : y * 2 ^ s < W ^ n' := by have := HN.out.2.1; rwa [show n' - 1 + 1 = n' by omega] at this
    have hYt : 9223372036854775808 * W ^ (n' - 1) ≤ y * 2 ^ s := HN.out.2.2
    obtain rfl : n7 = n' := by have := h7.len_is (n' - 1) (by rwa [show n' - 1 + 1 = n' by omega]) (Nat.le_trans (Nat.le_mul_of_pos_left _ (by decide)) hYt); omega
    have L4 := B4.lt
    have L5 := B5.lt
    have X4 := (B4.to hbu).cell
    go_wp2_with fail
    refine (nat_Len A7 n7 c7 _).mono ?_
    rintro e w12 ⟨rfl, hb12⟩
    have hu12 := own_below hu hb12
    have hbu12 := nx hbu hb12
    clear X4 hu hbu hb12
    have X0 := (B0.to hbu12).cell
    go_wp2_with fail
    refine (nat_Len A n c _).mono ?_
    rintro e w13 ⟨rfl, hb13⟩
    have hu13 := own_below hu12 hb13
    have hbu13 := nx hbu12 hb13
    clear X0 hu12 hbu12 hb13
    obtain ⟨d, rfl⟩ : ∃ d, n = d + n7 := ⟨n - n7, by omega⟩
    have ED : ((d + n7 : Nat) : Int) - (n7 : Int) + 1 = ((d + 1 : Nat) : Int) := by omega
    have ED' : (d : Int) + (n7 : Int) - (n7 : Int) + 1 = ((d + 1 : Nat) : Int) := by omega
    obtain ⟨D, hD⟩ : ∃ D, D = d + 1 := ⟨_, rfl⟩
    go_wp2_with (at_make; refine wpList_make_full _ rfl _ _ 22 rfl w10.heap.size 36 i0 (.int .u64 0) 1 Try.underlying22 hi hz0 hz1 .i64 .i64 _ _ D rfl rfl (by first | rfl | (rw [hD]; omega)) (by first | rfl | (rw [hD]; omega)) (by rw [hz2]; omega) (by unfold maxLen; omega) hbu13.size ?_)
    intro w14 hq hgrow
    rw [made_dl .u64 W] at hq
    have hbm := below_of_none hgrow
    have hu14 := own_below hu13 hbm
    have hb14 := nx hbu13 hbm
    have hgq0 := hbu13.size
    have hguq := (hu13.lt _ rfl).2
    obtain ⟨gq, hgq⟩ : ∃ gq, gq = w13.heap.size := ⟨_, rfl⟩
    rw [← hgq] at hq hgq0 hguq ⊢
    clear hgq hgrow hbm hu13 hbu13 hD D ED ED'
    obtain ⟨V, hV⟩ : ∃ V, V = y * 2 ^ s := ⟨_, rfl⟩
    obtain ⟨X, hXX⟩ : ∃ X, X = x * 2 ^ s := ⟨_, rfl⟩
    have hstart : X < V * W ^ (d + 1) := by rw [hXX, hV]; have := div_start h.lt hs (show n7 ≤ d + n7 by omega) hYt (by omega); rwa [show d + n7 - n7 + 1 = d + 1 by omega] at this
    rw [← hV] at h7 hY hYt
    rw [← hXX] at h9 hX hu14
    have HV := Lib.hid hV
    have HX := Lib.hid hXX
    have hA7 : ∀ a, A7 = some a → a.block ≠ gu := by intro a ha; obtain ⟨g, o, e, hg, _⟩ := h7.1.at_ (by omega); rw [e] at ha; cases ha; show g ≠ gu; omega
    have HX0 := Lib.hid hX
    clear hV hXX hX HXL HN HC HS HW hle h9 B5 B1 hx hy h h'
    go_wp2_with fail
    go_loopw [18] (fun t wr => ∃ j U Q : Nat, j ≤ d + 1 ∧ t = .int .i64 ((j : Int) - 1) ∧ Turn j V X U Q ∧ wr.ownsRow w10.heap.size 36 1 (.slice (some ⟨gu, 0, none⟩) (d + n7 + 1) cu) (d + n7 + 1) (dl .u64 W (d + n7 + 1) (U)) ∧ wr.ownsRow w10.heap.size 36 1 (.slice (some ⟨gq, 0, none⟩) (d + 1) (d + 1)) (d + 1) (dl .u64 W (d + 1) (Q * W ^ j)) ∧ Below w10.heap.size w10 wr) (fun t _ => (intOf t + 1).toNat)
    case atStart => exact ⟨d + 1, X, 0, Nat.le_refl _, (by go_num), Turn.start hstart, hu14, (by rw [Nat.zero_mul]; exact hq), hb14⟩
    case round =>
      clear hu14 hq hb14
      obtain ⟨j, U, Q, hj, rfl, hT, hu, hq, hbl⟩ := hrel
      rcases j with _ | j
      · rw [Nat.pow_zero, Nat.mul_one] at hq
        have hQ := hT.quot_lt (m := 0) hstart
        obtain ⟨z1, z2⟩ := hT.zero
        have hUW : U < W ^ (d + n7 + 1) := Nat.lt_of_le_of_lt (show U ≤ X by omega) HX0.out
        rw [HV.out, HX.out] at z1
        rw [HV.out] at z2
        have hy0 : 0 < y := Nat.pos_of_ne_zero (fun e => by rw [e, Nat.zero_mul] at z2; omega)
        obtain ⟨e1, e2⟩ := div_end hy0 z1 z2
        have EQ := Lib.hid e1
        have ER := Lib.hid e2
        obtain ⟨A15, c15, hv15, hd15, hf15⟩ := own_form hq hQ
        cases hv15
        obtain ⟨A16, c16, hv16, hd16, hf16⟩ := own_form hu hUW
        cases hv16
        clear hT z1 z2 e1 e2 hq hu hstart
        go_wp2_with fail
        refine (nat_Of _ _ _ _ _ hd15 (by omega)).mono ?_
        rintro e w15 ⟨A17, n17, c17, rfl, h17, hb15, hm17⟩
        go_wp2_with fail
        refine (nat_Of _ _ _ _ _ (hd16.to hb15) (by omega)).mono ?_
        rintro e w16 ⟨A18, n18, c18, rfl, h18, hb16, hm18⟩
        go_wp2_with fail
        refine (nat_Shr _ _ _ _ s _ h18 (by omega) (by omega)).mono ?_
        rintro e w17 ⟨A19, n19, c19, rfl, h19, hb17⟩
        have hbz : Below w10.heap.size w10 w17 := nx (nx (nx hbl hb15) hb16) hb17
        have Y2 := B2.to hbz
        have Y3 := B3.to hbz
        obtain ⟨l1, l2, hb⟩ := store2 (w0 := w) (nx hbe hbz) (by show w.heap.size ≤ w.heap.size + 1 + 1; omega) (by show w.heap.size ≤ w.heap.size + 1 + 1 + 1; omega) (by omega) Y2 Y3 (h17.to (nx hb16 hb17)) h19
        have c2 := Y2.cell
        have f2 := Y2.free
        have Z3 := Y3.far (p := ⟨w.heap.size + 1 + 1, 0, none⟩) (by show _ ≠ w.heap.size + 1 + 1; omega) (.slice A17 n17 c17)
        have c3 := Z3.cell
        have f3 := Z3.free
        have e1 := l1.1.cell
        have e2 := l2.1.cell
        clear Y2 Y3 hd15 hd16
        go_wp2_with fail
        exact bodyPost_ret (v := .tuple #[.agg #[.slice A17 n17 c17], .agg #[.slice A19 n19 c19], .bool true]) (by simp [results, Try.results49, go_sem, e1, e2]) rfl ⟨_, _, _, _, _, _, rfl, by rw [← EQ.out]; exact l1.2, by rw [← ER.out]; exact l2.2, hb⟩
      · obtain ⟨g1, g2, g3⟩ := hT.guessed hY (by omega) hYt
        have tU : ((j + 1 : Nat) : Int) - 1 = (j : Int) := by omega
        rw [tU]
        clear tU
        obtain ⟨a2, ha2⟩ : ∃ a, a = j + n7 := ⟨_, rfl⟩
        obtain ⟨a1, ha1⟩ : ∃ a, a = j + n7 - 1 := ⟨_, rfl⟩
        obtain ⟨a0, ha0⟩ : ∃ a, a = j + n7 - 2 := ⟨_, rfl⟩
        obtain ⟨m1, hm1⟩ : ∃ a, a = n7 - 1 := ⟨_, rfl⟩
        obtain ⟨m0, hm0⟩ : ∃ a, a = n7 - 2 := ⟨_, rfl⟩
        rw [← ha1, ← ha0, ← ha2, ← hm1, ← hm0] at g3
        rw [← ha2, ← hm1] at g1
        rw [← hm1] at g2
        have C2 := hu.cellAt a2 (by omega)
        rw [dl_get _ _ _ _ _ (by omega)] at C2
        have W2 := dg_lt W_pos a2 U
        have C1 := hu.cellAt a1 (by omega)
        rw [dl_get _ _ _ _ _ (by omega)] at C1
        have W1 := dg_lt W_pos a1 U
        have C0 := hu.cellAt a0 (by omega)
        rw [dl_get _ _ _ _ _ (by omega)] at C0
        have W0 := dg_lt W_pos a0 U
        have X1 := dg_lt W_pos m1 V
        have X0 := dg_lt W_pos m0 V
        generalize dg W a2 U = u2 at *
        generalize dg W a1 U = u1 at *
        generalize dg W a0 U = u0 at *
        obtain ⟨v1, hv1⟩ : ∃ a, a = dg W m1 V := ⟨_, rfl⟩
        obtain ⟨v0, hv0⟩ : ∃ a, a = dg W m0 V := ⟨_, rfl⟩
        rw [← hv1] at g1 g2 g3 X1
        rw [← hv0] at g3 X0
        obtain ⟨q, hqq⟩ : ∃ q, q = gss ((u2 * W + u1) * W + u0) (v1 * W + v0) := ⟨_, rfl⟩
        have hqW : q < W := by rw [hqq]; exact gss_lt _ _
        rw [← hqq] at g3
        have HQ := Lib.hid hqq
        have HV1 := Lib.hid hv1
        have HV0 := Lib.hid hv0
        have G3 := Lib.hid g3
        have HT := Lib.hid hT
        have HA2 := Lib.hid ha2
        have I1 : (j : Int) < (d : Int) + 1 := by omega
        have I2 : (a2 : Int) < (d : Int) + (n7 : Int) + 1 := by omega
        have I3 : (a1 : Int) < (d : Int) + (n7 : Int) + 1 := by omega
        have I4 : (a0 : Int) < (d : Int) + (n7 : Int) + 1 := by omega
        have M1 : m1 ≤ 9223372036854775807 := by omega
        have M0 : m0 ≤ 9223372036854775807 := by omega
        have E2 : IntKind.i64.wrap ((j : Int) + (n7 : Int)) = (a2 : Int) := by rw [IntWalk.i64_in _ (by omega)]; omega
        have E1 : IntKind.i64.wrap ((a2 : Int) - 1) = (a1 : Int) := by rw [IntWalk.i64_in _ (by omega)]; omega
        have E0 : IntKind.i64.wrap ((a2 : Int) - 2) = (a0 : Int) := by rw [IntWalk.i64_in _ (by omega)]; omega
        have F1 : IntKind.i64.wrap ((n7 : Int) - 1) = (m1 : Int) := by rw [IntWalk.i64_in _ (by omega)]; omega
        have F0 : IntKind.i64.wrap ((n7 : Int) - 2) = (m0 : Int) := by rw [IntWalk.i64_in _ (by omega)]; omega
        have J1 : (j : Int) ≤ 17592186044416 := by omega
        have hgq0' := hgq0
        clear hqq hv1 hv0 g3 hT ha2 ha1 ha0 hm1 hm0
        have L4B := (B4.to hbl).cell
        go_wp2_with fail
        refine wp_regionT (S := fun w' => w'.cell? ⟨w7.heap.size, 0, none⟩ = some (.slice A7 n7 c7) ∧ w'.cell? ⟨gu, a2, none⟩ = some (.int .u64 (u2 : Nat)) ∧ w'.cell? ⟨gu, a1, none⟩ = some (.int .u64 (u1 : Nat)) ∧ w'.cell? ⟨gu, a0, none⟩ = some (.int .u64 (u0 : Nat))) [32] kR ⟨cellB (show Below wr.heap.size wr _ from bW) L4B, cellB (show Below wr.heap.size wr _ from bW) C2, cellB (show Below wr.heap.size wr _ from bW) C1, cellB (show Below wr.heap.size wr _ from bW) C0⟩ (fun hHeld => ?_)
        have hbd3 : Below wr.heap.size wr wr.drew := nxw (Below.refl _ _)
        generalize wr.drew = wd3 at hHeld hbd3 ⊢
        refine anyT_take (i := 0) (v := ?_) gO kR kR kR kR (by exact fun _ _ _ h => h) (Or.inl ⟨by rfl, ?_⟩) (by assumption) ?_
        rotate_left
        · intro w hSw; (try dsimp only at hSw); go_simp; try with_reducible rfl
        try simp only [Act.put, sX, sY, sZ]
        refine anyT_take (i := 1) (v := ?_) gO kR kR kR kR (by exact fun _ _ _ h => h) (Or.inl ⟨by rfl, ?_⟩) (by assumption) ?_
        rotate_left
        · intro w hSw; (try dsimp only at hSw); go_simp; try with_reducible rfl
        try simp only [Act.put, sX, sY, sZ]
        refine anyT_take (i := 2) (v := ?_) gO kR kR kR kR (by exact fun _ _ _ h => h) (Or.inl ⟨by rfl, ?_⟩) (by assumption) ?_
        rotate_left
        · intro w hSw; (try dsimp only at hSw); go_simp; try with_reducible rfl
        try simp only [Act.put, sX, sY, sZ]
        refine anyT_take (i := 3) (v := ?_) gO kR kR kR kR (by exact fun _ _ _ h => h) (Or.inl ⟨by rfl, ?_⟩) (by assumption) ?_
        rotate_left
        · intro w hSw; (try dsimp only at hSw); go_simp; try with_reducible rfl
        try simp only [Act.put, sX, sY, sZ]
        refine anyT_take (i := 4) (v := ?_) gO kR kR kR kR (by exact fun _ _ _ h => h) (Or.inl ⟨by rfl, ?_⟩) (by assumption) ?_
        rotate_left
        · intro w hSw; (try dsimp only at hSw); go_simp; try with_reducible rfl
        try simp only [Act.put, sX, sY, sZ]
        refine anyT_take (i := 5) (v := ?_) gO kR kR kR kR (by exact fun _ _ _ h => h) (Or.inl ⟨by rfl, ?_⟩) (by assumption) ?_
        rotate_left
        · intro w hSw; (try dsimp only at hSw); go_simp; try with_reducible rfl
        try simp only [Act.put, sX, sY, sZ]
        refine anyT_take (i := 6) (v := ?_) gO kR kR kR kR (by exact fun _ _ _ h => h) (Or.inl ⟨by rfl, ?_⟩) (by assumption) ?_
        rotate_left
        · intro w hSw; (try dsimp only at hSw); go_simp; try with_reducible rfl
        try simp only [Act.put, sX, sY, sZ]
        refine anyT_take (i := 7) (v := ?_) gO kR kR kR kR (by exact fun _ _ _ h => h) (Or.inl ⟨by rfl, ?_⟩) (by assumption) ?_
        rotate_left
        · intro w hSw; (try dsimp only at hSw); go_simp; try with_reducible rfl
        try simp only [Act.put, sX, sY, sZ]
        refine anyT_take (i := 8) (v := ?_) gO kR kR kR kR (by exact fun _ _ _ h => h) (Or.inl ⟨by rfl, ?_⟩) (by assumption) ?_
        rotate_left
        · intro w hSw; (try dsimp only at hSw); go_simp; try with_reducible rfl
        try simp only [Act.put, sX, sY, sZ]
        refine anyT_take (i := 9) (v := ?_) gO kR kR kR kR (by exact fun _ _ _ h => h) (Or.inl ⟨by rfl, ?_⟩) (by assumption) ?_
        rotate_left
        · intro w hSw; (try dsimp only at hSw); go_simp; try with_reducible rfl
        try simp only [Act.put, sX, sY, sZ]
        refine anyT_take (i := 10) (v := ?_) gO kR kR kR kR (by exact fun _ _ _ h => h) (Or.inl ⟨by rfl, ?_⟩) (by assumption) ?_
        rotate_left
        · intro w hSw; (try dsimp only at hSw); go_simp; try with_reducible rfl
        try simp only [Act.put, sX, sY, sZ]
        refine anyT_take (i := 11) (v := ?_) gO kR kR kR kR (by exact fun _ _ _ h => h) (Or.inl ⟨by rfl, ?_⟩) (by assumption) ?_
        rotate_left
        · intro w hSw; (try dsimp only at hSw); go_simp; try with_reducible rfl
        try simp only [Act.put, sX, sY, sZ]
        refine anyT_take (i := 12) (v := ?_) gO kR kR kR kR (by exact fun _ _ _ h => h) (Or.inl ⟨by rfl, ?_⟩) (by assumption) ?_
        rotate_left
        · intro w hSw; (try dsimp only at hSw); go_simp; try with_reducible rfl
        try simp only [Act.put, sX, sY, sZ]
        refine anyT_take (i := 13) (v := ?_) gO kR kR kR kR (by exact fun _ _ _ h => h) (Or.inl ⟨by rfl, ?_⟩) (by assumption) ?_
        rotate_left
        · intro w hSw; (try dsimp only at hSw); go_simp; try with_reducible rfl
        try simp only [Act.put, sX, sY, sZ]
        refine anyT_take (i := 14) (v := ?_) gO kR kR kR kR (by exact fun _ _ _ h => h) (Or.inl ⟨by rfl, ?_⟩) (by assumption) ?_
        rotate_left
        · intro w hSw; (try dsimp only at hSw); go_simp; try with_reducible rfl
        try simp only [Act.put, sX, sY, sZ]
        refine anyT_take (i := 15) (v := ?_) gO kR kR kR kR (by exact fun _ _ _ h => h) (Or.inl ⟨by rfl, ?_⟩) (by assumption) ?_
        rotate_left
        · intro w hSw; (try dsimp only at hSw); go_simp; try with_reducible rfl
        try simp only [Act.put, sX, sY, sZ]
        refine anyT_take (i := 16) (v := ?_) gO kR kR kR kR (by exact fun _ _ _ h => h) (Or.inl ⟨by rfl, ?_⟩) (by assumption) ?_
        rotate_left
        · intro w hSw; (try dsimp only at hSw); go_simp; try with_reducible rfl
        try simp only [Act.put, sX, sY, sZ]
        refine anyT_take (i := 17) (v := ?_) gO kR kR kR kR (by exact fun _ _ _ h => h) (Or.inl ⟨by rfl, ?_⟩) (by assumption) ?_
        rotate_left
        · intro w hSw; (try dsimp only at hSw); go_simp; try with_reducible rfl
        try simp only [Act.put, sX, sY, sZ]
        refine anyT_take (i := 18) (v := ?_) gO kR kR kR kR (by exact fun _ _ _ h => h) (Or.inl ⟨by rfl, ?_⟩) (by assumption) ?_
        rotate_left
        · intro w hSw; (try dsimp only at hSw); go_simp; try with_reducible rfl
        try simp only [Act.put, sX, sY, sZ]
        refine anyT_take (i := 19) (v := ?_) gO kR kR kR kR (by exact fun _ _ _ h => h) (Or.inl ⟨by rfl, ?_⟩) (by assumption) ?_
        rotate_left
        · intro w hSw; (try dsimp only at hSw); go_simp; try with_reducible rfl
        try simp only [Act.put, sX, sY, sZ]
        refine anyT_take (i := 20) (v := ?_) gO kR kR kR kR (by exact fun _ _ _ h => h) (Or.inl ⟨by rfl, ?_⟩) (by assumption) ?_
        rotate_left
        · intro w hSw; (try dsimp only at hSw); go_simp; try with_reducible rfl
        try simp only [Act.put, sX, sY, sZ]
        refine anyT_take (i := 21) (v := ?_) gO kR kR kR kR (by exact fun _ _ _ h => h) (Or.inl ⟨by rfl, ?_⟩) (by assumption) ?_
        rotate_left
        · intro w hSw; (try dsimp only at hSw); go_simp; try with_reducible rfl
        try simp only [Act.put, sX, sY, sZ]
        refine anyT_take (i := 22) (v := ?_) gO kR kR kR kR (by exact fun _ _ _ h => h) (Or.inl ⟨by rfl, ?_⟩) (by assumption) ?_
        rotate_left
        · intro w hSw; (try dsimp only at hSw); go_simp; try with_reducible rfl
        try simp only [Act.put, sX, sY, sZ]
        refine anyT_take (i := 23) (v := ?_) gO kR kR kR kR (by exact fun _ _ _ h => h) (Or.inl ⟨by rfl, ?_⟩) (by assumption) ?_
        rotate_left
        · intro w hSw; (try dsimp only at hSw); go_simp; try with_reducible rfl
        try simp only [Act.put, sX, sY, sZ]
        refine anyT_take (i := 24) (v := ?_) gO kR kR kR kR (by exact fun _ _ _ h => h) (Or.inl ⟨by rfl, ?_⟩) (by assumption) ?_
        rotate_left
        · intro w hSw; (try dsimp only at hSw); go_simp; try with_reducible rfl
        try simp only [Act.put, sX, sY, sZ]
        refine anyT_take (i := 26) (v := ?_) gO kR kR kR kR (by exact fun _ _ _ h => h) (Or.inl ⟨by rfl, ?_⟩) (by assumption) ?_
        rotate_left
        · intro w hSw; (try dsimp only at hSw); go_simp; try with_reducible rfl
        try simp only [Act.put, sX, sY, sZ]
        refine anyT_take (i := 27) (v := ?_) gO kR kR kR kR (by exact fun _ _ _ h => h) (Or.inl ⟨by rfl, ?_⟩) (by assumption) ?_
        rotate_left
        · intro w hSw; (try dsimp only at hSw); go_simp; try with_reducible rfl
        try simp only [Act.put, sX, sY, sZ]
        refine anyT_take (i := 28) (v := ?_) gO kR kR kR kR (by exact fun _ _ _ h => h) (Or.inl ⟨by rfl, ?_⟩) (by assumption) ?_
        rotate_left
        · intro w hSw; (try dsimp only at hSw); go_simp; try with_reducible rfl
        try simp only [Act.put, sX, sY, sZ]
        refine anyT_ready (rs := [25]) kR (by simp) (ReadyT.cons gO (fun K hK => ?_) ReadyT.nil)
        go_simp
        go_at_call 32
        (with_reducible refine (nat_Word _ _ _ V m1 _ ((h7.to hbl).to bW) M1).mono ?_)
        rintro e wx1 ⟨rfl, hbx1⟩
        go_simp
        refine hK.out _ _ ⟨cellB (show Below wr.heap.size wr _ from bW) L4B, cellB (show Below wr.heap.size wr _ from bW) C2, cellB (show Below wr.heap.size wr _ from bW) C1, cellB (show Below wr.heap.size wr _ from bW) C0⟩ (fun hHeld => ?_)
        clear hK K
        try simp only [Act.put, sX, sY, sZ]
        refine anyT_ready (rs := [29]) kR (by simp) (ReadyT.cons gO (fun K hK => ?_) ReadyT.nil)
        go_simp
        go_at_call 32
        (with_reducible refine (nat_Word _ _ _ V m0 _ ((h7.to hbl).to bW) M0).mono ?_)
        rintro e wx0 ⟨rfl, hbx0⟩
        have ho3 := own_below hq (show Below wr.heap.size wr wx0 from bW)
        have f3 := ho3.frozenAt j
        have c3 := ho3.cellAt j (by omega)
        rw [dl_get _ _ _ _ _ (by omega)] at c3
        go_simp
        refine hK.out _ _ ⟨cellB (show Below wr.heap.size wr _ from bW) L4B, cellB (show Below wr.heap.size wr _ from bW) C2, cellB (show Below wr.heap.size wr _ from bW) C1, cellB (show Below wr.heap.size wr _ from bW) C0⟩ (fun hHeld => ?_)
        clear hK K
        try simp only [Act.put, sX, sY, sZ]
        refine anyT_ready (rs := [30]) kR (by simp) (ReadyT.cons gO (fun K hK => ?_) ReadyT.nil)
        go_simp
        go_at_call 61
        rw [← HV1.out, ← HV0.out]
        (with_reducible refine (quot_guess u2 u1 u0 v1 v0 _ g1 g2 W2 W1 W0 X1 X0).mono ?_)
        rw [← HQ.out]
        rintro e wg ⟨rfl, ng, rfl⟩
        go_simp
        refine hK.out _ _ ⟨cellB (show Below wr.heap.size wr _ from bW) L4B, cellB (show Below wr.heap.size wr _ from bW) C2, cellB (show Below wr.heap.size wr _ from bW) C1, cellB (show Below wr.heap.size wr _ from bW) C0⟩ (fun hHeld => ?_)
        clear hK K
        try simp only [Act.put, sX, sY, sZ]
        refine anyT_take (i := 31) (v := ?_) gO kR kR kR kR (by exact fun _ _ _ h => h) (Or.inl ⟨by rfl, ?_⟩) (by assumption) ?_
        rotate_left
        · intro w hSw; (try dsimp only at hSw); go_simp; try with_reducible rfl
        try simp only [Act.put, sX, sY, sZ]
        refine anyT_ready (rs := [32]) kR (by simp) (ReadyT.last gO (by rfl) (fun K hK => ?_))
        go_simp
        refine hK.out _ _ ?_
        clear hK K
        try simp only [Act.put, sX, sY, sZ]
        refine anyT_done kR ?_ _
        have ho := ((own_drewN ho3 ng).stored j (.int .u64 (q : Nat))).1
        rw [dl_set W_pos (by omega) hqW, put_upper W_pos] at ho
        have hu4 := own_gb (own_drewN (own_below hu (show Below wr.heap.size wr wx0 from bW)) ng) (gb_set (gb_refl _ gq) (p := ⟨gq, j, none⟩) rfl (.int .u64 (q : Nat))) (Nat.ne_of_lt hguq)
        have hb4 := (below_drewN (nx hbl (show Below wr.heap.size wr wx0 from bW)) ng).setCell (p := ⟨gq, j, none⟩) hgq0 (.int .u64 (q : Nat))
        clear c3 f3 ho3 hbx0 hbx1 hHeld hu hq hbl L4B C0 C1 C2
        generalize (wx0.drewN ng).setCell ⟨gq, j, none⟩ (.int .u64 (q : Nat)) = w20 at ho hu4 hb4 ⊢
        clear g1 g2 W2 W1 W0 X1 X0 HQ HV1 HV0 E0 E1 F1 F0 M1 M0 I3 I4
        have cq := ho.cellAt j (by omega)
        rw [dl_get _ _ _ _ _ (by omega)] at cq
        have DQ : dg W j ((q + W * Q) * W ^ j) = q := by unfold dg; rw [Nat.mul_div_cancel _ (Nat.pow_pos W_pos), Nat.add_mul_mod_self_left, Nat.mod_eq_of_lt hqW]
        rw [DQ] at cq
        clear DQ
        have L4C := (B4.to hb4).cell
        have hcu := (own_lies hu4 (by omega))
        obtain ⟨_, _, hcu0, _, _, hcu1, hcu2, _, _⟩ := hcu
        cases hcu0
        obtain ⟨a3, ha3⟩ : ∃ a, a = a2 + 1 := ⟨_, rfl⟩
        have E3 : IntKind.i64.wrap ((a2 : Int) + 1) = (a3 : Int) := by rw [IntWalk.i64_in _ (by omega)]; omega
        have K1 : a3 ≤ cu := by have := HA2.out; omega
        have K2 : j ≤ a3 := by have := HA2.out; omega
        have K3 : ¬ cu = j := by have := HA2.out; omega
        have K4 : a3 - j = n7 + 1 := by have := HA2.out; omega
        clear ha3
        go_wp2_with fail
        refine wp_regionS (S := fun w' => w'.cell? ⟨w7.heap.size, 0, none⟩ = some (.slice A7 n7 c7) ∧ w'.cell? ⟨gq, j, none⟩ = some (.int .u64 (q : Nat))) [12] kR ⟨cellB (show Below w20.heap.size w20 _ from bW) L4C, cellB (show Below w20.heap.size w20 _ from bW) cq⟩ (fun hHeld => ?_)
        have hbd4 : Below w20.heap.size w20 w20.drew := nxw (Below.refl _ _)
        generalize w20.drew = wd4 at hHeld hbd4 ⊢
        refine anyS_take0 (i := 0) (v := ?_) gO kR kR kR (by rfl) (by exact fun _ _ _ h => h) (Or.inl ⟨by rfl, ?_⟩) (fun _ => by assumption) ?_
        rotate_left
        · intro w hSw; (try dsimp only at hSw); go_simp; try with_reducible rfl
        try simp only [Act.put, sX, sY, sZ]
        refine anyS_take0 (i := 1) (v := ?_) gO kR kR kR (by rfl) (by exact fun _ _ _ h => h) (Or.inl ⟨by rfl, ?_⟩) (fun _ => by assumption) ?_
        rotate_left
        · intro w hSw; (try dsimp only at hSw); go_simp; try with_reducible rfl
        try simp only [Act.put, sX, sY, sZ]
        refine anyS_take0 (i := 2) (v := ?_) gO kR kR kR (by rfl) (by exact fun _ _ _ h => h) (Or.inl ⟨by rfl, ?_⟩) (fun _ => by assumption) ?_
        rotate_left
        · intro w hSw; (try dsimp only at hSw); go_simp; try with_reducible rfl
        try simp only [Act.put, sX, sY, sZ]
        refine anyS_take0 (i := 3) (v := ?_) gO kR kR kR (by rfl) (by exact fun _ _ _ h => h) (Or.inl ⟨by rfl, ?_⟩) (fun _ => by assumption) ?_
        rotate_left
        · intro w hSw; (try dsimp only at hSw); go_simp; try with_reducible rfl
        try simp only [Act.put, sX, sY, sZ]
        refine anyS_take0 (i := 4) (v := ?_) gO kR kR kR (by rfl) (by exact fun _ _ _ h => h) (Or.inl ⟨by rfl, ?_⟩) (fun _ => by assumption) ?_
        rotate_left
        · intro w hSw; (try dsimp only at hSw); go_simp; try with_reducible rfl
        try simp only [Act.put, sX, sY, sZ]
        refine anyS_take0 (i := 5) (v := ?_) gO kR kR kR (by rfl) (by exact fun _ _ _ h => h) (Or.inl ⟨by rfl, ?_⟩) (fun _ => by assumption) ?_
        rotate_left
        · intro w hSw; (try dsimp only at hSw); go_simp; try with_reducible rfl
        try simp only [Act.put, sX, sY, sZ]
        refine anyS_take0 (i := 6) (v := ?_) gO kR kR kR (by rfl) (by exact fun _ _ _ h => h) (Or.inl ⟨by rfl, ?_⟩) (fun _ => by assumption) ?_
        rotate_left
        · intro w hSw; (try dsimp only at hSw); go_simp; try with_reducible rfl
        try simp only [Act.put, sX, sY, sZ]
        refine anyS_take (i := 7) (v := ?_) gO kR kR kR kR kR (by exact fun _ _ _ h => h) (Or.inl ⟨by rfl, ?_⟩) (by assumption) ?_
        rotate_left
        · intro w hSw; (try dsimp only at hSw); go_simp; try with_reducible rfl
        try simp only [Act.put, sX, sY, sZ]
        refine anyS_take0 (i := 8) (v := ?_) gO kR kR kR (by rfl) (by exact fun _ _ _ h => h) (Or.inl ⟨by rfl, ?_⟩) (fun _ => by assumption) ?_
        rotate_left
        · intro w hSw; (try dsimp only at hSw); go_simp; try with_reducible rfl
        try simp only [Act.put, sX, sY, sZ]
        refine anyS_take0 (i := 9) (v := ?_) gO kR kR kR (by rfl) (by exact fun _ _ _ h => h) (Or.inl ⟨by rfl, ?_⟩) (fun _ => by assumption) ?_
        rotate_left
        · intro w hSw; (try dsimp only at hSw); go_simp; try with_reducible rfl
        try simp only [Act.put, sX, sY, sZ]
        refine anyS_take0 (i := 10) (v := ?_) gO kR kR kR (by rfl) (by exact fun _ _ _ h => h) (Or.inl ⟨by rfl, ?_⟩) (fun _ => by assumption) ?_
        rotate_left
        · intro w hSw; (try dsimp only at hSw); go_simp; try with_reducible rfl
        try simp only [Act.put, sX, sY, sZ]
        refine anyS_take (i := 11) (v := ?_) gO kR kR kR kR kR (by exact fun _ _ _ h => h) (Or.inl ⟨by rfl, ?_⟩) (by assumption) ?_
        rotate_left
        · intro w hSw; (try dsimp only at hSw); go_simp; try with_reducible rfl
        try simp only [Act.put, sX, sY, sZ]
        refine anyS_ready (rs := [12]) kR (by simp) (ReadyS.last gO kR (fun K hK => ?_))
        go_simp
        go_at_call 62
        (with_reducible refine (quot_take w10.heap.size gu (d + n7 + 1) cu U j n7 (cu - j) A7 c7 V q _ (own_below hu4 (show Below w20.heap.size w20 _ from bW)) (h7.to (nx hb4 (show Below w20.heap.size w20 _ from bW))) hA7 (by omega) hqW (by omega) (by omega) (by omega)).mono ?_)
        rintro e wt ⟨U1, b, rfl, hb01, t1, t2, hu5, hgb5⟩
        go_simp
        refine hK.out _ _ ?_
        clear hK K
        try simp only [Act.put, sX, sY, sZ]
        refine anyS_done kR ?_ _
        have hbd5 : Below w20.heap.size w20 wd4 := by assumption
        have hq5 := own_gb (own_below ho hbd5) hgb5 (Ne.symm (Nat.ne_of_lt hguq))
        have hb5 := (nx hb4 hbd5).grown hgb5 (nx hb4 hbd5).size (fun k hk => by cases hk; exact gu0)
        clear hu4 ho hb4 hbd4 hbd5 hgb5 cq L4C hHeld
        rcases G3.out with g | g
        · obtain ⟨rfl, hT2⟩ := HT.out.fits hY g t1 t2 hb01
          have HT2 := Lib.hid hT2
          clear hT2 g t1 t2 HT
          go_wp2_with fail
          go_roundw
          case rel => exact ⟨j, U1, q + W * Q, by omega, rfl, HT2.out, hu5, hq5, hb5⟩
          case measure => simp [intOf]
        · obtain ⟨rfl, hT2⟩ := HT.out.over hY g t1 t2 hb01
          obtain ⟨p, hp⟩ : ∃ p, p = qd j U V := ⟨_, rfl⟩
          rw [← hp] at g hT2
          have HT2 := Lib.hid hT2
          have EP : (q : Int) - 1 = (p : Int) := by omega
          have hpW : p < W := by omega
          have hq1 : 1 ≤ q := by omega
          have cq := hq5.cellAt j (by omega)
          rw [dl_get _ _ _ _ _ (by omega)] at cq
          have DQ : dg W j ((q + W * Q) * W ^ j) = q := by unfold dg; rw [Nat.mul_div_cancel _ (Nat.pow_pos W_pos), Nat.add_mul_mod_self_left, Nat.mod_eq_of_lt hqW]
          rw [DQ] at cq
          have fq := hq5.frozenAt j
          have EW : IntKind.u64.wrap ((q : Int) - 1) = (p : Int) := by rw [EP, wrap_nat, Nat.mod_eq_of_lt hpW]
          clear DQ hT2 g t1 t2 HT hp hq1 EP
          go_upto_region 18 with (fail)
          have ho := (hq5.stored j (.int .u64 (p : Nat))).1
          rw [dl_set W_pos (by omega) hpW, put_same W_pos hqW] at ho
          have hu6 := own_gb hu5 (gb_set (gb_refl _ gq) (p := ⟨gq, j, none⟩) rfl (.int .u64 (p : Nat))) (Nat.ne_of_lt hguq)
          have hb6 := hb5.setCell (p := ⟨gq, j, none⟩) hgq0 (.int .u64 (p : Nat))
          clear cq fq hq5 hu5 hb5 EW
          generalize wt.setCell ⟨gq, j, none⟩ (.int .u64 (p : Nat)) = w30 at ho hu6 hb6 ⊢
          have L4C := (B4.to hb6).cell
          refine wp_regionS (S := fun w' => w'.cell? ⟨w7.heap.size, 0, none⟩ = some (.slice A7 n7 c7) ∧ True) [8] kR ⟨cellB (show Below w30.heap.size w30 _ from bW) L4C, trivial⟩ (fun hHeld => ?_)
          have hbd5 : Below w30.heap.size w30 w30.drew := nxw (Below.refl _ _)
          generalize w30.drew = wd5 at hHeld hbd5 ⊢
          refine anyS_take0 (i := 0) (v := ?_) gO kR kR kR (by rfl) (by exact fun _ _ _ h => h) (Or.inl ⟨by rfl, ?_⟩) (fun _ => by assumption) ?_
          rotate_left
          · intro w hSw; (try dsimp only at hSw); go_simp; try with_reducible rfl
          try simp only [Act.put, sX, sY, sZ]
          refine anyS_take0 (i := 1) (v := ?_) gO kR kR kR (by rfl) (by exact fun _ _ _ h => h) (Or.inl ⟨by rfl, ?_⟩) (fun _ => by assumption) ?_
          rotate_left
          · intro w hSw; (try dsimp only at hSw); go_simp; try with_reducible rfl
          try simp only [Act.put, sX, sY, sZ]
          refine anyS_take0 (i := 2) (v := ?_) gO kR kR kR (by rfl) (by exact fun _ _ _ h => h) (Or.inl ⟨by rfl, ?_⟩) (fun _ => by assumption) ?_
          rotate_left
          · intro w hSw; (try dsimp only at hSw); go_simp; try with_reducible rfl
          try simp only [Act.put, sX, sY, sZ]
          refine anyS_take0 (i := 3) (v := ?_) gO kR kR kR (by rfl) (by exact fun _ _ _ h => h) (Or.inl ⟨by rfl, ?_⟩) (fun _ => by assumption) ?_
          rotate_left
          · intro w hSw; (try dsimp only at hSw); go_simp; try with_reducible rfl
          try simp only [Act.put, sX, sY, sZ]
          refine anyS_take0 (i := 4) (v := ?_) gO kR kR kR (by rfl) (by exact fun _ _ _ h => h) (Or.inl ⟨by rfl, ?_⟩) (fun _ => by assumption) ?_
          rotate_left
          · intro w hSw; (try dsimp only at hSw); go_simp; try with_reducible rfl
          try simp only [Act.put, sX, sY, sZ]
          refine anyS_take0 (i := 5) (v := ?_) gO kR kR kR (by rfl) (by exact fun _ _ _ h => h) (Or.inl ⟨by rfl, ?_⟩) (fun _ => by assumption) ?_
          rotate_left
          · intro w hSw; (try dsimp only at hSw); go_simp; try with_reducible rfl
          try simp only [Act.put, sX, sY, sZ]
          refine anyS_take0 (i := 6) (v := ?_) gO kR kR kR (by rfl) (by exact fun _ _ _ h => h) (Or.inl ⟨by rfl, ?_⟩) (fun _ => by assumption) ?_
          rotate_left
          · intro w hSw; (try dsimp only at hSw); go_simp; try with_reducible rfl
          try simp only [Act.put, sX, sY, sZ]
          refine anyS_take (i := 7) (v := ?_) gO kR kR kR kR kR (by exact fun _ _ _ h => h) (Or.inl ⟨by rfl, ?_⟩) (by assumption) ?_
          rotate_left
          · intro w hSw; (try dsimp only at hSw); go_simp; try with_reducible rfl
          try simp only [Act.put, sX, sY, sZ]
          refine anyS_ready (rs := [8]) kR (by simp) (ReadyS.last gO kR (fun K hK => ?_))
          go_simp
          go_at_call 63
          (with_reducible refine (quot_back w10.heap.size gu (d + n7 + 1) cu U1 j n7 (cu - j) A7 c7 V _ (own_below hu6 (show Below w30.heap.size w30 _ from bW)) (h7.to (nx hb6 (show Below w30.heap.size w30 _ from bW))) hA7 (by omega) (by omega) (by omega) (by omega)).mono ?_)
          rintro e wk ⟨U2, b2, rfl, t3, t4, hu7, hgb7⟩
          go_simp
          refine hK.out _ _ ?_
          clear hK K
          try simp only [Act.put, sX, sY, sZ]
          refine anyS_done kR ?_ _
          have hbd7 : Below w30.heap.size w30 wd5 := by assumption
          have hq7 := own_gb (own_below ho hbd7) hgb7 (Ne.symm (Nat.ne_of_lt hguq))
          have hb7 := (nx hb6 hbd7).grown hgb7 (nx hb6 hbd7).size (fun k hk => by cases hk; exact gu0)
          have HT3 := Lib.hid (HT2.out U2 b2 t3 t4)
          clear hu6 ho hb6 hbd5 hbd7 hgb7 L4C hHeld t3 t4 HT2
          go_wp2_with fail
          go_roundw
          case rel => exact ⟨j, U2, p + W * Q, by omega, rfl, HT3.out, hu7, hq7, hb7⟩
          case measure => simp [intOf]
end Go.Proofs.Ythjokpnihoigeaa
set_option linter.unusedVariables false
set_option linter.unusedSimpArgs false
namespace Go.Proofs.Ythjokpnihoigeaa
open Go.RowKit
set_option maxRecDepth 100000
theorem quot_DivMod (A : Option Addr) (n c x : Nat) (A' : Option Addr) (n' c' y : Nat) (w : World) (h : NatAt w A n c x) (h' : NatAt w A' n' c' y) (hn : n ≤ 17592186044000) (hy0 : 0 < y) :
    Calls Try.prog 49 #[.agg #[.slice A n c], .agg #[.slice A' n' c']] w (RetDiv w (x / y) (x % y) true) := by
  rcases Nat.lt_or_ge 1 n' with h1 | h1
  · rcases Nat.lt_or_ge x y with h2 | h2
    · have := quot_DivMod_below A n c x A' n' c' y w h h' h1 h2
      rwa [Nat.div_eq_of_lt h2, Nat.mod_eq_of_lt h2]
    · exact quot_DivMod_main A n c x A' n' c' y w h h' hn h1 h2
  · exact quot_DivMod_word A n c x A' n' c' y w h h' (by omega) h1 hy0
theorem nat_nil (w : World) : NatAt w none 0 0 0 := ⟨Dig.nil _ _ _ _ (by omega), fun h => absurd h (by omega)⟩
set_option maxHeartbeats 4000000 in
theorem quot_Div_zero (A : Option Addr) (n c x : Nat) (A' : Option Addr) (n' c' y : Nat) (w : World) (h : NatAt w A n c x) (h' : NatAt w A' n' c' y) (hn : n ≤ 17592186044000) (hy0 : y = 0) :
    Calls Try.prog 38 #[.agg #[.slice A n c], .agg #[.slice A' n' c']] w (RetNatB w 0 false) := by
  go_enter Try.func38, Try.ntmps38
  go_wp2_with fail
  have X1 := Blk1.newAt w (w.heap.size) 25 (.slice A n c) (by first | rfl | simp)
  have X2 := Blk1.newAt (w.alloc (.cells #[.slice A n c] 25)) (w.heap.size + 1) 25 (.slice A' n' c') (by first | rfl | simp)
  have X3 := Blk1.newAt ((w.alloc (.cells #[.slice A n c] 25)).alloc (.cells #[.slice A' n' c'] 25)) (w.heap.size + 1 + 1) 25 (.slice none 0 0) (by first | rfl | simp)
  replace X1 := (show Blk1 (((w.alloc (.cells #[.slice A n c] 25)).alloc (.cells #[.slice A' n' c'] 25)).alloc (.cells #[.slice none 0 0] 25)) _ _ _ from X1.to bW)
  replace X2 := (show Blk1 (((w.alloc (.cells #[.slice A n c] 25)).alloc (.cells #[.slice A' n' c'] 25)).alloc (.cells #[.slice none 0 0] 25)) _ _ _ from X2.to bW)
  have hbwe1 : Below w.heap.size w (((w.alloc (.cells #[.slice A n c] 25)).alloc (.cells #[.slice A' n' c'] 25)).alloc (.cells #[.slice none 0 0] 25)) := bW
  generalize (((w.alloc (.cells #[.slice A n c] 25)).alloc (.cells #[.slice A' n' c'] 25)).alloc (.cells #[.slice none 0 0] 25)) = we1 at X1 X2 X3 hbwe1  ⊢
  refine (quot_DivMod_zero _ _ _ _ _ _ _ _ _ (h.to bW) (h'.to bW) (by omega) hy0).mono ?_
  rintro e w1 ⟨A1, n1, c1, A1', n1', c1', rfl, h1, h1', hb1⟩
  have q1 := h1.le_of 0 (by decide)
  have q1' := h1'.le_of 0 (by decide)
  have YX3 := (show Blk1 ((w1.alloc (.cells #[.slice A1 n1 c1] 25)).alloc (.cells #[.slice A1' n1' c1'] 25)) _ _ _ from X3.to bW)
  obtain ⟨lr1, hbr⟩ := store1 (w0 := w) (show Below w.heap.size w ((w1.alloc (.cells #[.slice A1 n1 c1] 25)).alloc (.cells #[.slice A1' n1' c1'] 25)) from bW) (by show w.heap.size ≤ w.heap.size + 1 + 1; omega) YX3 (show NatAt ((w1.alloc (.cells #[.slice A1 n1 c1] 25)).alloc (.cells #[.slice A1' n1' c1'] 25)) _ _ _ _ from (h1.to bW))
  have cr1 := YX3.cell
  have fr1 := YX3.free
  have er1 := lr1.1.cell
  clear YX3
  go_wp2_with fail
  exact bodyPost_ret (v := .tuple #[.agg #[.slice A1 n1 c1], .bool false]) (by simp [results, Try.results38, go_sem, er1]) rfl ⟨_, _, _, rfl, lr1.2, hbr⟩
set_option maxHeartbeats 4000000 in
theorem quot_Div (A : Option Addr) (n c x : Nat) (A' : Option Addr) (n' c' y : Nat) (w : World) (h : NatAt w A n c x) (h' : NatAt w A' n' c' y) (hn : n ≤ 17592186044000) (hy0 : 0 < y) :
    Calls Try.prog 38 #[.agg #[.slice A n c], .agg #[.slice A' n' c']] w (RetNatB w (x / y) true) := by
  go_enter Try.func38, Try.ntmps38
  go_wp2_with fail
  have X1 := Blk1.newAt w (w.heap.size) 25 (.slice A n c) (by first | rfl | simp)
  have X2 := Blk1.newAt (w.alloc (.cells #[.slice A n c] 25)) (w.heap.size + 1) 25 (.slice A' n' c') (by first | rfl | simp)
  have X3 := Blk1.newAt ((w.alloc (.cells #[.slice A n c] 25)).alloc (.cells #[.slice A' n' c'] 25)) (w.heap.size + 1 + 1) 25 (.slice none 0 0) (by first | rfl | simp)
  replace X1 := (show Blk1 (((w.alloc (.cells #[.slice A n c] 25)).alloc (.cells #[.slice A' n' c'] 25)).alloc (.cells #[.slice none 0 0] 25)) _ _ _ from X1.to bW)
  replace X2 := (show Blk1 (((w.alloc (.cells #[.slice A n c] 25)).alloc (.cells #[.slice A' n' c'] 25)).alloc (.cells #[.slice none 0 0] 25)) _ _ _ from X2.to bW)
  have hbwe1 : Below w.heap.size w (((w.alloc (.cells #[.slice A n c] 25)).alloc (.cells #[.slice A' n' c'] 25)).alloc (.cells #[.slice none 0 0] 25)) := bW
  generalize (((w.alloc (.cells #[.slice A n c] 25)).alloc (.cells #[.slice A' n' c'] 25)).alloc (.cells #[.slice none 0 0] 25)) = we1 at X1 X2 X3 hbwe1  ⊢
  refine (quot_DivMod _ _ _ _ _ _ _ _ _ (h.to bW) (h'.to bW) (by omega) hy0).mono ?_
  rintro e w1 ⟨A1, n1, c1, A1', n1', c1', rfl, h1, h1', hb1⟩
  have q1 := h1.le_of _ (Nat.lt_of_le_of_lt (Nat.div_le_self _ _) h.lt)
  have q1' := h1'.le_of _ (Nat.lt_of_le_of_lt (Nat.mod_le _ _) h.lt)
  have YX3 := (show Blk1 ((w1.alloc (.cells #[.slice A1 n1 c1] 25)).alloc (.cells #[.slice A1' n1' c1'] 25)) _ _ _ from X3.to bW)
  obtain ⟨lr1, hbr⟩ := store1 (w0 := w) (show Below w.heap.size w ((w1.alloc (.cells #[.slice A1 n1 c1] 25)).alloc (.cells #[.slice A1' n1' c1'] 25)) from bW) (by show w.heap.size ≤ w.heap.size + 1 + 1; omega) YX3 (show NatAt ((w1.alloc (.cells #[.slice A1 n1 c1] 25)).alloc (.cells #[.slice A1' n1' c1'] 25)) _ _ _ _ from (h1.to bW))
  have cr1 := YX3.cell
  have fr1 := YX3.free
  have er1 := lr1.1.cell
  clear YX3
  go_wp2_with fail
  exact bodyPost_ret (v := .tuple #[.agg #[.slice A1 n1 c1], .bool true]) (by simp [results, Try.results38, go_sem, er1]) rfl ⟨_, _, _, rfl, lr1.2, hbr⟩
set_option maxHeartbeats 4000000 in
theorem quot_Mod_zero (A : Option Addr) (n c x : Nat) (A' : Option Addr) (n' c' y : Nat) (w : World) (h : NatAt w A n c x) (h' : NatAt w A' n' c' y) (hn : n ≤ 17592186044000) (hy0 : y = 0) :
    Calls Try.prog 28 #[.agg #[.slice A n c], .agg #[.slice A' n' c']] w (RetNatB w 0 false) := by
  go_enter Try.func28, Try.ntmps28
  go_wp2_with fail
  have X1 := Blk1.newAt w (w.heap.size) 25 (.slice A n c) (by first | rfl | simp)
  have X2 := Blk1.newAt (w.alloc (.cells #[.slice A n c] 25)) (w.heap.size + 1) 25 (.slice A' n' c') (by first | rfl | simp)
  have X3 := Blk1.newAt ((w.alloc (.cells #[.slice A n c] 25)).alloc (.cells #[.slice A' n' c'] 25)) (w.heap.size + 1 + 1) 25 (.slice none 0 0) (by first | rfl | simp)
  replace X1 := (show Blk1 (((w.alloc (.cells #[.slice A n c] 25)).alloc (.cells #[.slice A' n' c'] 25)).alloc (.cells #[.slice none 0 0] 25)) _ _ _ from X1.to bW)
  replace X2 := (show Blk1 (((w.alloc (.cells #[.slice A n c] 25)).alloc (.cells #[.slice A' n' c'] 25)).alloc (.cells #[.slice none 0 0] 25)) _ _ _ from X2.to bW)
  have hbwe1 : Below w.heap.size w (((w.alloc (.cells #[.slice A n c] 25)).alloc (.cells #[.slice A' n' c'] 25)).alloc (.cells #[.slice none 0 0] 25)) := bW
  generalize (((w.alloc (.cells #[.slice A n c] 25)).alloc (.cells #[.slice A' n' c'] 25)).alloc (.cells #[.slice none 0 0] 25)) = we1 at X1 X2 X3 hbwe1  ⊢
  refine (quot_DivMod_zero _ _ _ _ _ _ _ _ _ (h.to bW) (h'.to bW) (by omega) hy0).mono ?_
  rintro e w1 ⟨A1, n1, c1, A1', n1', c1', rfl, h1, h1', hb1⟩
  have q1 := h1.le_of 0 (by decide)
  have q1' := h1'.le_of 0 (by decide)
  have YX3 := (show Blk1 ((w1.alloc (.cells #[.slice A1 n1 c1] 25)).alloc (.cells #[.slice A1' n1' c1'] 25)) _ _ _ from X3.to bW)
  obtain ⟨lr1, hbr⟩ := store1 (w0 := w) (show Below w.heap.size w ((w1.alloc (.cells #[.slice A1 n1 c1] 25)).alloc (.cells #[.slice A1' n1' c1'] 25)) from bW) (by show w.heap.size ≤ w.heap.size + 1 + 1; omega) YX3 (show NatAt ((w1.alloc (.cells #[.slice A1 n1 c1] 25)).alloc (.cells #[.slice A1' n1' c1'] 25)) _ _ _ _ from (h1'.to bW))
  have cr1 := YX3.cell
  have fr1 := YX3.free
  have er1 := lr1.1.cell
  clear YX3
  go_wp2_with fail
  exact bodyPost_ret (v := .tuple #[.agg #[.slice A1' n1' c1'], .bool false]) (by simp [results, Try.results28, go_sem, er1]) rfl ⟨_, _, _, rfl, lr1.2, hbr⟩
set_option maxHeartbeats 4000000 in
theorem quot_Mod (A : Option Addr) (n c x : Nat) (A' : Option Addr) (n' c' y : Nat) (w : World) (h : NatAt w A n c x) (h' : NatAt w A' n' c' y) (hn : n ≤ 17592186044000) (hy0 : 0 < y) :
    Calls Try.prog 28 #[.agg #[.slice A n c], .agg #[.slice A' n' c']] w (RetNatB w (x % y) true) := by
  go_enter Try.func28, Try.ntmps28
  go_wp2_with fail
  have X1 := Blk1.newAt w (w.heap.size) 25 (.slice A n c) (by first | rfl | simp)
  have X2 := Blk1.newAt (w.alloc (.cells #[.slice A n c] 25)) (w.heap.size + 1) 25 (.slice A' n' c') (by first | rfl | simp)
  have X3 := Blk1.newAt ((w.alloc (.cells #[.slice A n c] 25)).alloc (.cells #[.slice A' n' c'] 25)) (w.heap.size + 1 + 1) 25 (.slice none 0 0) (by first | rfl | simp)
  replace X1 := (show Blk1 (((w.alloc (.cells #[.slice A n c] 25)).alloc (.cells #[.slice A' n' c'] 25)).alloc (.cells #[.slice none 0 0] 25)) _ _ _ from X1.to bW)
  replace X2 := (show Blk1 (((w.alloc (.cells #[.slice A n c] 25)).alloc (.cells #[.slice A' n' c'] 25)).alloc (.cells #[.slice none 0 0] 25)) _ _ _ from X2.to bW)
  have hbwe1 : Below w.heap.size w (((w.alloc (.cells #[.slice A n c] 25)).alloc (.cells #[.slice A' n' c'] 25)).alloc (.cells #[.slice none 0 0] 25)) := bW
  generalize (((w.alloc (.cells #[.slice A n c] 25)).alloc (.cells #[.slice A' n' c'] 25)).alloc (.cells #[.slice none 0 0] 25)) = we1 at X1 X2 X3 hbwe1  ⊢
  refine (quot_DivMod _ _ _ _ _ _ _ _ _ (h.to bW) (h'.to bW) (by omega) hy0).mono ?_
  rintro e w1 ⟨A1, n1, c1, A1', n1', c1', rfl, h1, h1', hb1⟩
  have q1 := h1.le_of _ (Nat.lt_of_le_of_lt (Nat.div_le_self _ _) h.lt)
  have q1' := h1'.le_of _ (Nat.lt_of_le_of_lt (Nat.mod_le _ _) h.lt)
  have YX3 := (show Blk1 ((w1.alloc (.cells #[.slice A1 n1 c1] 25)).alloc (.cells #[.slice A1' n1' c1'] 25)) _ _ _ from X3.to bW)
  obtain ⟨lr1, hbr⟩ := store1 (w0 := w) (show Below w.heap.size w ((w1.alloc (.cells #[.slice A1 n1 c1] 25)).alloc (.cells #[.slice A1' n1' c1'] 25)) from bW) (by show w.heap.size ≤ w.heap.size + 1 + 1; omega) YX3 (show NatAt ((w1.alloc (.cells #[.slice A1 n1 c1] 25)).alloc (.cells #[.slice A1' n1' c1'] 25)) _ _ _ _ from (h1'.to bW))
  have cr1 := YX3.cell
  have fr1 := YX3.free
  have er1 := lr1.1.cell
  clear YX3
  go_wp2_with fail
  exact bodyPost_ret (v := .tuple #[.agg #[.slice A1' n1' c1'], .bool true]) (by simp [results, Try.results28, go_sem, er1]) rfl ⟨_, _, _, rfl, lr1.2, hbr⟩
set_option maxHeartbeats 4000000 in
theorem quot_Divides_zz (A' : Option Addr) (n' c' y : Nat) (A : Option Addr) (n c x : Nat) (w : World) (h' : NatAt w A' n' c' y) (h : NatAt w A n c x) (hn : n ≤ 17592186044000) (hy : y = 0) (hx : x = 0) :
    Calls Try.prog 16 #[.agg #[.slice A' n' c'], .agg #[.slice A n c]] w (Ret w (.bool true)) := by
  go_enter Try.func16, Try.ntmps16
  go_wp2_with fail
  have X1 := Blk1.newAt w (w.heap.size) 25 (.slice A' n' c') (by first | rfl | simp)
  have X2 := Blk1.newAt (w.alloc (.cells #[.slice A' n' c'] 25)) (w.heap.size + 1) 25 (.slice A n c) (by first | rfl | simp)
  replace X1 := (show Blk1 ((w.alloc (.cells #[.slice A' n' c'] 25)).alloc (.cells #[.slice A n c] 25)) _ _ _ from X1.to bW)
  have hbwe1 : Below w.heap.size w ((w.alloc (.cells #[.slice A' n' c'] 25)).alloc (.cells #[.slice A n c] 25)) := bW
  generalize ((w.alloc (.cells #[.slice A' n' c'] 25)).alloc (.cells #[.slice A n c] 25)) = we1 at X1 X2 hbwe1  ⊢
  refine (quot_Mod_zero _ _ _ _ _ _ _ _ _ (h.to bW) (h'.to bW) (by omega) hy).mono ?_
  rintro e w1 ⟨A1, n1, c1, rfl, h1, hb1⟩
  have q1 := h1.le_of 0 (by decide)
  have d1 := (show Blk1 (w1.alloc (.cells #[.slice A1 n1 c1] 25)) _ _ _ from X1.to bW).cell
  go_wp2_with fail
  clear d1
  have X3 := Blk1.newAt w1 (w1.heap.size) 25 (.slice A1 n1 c1) (by first | rfl | simp)
  have hbwe2 : Below w1.heap.size w1 (w1.alloc (.cells #[.slice A1 n1 c1] 25)) := bW
  generalize (w1.alloc (.cells #[.slice A1 n1 c1] 25)) = we2 at X3 hbwe2  ⊢
  refine (nat_Zero _ _ _ _ _ (h'.to bW)).mono ?_
  rw [decide_eq_true hy]
  rintro e w2 ⟨rfl, hb2⟩
  have d2 := (show Blk1 w2 _ _ _ from X2.to bW).cell
  go_wp2_with fail
  clear d2
  refine (nat_Zero _ _ _ _ _ (h.to bW)).mono ?_
  rw [decide_eq_true hx]
  rintro e w3 ⟨rfl, hb3⟩
  go_wp2_with fail
  go_ret
  exact ⟨rfl, bW⟩
set_option maxHeartbeats 4000000 in
theorem quot_Divides_zp (A' : Option Addr) (n' c' y : Nat) (A : Option Addr) (n c x : Nat) (w : World) (h' : NatAt w A' n' c' y) (h : NatAt w A n c x) (hn : n ≤ 17592186044000) (hy : y = 0) (hx : ¬ x = 0) :
    Calls Try.prog 16 #[.agg #[.slice A' n' c'], .agg #[.slice A n c]] w (Ret w (.bool false)) := by
  go_enter Try.func16, Try.ntmps16
  go_wp2_with fail
  have X1 := Blk1.newAt w (w.heap.size) 25 (.slice A' n' c') (by first | rfl | simp)
  have X2 := Blk1.newAt (w.alloc (.cells #[.slice A' n' c'] 25)) (w.heap.size + 1) 25 (.slice A n c) (by first | rfl | simp)
  replace X1 := (show Blk1 ((w.alloc (.cells #[.slice A' n' c'] 25)).alloc (.cells #[.slice A n c] 25)) _ _ _ from X1.to bW)
  have hbwe1 : Below w.heap.size w ((w.alloc (.cells #[.slice A' n' c'] 25)).alloc (.cells #[.slice A n c] 25)) := bW
  generalize ((w.alloc (.cells #[.slice A' n' c'] 25)).alloc (.cells #[.slice A n c] 25)) = we1 at X1 X2 hbwe1  ⊢
  refine (quot_Mod_zero _ _ _ _ _ _ _ _ _ (h.to bW) (h'.to bW) (by omega) hy).mono ?_
  rintro e w1 ⟨A1, n1, c1, rfl, h1, hb1⟩
  have q1 := h1.le_of 0 (by decide)
  have d1 := (show Blk1 (w1.alloc (.cells #[.slice A1 n1 c1] 25)) _ _ _ from X1.to bW).cell
  go_wp2_with fail
  clear d1
  have X3 := Blk1.newAt w1 (w1.heap.size) 25 (.slice A1 n1 c1) (by first | rfl | simp)
  have hbwe2 : Below w1.heap.size w1 (w1.alloc (.cells #[.slice A1 n1 c1] 25)) := bW
  generalize (w1.alloc (.cells #[.slice A1 n1 c1] 25)) = we2 at X3 hbwe2  ⊢
  refine (nat_Zero _ _ _ _ _ (h'.to bW)).mono ?_
  rw [decide_eq_true hy]
  rintro e w2 ⟨rfl, hb2⟩
  have d2 := (show Blk1 w2 _ _ _ from X2.to bW).cell
  go_wp2_with fail
  clear d2
  refine (nat_Zero _ _ _ _ _ (h.to bW)).mono ?_
  rw [decide_eq_false hx]
  rintro e w3 ⟨rfl, hb3⟩
  go_wp2_with fail
  go_ret
  exact ⟨rfl, bW⟩
set_option maxHeartbeats 4000000 in
theorem quot_Divides_pz (A' : Option Addr) (n' c' y : Nat) (A : Option Addr) (n c x : Nat) (w : World) (h' : NatAt w A' n' c' y) (h : NatAt w A n c x) (hn : n ≤ 17592186044000) (hy : 0 < y) (hx : x % y = 0) :
    Calls Try.prog 16 #[.agg #[.slice A' n' c'], .agg #[.slice A n c]] w (Ret w (.bool true)) := by
  go_enter Try.func16, Try.ntmps16
  go_wp2_with fail
  have X1 := Blk1.newAt w (w.heap.size) 25 (.slice A' n' c') (by first | rfl | simp)
  have X2 := Blk1.newAt (w.alloc (.cells #[.slice A' n' c'] 25)) (w.heap.size + 1) 25 (.slice A n c) (by first | rfl | simp)
  replace X1 := (show Blk1 ((w.alloc (.cells #[.slice A' n' c'] 25)).alloc (.cells #[.slice A n c] 25)) _ _ _ from X1.to bW)
  have hbwe1 : Below w.heap.size w ((w.alloc (.cells #[.slice A' n' c'] 25)).alloc (.cells #[.slice A n c] 25)) := bW
  generalize ((w.alloc (.cells #[.slice A' n' c'] 25)).alloc (.cells #[.slice A n c] 25)) = we1 at X1 X2 hbwe1  ⊢
  refine (quot_Mod _ _ _ _ _ _ _ _ _ (h.to bW) (h'.to bW) (by omega) hy).mono ?_
  rintro e w1 ⟨A1, n1, c1, rfl, h1, hb1⟩
  have q1 := h1.le_of _ (Nat.lt_of_le_of_lt (Nat.mod_le _ _) h.lt)
  go_wp2_with fail
  have X3 := Blk1.newAt w1 (w1.heap.size) 25 (.slice A1 n1 c1) (by first | rfl | simp)
  have hbwe2 : Below w1.heap.size w1 (w1.alloc (.cells #[.slice A1 n1 c1] 25)) := bW
  generalize (w1.alloc (.cells #[.slice A1 n1 c1] 25)) = we2 at X3 hbwe2  ⊢
  refine (nat_Zero _ _ _ _ _ (h1.to bW)).mono ?_
  rw [decide_eq_true hx]
  rintro e w2 ⟨rfl, hb2⟩
  go_wp2_with fail
  go_ret
  exact ⟨rfl, bW⟩
set_option maxHeartbeats 4000000 in
theorem quot_Divides_pp (A' : Option Addr) (n' c' y : Nat) (A : Option Addr) (n c x : Nat) (w : World) (h' : NatAt w A' n' c' y) (h : NatAt w A n c x) (hn : n ≤ 17592186044000) (hy : 0 < y) (hx : ¬ x % y = 0) :
    Calls Try.prog 16 #[.agg #[.slice A' n' c'], .agg #[.slice A n c]] w (Ret w (.bool false)) := by
  have HY := Lib.hid (show ¬ y = 0 by omega)
  go_enter Try.func16, Try.ntmps16
  go_wp2_with fail
  have X1 := Blk1.newAt w (w.heap.size) 25 (.slice A' n' c') (by first | rfl | simp)
  have X2 := Blk1.newAt (w.alloc (.cells #[.slice A' n' c'] 25)) (w.heap.size + 1) 25 (.slice A n c) (by first | rfl | simp)
  replace X1 := (show Blk1 ((w.alloc (.cells #[.slice A' n' c'] 25)).alloc (.cells #[.slice A n c] 25)) _ _ _ from X1.to bW)
  have hbwe1 : Below w.heap.size w ((w.alloc (.cells #[.slice A' n' c'] 25)).alloc (.cells #[.slice A n c] 25)) := bW
  generalize ((w.alloc (.cells #[.slice A' n' c'] 25)).alloc (.cells #[.slice A n c] 25)) = we1 at X1 X2 hbwe1  ⊢
  refine (quot_Mod _ _ _ _ _ _ _ _ _ (h.to bW) (h'.to bW) (by omega) hy).mono ?_
  rintro e w1 ⟨A1, n1, c1, rfl, h1, hb1⟩
  have q1 := h1.le_of _ (Nat.lt_of_le_of_lt (Nat.mod_le _ _) h.lt)
  go_wp2_with fail
  have X3 := Blk1.newAt w1 (w1.heap.size) 25 (.slice A1 n1 c1) (by first | rfl | simp)
  have hbwe2 : Below w1.heap.size w1 (w1.alloc (.cells #[.slice A1 n1 c1] 25)) := bW
  generalize (w1.alloc (.cells #[.slice A1 n1 c1] 25)) = we2 at X3 hbwe2  ⊢
  refine (nat_Zero _ _ _ _ _ (h1.to bW)).mono ?_
  rw [decide_eq_false hx]
  rintro e w2 ⟨rfl, hb2⟩
  have d1 := (show Blk1 w2 _ _ _ from X1.to bW).cell
  go_wp2_with fail
  clear d1
  refine (nat_Zero _ _ _ _ _ (h'.to bW)).mono ?_
  rw [decide_eq_false (show ¬ y = 0 from HY.out)]
  rintro e w3 ⟨rfl, hb3⟩
  go_wp2_with fail
  go_ret
  exact ⟨rfl, bW⟩
theorem quot_Divides (A' : Option Addr) (n' c' y : Nat) (A : Option Addr) (n c x : Nat) (w : World) (h' : NatAt w A' n' c' y) (h : NatAt w A n c x) (hn : n ≤ 17592186044000) :
    Calls Try.prog 16 #[.agg #[.slice A' n' c'], .agg #[.slice A n c]] w (Ret w (.bool (decide (y ∣ x)))) := by
  by_cases hy : y = 0
  · by_cases hx : x = 0
    · rw [decide_eq_true (show y ∣ x by rw [hx]; exact Nat.dvd_zero _)]; exact quot_Divides_zz A' n' c' y A n c x w h' h hn hy hx
    · rw [decide_eq_false (show ¬ y ∣ x by rw [hy]; exact fun h => hx (Nat.eq_zero_of_zero_dvd h))]; exact quot_Divides_zp A' n' c' y A n c x w h' h hn hy hx
  · by_cases hx : x % y = 0
    · rw [decide_eq_true (Nat.dvd_of_mod_eq_zero hx)]; exact quot_Divides_pz A' n' c' y A n c x w h' h hn (by omega) hx
    · rw [decide_eq_false (fun h => hx (Nat.mod_eq_zero_of_dvd h))]; exact quot_Divides_pp A' n' c' y A n c x w h' h hn (by omega) hx
end Go.Proofs.Ythjokpnihoigeaa
