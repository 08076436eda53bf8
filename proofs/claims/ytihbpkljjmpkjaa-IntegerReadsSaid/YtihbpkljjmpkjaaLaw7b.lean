/- Ref and Like. -/
import Derived.Test.YtihbpkljjmpkjaaLaw7
import Derived.Test.YtihbpkljjmpkjaaRef7c
import Derived.Test.YtihbpkljjmpkjaaKC
set_option linter.unusedVariables false
set_option linter.unusedSimpArgs false
namespace Go.Proofs.Ytihbpkljjmpkjaa
open Go.RowKit
set_option maxRecDepth 100000
set_option maxHeartbeats 4000000 in
theorem law7_Ref (b : Bool) (A : Option Addr) (n c u : Nat) (w : World) (k1 : Dig .u64 W w A n c u) (hn : n ≤ 100000000) :
    Calls Try.prog 13 #[.agg #[.bool b, .slice A n c]] w (RetZ w (sg b u)) := by
  go_enter Try.func13, Try.ntmps13
  go_wp2_with fail
  have X1 := Blk2.newAt w (w.heap.size) 24 (.bool b) (.slice A n c) (by first | rfl | simp)
  have X2 := Blk2.newAt (w.alloc (.cells #[.bool b, .slice A n c] 24)) (w.heap.size + 1) 34 (.bool false) (.slice none 0 0) (by first | rfl | simp)
  replace X1 := (show Blk2 ((w.alloc (.cells #[.bool b, .slice A n c] 24)).alloc (.cells #[.bool false, .slice none 0 0] 34)) _ _ _ _ from X1.to bW)
  have hbwe1 : Below w.heap.size w ((w.alloc (.cells #[.bool b, .slice A n c] 24)).alloc (.cells #[.bool false, .slice none 0 0] 34)) := bW
  generalize ((w.alloc (.cells #[.bool b, .slice A n c] 24)).alloc (.cells #[.bool false, .slice none 0 0] 34)) = we1 at X1 X2 hbwe1  ⊢
  have CX1 := (show Blk2 we1 _ _ _ _ from X1.to bW).cell
  have CX1' := (show Blk2 we1 _ _ _ _ from X1.to bW).cell1
  have KP1 : ∀ w', Below we1.heap.size we1 w' → w'.cell? ⟨w.heap.size, 0, none⟩ = some (.bool b) ∧ w'.cell? ⟨w.heap.size, 1, none⟩ = some (.slice A n c) ∧ True := fun w' hw' => ⟨cellB hw' CX1, cellB hw' CX1', trivial⟩
  refine wp_regionT (S := fun w' => w'.cell? ⟨w.heap.size, 0, none⟩ = some (.bool b) ∧ w'.cell? ⟨w.heap.size, 1, none⟩ = some (.slice A n c) ∧ True) [] kR (by first | exact ⟨CSX1_1, CSX1'_1, trivial⟩ | exact KP1 _ bW) (fun hHeld => ?_)
  have hbd1 : Below we1.heap.size we1 we1.drew := nxw (Below.refl _ _)
  generalize we1.drew = wd1 at hHeld hbd1 ⊢
  refine anyT_take (i := 0) (v := ?_) gO kR kR kR kR (by exact fun _ _ _ h => h) (Or.inl ⟨by rfl, ?_⟩) (by assumption) ?_
  rotate_left
  · intro w hSw; (try dsimp only at hSw); go_simp; try with_reducible rfl
  try simp only [Act.put, sX, sY, sZ]
  refine anyT_take (i := 1) (v := ?_) gO kR kR kR kR (by exact fun _ _ _ h => h) (Or.inl ⟨by rfl, ?_⟩) (by assumption) ?_
  rotate_left
  · intro w hSw; (try dsimp only at hSw); go_simp; try with_reducible rfl
  try simp only [Act.put, sX, sY, sZ]
  refine anyT_take (i := 2) (v := ?_) gO kR kR kR kR (by exact fun _ _ _ h => h) (Or.inl ⟨by rfl, ?_⟩) (by assumption) ?_
  rotate_left
  · intro w hSw; (try dsimp only at hSw); go_simp; try with_reducible rfl
  try simp only [Act.put, sX, sY, sZ]
  refine anyT_take (i := 3) (v := ?_) gO kR kR kR kR (by exact fun _ _ _ h => h) (Or.inl ⟨by rfl, ?_⟩) (by assumption) ?_
  rotate_left
  · intro w hSw; (try dsimp only at hSw); go_simp; try with_reducible rfl
  try simp only [Act.put, sX, sY, sZ]
  refine anyT_ready (rs := [4]) kR (by simp) (ReadyT.cons gO (fun K hK => ?_) ReadyT.nil)
  go_simp
  go_at_call 39
  (with_reducible refine (ref2_Of _ _ _ _ _ (k1.to bW) (by omega)).mono ?_)
  rintro e w1 ⟨A1, n1, c1, rfl, h1, hb1, hf1⟩
  have l1 := ref_len h1 k1.lt
  go_simp
  refine hK.out _ _ (by first | exact ⟨CSX1_1, CSX1'_1, trivial⟩ | exact KP1 _ bW) (fun hHeld => ?_)
  clear hK K
  try simp only [Act.put, sX, sY, sZ]
  refine anyT_ready (rs := [5]) kR (by simp) (ReadyT.cons gO (fun K hK => ?_) ReadyT.nil)
  go_simp
  go_at_call 22
  refine (ref7_New b _ _ _ u _ (h1.to bW)).mono ?_
  rintro e w2 ⟨A2, n2, c2, rfl, h2, hb2⟩
  go_simp
  refine hK.out _ _ (by first | exact ⟨CSX1_1, CSX1'_1, trivial⟩ | exact KP1 _ bW) (fun hHeld => ?_)
  clear hK K
  try simp only [Act.put, sX, sY, sZ]
  refine anyT_ready (rs := [6]) kR (by simp) (ReadyT.cons gO (fun K hK => ?_) ReadyT.nil)
  have cqX2 := (show Blk2 w2 _ _ _ _ from X2.to bW).cell
  have cqX2' := (show Blk2 w2 _ _ _ _ from X2.to bW).cell1
  have fqX2 := (show Blk2 w2 _ _ _ _ from X2.to bW).free 0
  have fqX2' := (show Blk2 w2 _ _ _ _ from X2.to bW).free 1
  have CSX1_1 := (((show Blk2 w2 _ _ _ _ from X1.to bW).far (p := ⟨w.heap.size + 1, 0, none⟩) (by show w.heap.size ≠ w.heap.size + 1; omega) (.bool (bz (sg b u)))).far (p := ⟨w.heap.size + 1, 1, none⟩) (by show w.heap.size ≠ w.heap.size + 1; omega) (.slice A2 n2 c2)).cell
  have CSX1'_1 := (((show Blk2 w2 _ _ _ _ from X1.to bW).far (p := ⟨w.heap.size + 1, 0, none⟩) (by show w.heap.size ≠ w.heap.size + 1; omega) (.bool (bz (sg b u)))).far (p := ⟨w.heap.size + 1, 1, none⟩) (by show w.heap.size ≠ w.heap.size + 1; omega) (.slice A2 n2 c2)).cell1
  go_simp
  refine hK.out _ _ (by first | exact ⟨CSX1_1, CSX1'_1, trivial⟩ | exact KP1 _ bW) (fun hHeld => ?_)
  clear hK K
  try simp only [Act.put, sX, sY, sZ]
  refine anyT_done kR ?_ _
  clear CSX1_1 CSX1'_1
  clear hHeld cqX2 cqX2' fqX2' fqX2 CX1 CX1' KP1
  replace k1 := (show Dig _ _ w2 _ _ _ _ from k1.to bW)
  replace h1 := (show NumAt _ _ w2 _ _ _ _ from h1.to bW)
  replace h2 := (show NumAt _ _ w2 _ _ _ _ from h2.to bW)
  replace X1 := (show Blk2 w2 _ _ _ _ from X1.to bW)
  replace X2 := (show Blk2 w2 _ _ _ _ from X2.to bW)
  have hbws2 := below_put2 (show Below w.heap.size w w2 from bW) (g := w.heap.size + 1) (by show w.heap.size ≤ w.heap.size + 1; omega) (.bool (bz (sg b u))) (.slice A2 n2 c2)
  replace k1 := k1.put2 X2 (bool_no _) (slice_no _ _ _) (.bool (bz (sg b u))) (.slice A2 n2 c2)
  replace h1 := h1.put2 X2 (.bool (bz (sg b u))) (.slice A2 n2 c2)
  replace h2 := h2.put2 X2 (.bool (bz (sg b u))) (.slice A2 n2 c2)
  replace X1 := X1.off2 (g := w.heap.size + 1) (by show w.heap.size ≠ w.heap.size + 1; omega) (.bool (bz (sg b u))) (.slice A2 n2 c2)
  replace X2 := X2.put2 (.bool (bz (sg b u))) (.slice A2 n2 c2)
  rw [show (w2.setCell ⟨w.heap.size + 1, 0, none⟩ (.bool (bz (sg b u)))).setCell ⟨w.heap.size + 1, 1, none⟩ (.slice A2 n2 c2) = put2 w2 (w.heap.size + 1) (.bool (bz (sg b u))) (.slice A2 n2 c2) from rfl]
  generalize put2 w2 (w.heap.size + 1) (.bool (bz (sg b u))) (.slice A2 n2 c2) = ws2 at k1 h1 h2 X1 X2 hbws2 ⊢
  go_wp2_with fail
  have erX2 := (show Blk2 ws2 _ _ _ _ from X2.to bW).cell
  have erX2' := (show Blk2 ws2 _ _ _ _ from X2.to bW).cell1
  exact bodyPost_ret (v := .agg #[.bool (bz (sg b u)), .slice A2 n2 c2]) (by simp [results, Try.results13, go_sem, erX2, erX2']) rfl ⟨_, _, _, rfl, (show NumAt _ _ ws2 _ _ _ _ from (h2.to bW)), (show Below w.heap.size w ws2 from bW)⟩
set_option maxHeartbeats 4000000 in
theorem law7_Like (A : Option Addr) (n c : Nat) (A' : Option Addr) (n' c' : Nat) (z : Int) (w : World) (h : NatAt w A n c z.natAbs) (h' : NumAt .i64 65536 w A' n' c' z.natAbs) (hn : n ≤ 1000000000) (hn' : n' ≤ 4000000000) :
    Calls Try.prog 17 #[.agg #[.bool (bz z), .slice A n c], .agg #[.bool (bz z), .slice A' n' c']] w (Ret w (.bool true)) := by
  have m1 := h'.1.max
  have m2 := h'.1.cap
  cases hb : bz z
  rotate_left
  case true =>
    have HS := Lib.hid (show sgn z = -1 from cmpZ_lt (bz_true.1 hb))
    have HB := Lib.hid hb
    clear hb
    go_enter Try.func17, Try.ntmps17
    go_wp2_with fail
    have X1 := Blk2.newAt w (w.heap.size) 29 (.bool true) (.slice A n c) (by first | rfl | simp)
    have X2 := Blk2.newAt (w.alloc (.cells #[.bool true, .slice A n c] 29)) (w.heap.size + 1) 34 (.bool true) (.slice A' n' c') (by first | rfl | simp)
    replace X1 := (show Blk2 ((w.alloc (.cells #[.bool true, .slice A n c] 29)).alloc (.cells #[.bool true, .slice A' n' c'] 34)) _ _ _ _ from X1.to bW)
    have hbwe1 : Below w.heap.size w ((w.alloc (.cells #[.bool true, .slice A n c] 29)).alloc (.cells #[.bool true, .slice A' n' c'] 34)) := bW
    generalize ((w.alloc (.cells #[.bool true, .slice A n c] 29)).alloc (.cells #[.bool true, .slice A' n' c'] 34)) = we1 at X1 X2 hbwe1  ⊢
    have CX1 := (show Blk2 we1 _ _ _ _ from X1.to bW).cell
    have CX1' := (show Blk2 we1 _ _ _ _ from X1.to bW).cell1
    have CX2 := (show Blk2 we1 _ _ _ _ from X2.to bW).cell
    have CX2' := (show Blk2 we1 _ _ _ _ from X2.to bW).cell1
    refine wp_regionE [] kR kR (mk_nil) (by exact fun _ _ _ _ _ h => h) (by exact fun _ _ _ _ _ h => h) (f := 19) (by rfl) ?_
    have hbdE1 : Below we1.heap.size we1 we1.drew := nxw (Below.refl _ _)
    generalize we1.drew = wdE1 at hbdE1 ⊢
    replace CX1 := cellB hbdE1 CX1
    replace CX1' := cellB hbdE1 CX1'
    replace CX2 := cellB hbdE1 CX2
    replace CX2' := cellB hbdE1 CX2'
    have ltX1_wdE1 : w.heap.size < wdE1.heap.size := (show Blk2 wdE1 _ _ _ _ from X1.to bW).lt
    have ltX2_wdE1 : w.heap.size + 1 < wdE1.heap.size := (show Blk2 wdE1 _ _ _ _ from X2.to bW).lt
    have hH := Lib.hid (Below.refl wdE1.heap.size wdE1)
    refine anyE_take (i := 0) (v := ?_) gO kR (by exact fun _ _ _ h => h) (Or.inl ⟨by rfl, ?_⟩) hH.out ?_
    rotate_left
    · intro w hSw; have c := cellB hSw CX1; have c' := cellB hSw CX1'; go_simp; try with_reducible rfl
    try simp only [Act.put, sX, sY, sZ]
    refine anyE_take (i := 2) (v := ?_) gO kR (by exact fun _ _ _ h => h) (Or.inl ⟨by rfl, ?_⟩) hH.out ?_
    rotate_left
    · intro w hSw; go_simp; try with_reducible rfl
    try simp only [Act.put, sX, sY, sZ]
    refine anyE_take (i := 3) (v := ?_) gO kR (by exact fun _ _ _ h => h) (Or.inl ⟨by rfl, ?_⟩) hH.out ?_
    rotate_left
    · intro w hSw; have c := cellB hSw CX2; have c' := cellB hSw CX2'; go_simp; try with_reducible rfl
    try simp only [Act.put, sX, sY, sZ]
    refine anyE_one (i := 1) gO kR (fun wi1_1 hbwi1_1 K hK => ?_)
    go_simp
    go_at_call 47
    refine (integer_Below_b true HB.out _ _ _ _ (h.to bW)).mono ?_
    rintro e w1 ⟨rfl, hb1⟩
    go_simp
    refine hK.out _ _ (show Below wi1_1.heap.size wi1_1 w1 from bW) ?_
    clear hK K
    replace hH := Lib.hid (nx hH.out (show Below wdE1.heap.size wdE1 w1 from bW))
    try simp only [Act.put, sX, sY, sZ]
    refine anyE_take (i := 4) (v := ?_) gO kR (by exact fun _ _ _ h => h) (Or.inl ⟨by rfl, ?_⟩) hH.out ?_
    rotate_left
    · intro w hSw; go_simp; try with_reducible rfl
    try simp only [Act.put, sX, sY, sZ]
    refine anyE_take (i := 5) (v := ?_) gO kR (by exact fun _ _ _ h => h) (Or.inl ⟨by rfl, ?_⟩) hH.out ?_
    rotate_left
    · intro w hSw; go_simp; try with_reducible rfl
    try simp only [Act.put, sX, sY, sZ]
    refine anyE_take (i := 6) (v := ?_) gO kR (by exact fun _ _ _ h => h) (Or.inl ⟨by rfl, ?_⟩) hH.out ?_
    rotate_left
    · intro w hSw; have c := cellB hSw CX1; have c' := cellB hSw CX1'; go_simp; try with_reducible rfl
    try simp only [Act.put, sX, sY, sZ]
    refine anyE_take (i := 8) (v := ?_) gO kR (by exact fun _ _ _ h => h) (Or.inl ⟨by rfl, ?_⟩) hH.out ?_
    rotate_left
    · intro w hSw; go_simp; try with_reducible rfl
    try simp only [Act.put, sX, sY, sZ]
    refine anyE_one (i := 7) gO kR (fun wi1_7 hbwi1_7 K hK => ?_)
    go_simp
    go_at_call 15
    refine (integer_Sign_b true HB.out _ _ _ _ (h.to bW)).mono ?_
    rw [HS.out]
    rintro e w2 ⟨rfl, hb2⟩
    go_simp
    refine hK.out _ _ (show Below wi1_7.heap.size wi1_7 w2 from bW) ?_
    clear hK K
    replace hH := Lib.hid (nx hH.out (show Below w1.heap.size w1 w2 from bW))
    try simp only [Act.put, sX, sY, sZ]
    refine anyE_take (i := 9) (v := ?_) gO kR (by exact fun _ _ _ h => h) (Or.inl ⟨by rfl, ?_⟩) hH.out ?_
    rotate_left
    · intro w hSw; go_simp; try with_reducible rfl
    try simp only [Act.put, sX, sY, sZ]
    refine anyE_take (i := 10) (v := ?_) gO kR (by exact fun _ _ _ h => h) (Or.inl ⟨by rfl, ?_⟩) hH.out ?_
    rotate_left
    · intro w hSw; go_simp; try with_reducible rfl
    try simp only [Act.put, sX, sY, sZ]
    refine anyE_take (i := 11) (v := ?_) gO kR (by exact fun _ _ _ h => h) (Or.inl ⟨by rfl, ?_⟩) hH.out ?_
    rotate_left
    · intro w hSw; go_simp; try with_reducible rfl
    try simp only [Act.put, sX, sY, sZ]
    refine anyE_take (i := 12) (v := ?_) gO kR (by exact fun _ _ _ h => h) (Or.inl ⟨by rfl, ?_⟩) hH.out ?_
    rotate_left
    · intro w hSw; have c := cellB hSw CX1; have c' := cellB hSw CX1'; go_simp; try with_reducible rfl
    try simp only [Act.put, sX, sY, sZ]
    refine anyE_take (i := 14) (v := ?_) gO kR (by exact fun _ _ _ h => h) (Or.inl ⟨by rfl, ?_⟩) hH.out ?_
    rotate_left
    · intro w hSw; go_simp; try with_reducible rfl
    try simp only [Act.put, sX, sY, sZ]
    refine anyE_take (i := 15) (v := ?_) gO kR (by exact fun _ _ _ h => h) (Or.inl ⟨by rfl, ?_⟩) hH.out ?_
    rotate_left
    · intro w hSw; have c := cellB hSw CX2; have c' := cellB hSw CX2'; go_simp; try with_reducible rfl
    try simp only [Act.put, sX, sY, sZ]
    refine anyE_one (i := 13) gO kR (fun wi1_13 hbwi1_13 K hK => ?_)
    go_simp
    go_at_call 31
    refine (integer_Abs_b true HB.out _ _ _ _ (h.to bW)).mono ?_
    rintro e w3 ⟨A3, n3, c3, rfl, h3, hb3⟩
    have q3 := h3.le_of _ h.lt
    go_simp
    refine hK.out _ _ (show Below wi1_13.heap.size wi1_13 w3 from bW) ?_
    clear hK K
    replace hH := Lib.hid (nx hH.out (show Below w2.heap.size w2 w3 from bW))
    try simp only [Act.put, sX, sY, sZ]
    refine anyE_one (i := 16) gO kR (fun wi1_16 hbwi1_16 K hK => ?_)
    go_simp
    go_at_call 48
    (with_reducible refine (law_Like _ _ _ _ _ _ _ _ (h3.to bW) (h'.to bW) (by omega) (by omega)).mono ?_)
    rintro e w4 ⟨rfl, hb4⟩
    go_simp
    refine hK.out _ _ (show Below wi1_16.heap.size wi1_16 w4 from bW) ?_
    clear hK K
    replace hH := Lib.hid (nx hH.out (show Below w3.heap.size w3 w4 from bW))
    try simp only [Act.put, sX, sY, sZ]
    refine anyE_take (i := 17) (v := ?_) gO kR (by exact fun _ _ _ h => h) (Or.inl ⟨by rfl, ?_⟩) hH.out ?_
    rotate_left
    · intro w hSw; go_simp; try with_reducible rfl
    try simp only [Act.put, sX, sY, sZ]
    refine anyE_take (i := 18) (v := ?_) gO kR (by exact fun _ _ _ h => h) (Or.inl ⟨by rfl, ?_⟩) hH.out ?_
    rotate_left
    · intro w hSw; go_simp; try with_reducible rfl
    try simp only [Act.put, sX, sY, sZ]
    refine anyE_done kR (fun wzE1 hbzE1 => ?_)
    refine FinD_nil ?_
    try simp only [Act.put, sX, sY, sZ]
    have hbtE1 := Lib.hid (show Below we1.heap.size we1 wzE1 from nx hbdE1 (nx hH.out hbzE1))
    clear hH
    refine anyT_done kR ?_ _
    clear CX1 CX1' CX2 CX2'
    go_wp2_with fail
    go_ret
    exact ⟨rfl, bW⟩
  case false =>
    have HB := Lib.hid hb
    by_cases h0 : z = 0
    · have HS := Lib.hid (show sgn z = 0 from cmpZ_eq h0)
      have zn : (((n' : Nat) : Int) == 0) = true := by have := (h'.zero_iff (by decide)).1 (by rw [h0]; rfl); simp; omega
      clear hb h0
      go_enter Try.func17, Try.ntmps17
      go_wp2_with fail
      have X1 := Blk2.newAt w (w.heap.size) 29 (.bool false) (.slice A n c) (by first | rfl | simp)
      have X2 := Blk2.newAt (w.alloc (.cells #[.bool false, .slice A n c] 29)) (w.heap.size + 1) 34 (.bool false) (.slice A' n' c') (by first | rfl | simp)
      replace X1 := (show Blk2 ((w.alloc (.cells #[.bool false, .slice A n c] 29)).alloc (.cells #[.bool false, .slice A' n' c'] 34)) _ _ _ _ from X1.to bW)
      have hbwe1 : Below w.heap.size w ((w.alloc (.cells #[.bool false, .slice A n c] 29)).alloc (.cells #[.bool false, .slice A' n' c'] 34)) := bW
      generalize ((w.alloc (.cells #[.bool false, .slice A n c] 29)).alloc (.cells #[.bool false, .slice A' n' c'] 34)) = we1 at X1 X2 hbwe1  ⊢
      have CX1 := (show Blk2 we1 _ _ _ _ from X1.to bW).cell
      have CX1' := (show Blk2 we1 _ _ _ _ from X1.to bW).cell1
      have CX2 := (show Blk2 we1 _ _ _ _ from X2.to bW).cell
      have CX2' := (show Blk2 we1 _ _ _ _ from X2.to bW).cell1
      refine wp_regionE [] kR kR (mk_nil) (by exact fun _ _ _ _ _ h => h) (by exact fun _ _ _ _ _ h => h) (f := 19) (by rfl) ?_
      have hbdE1 : Below we1.heap.size we1 we1.drew := nxw (Below.refl _ _)
      generalize we1.drew = wdE1 at hbdE1 ⊢
      replace CX1 := cellB hbdE1 CX1
      replace CX1' := cellB hbdE1 CX1'
      replace CX2 := cellB hbdE1 CX2
      replace CX2' := cellB hbdE1 CX2'
      have ltX1_wdE1 : w.heap.size < wdE1.heap.size := (show Blk2 wdE1 _ _ _ _ from X1.to bW).lt
      have ltX2_wdE1 : w.heap.size + 1 < wdE1.heap.size := (show Blk2 wdE1 _ _ _ _ from X2.to bW).lt
      have hH := Lib.hid (Below.refl wdE1.heap.size wdE1)
      refine anyE_take (i := 0) (v := ?_) gO kR (by exact fun _ _ _ h => h) (Or.inl ⟨by rfl, ?_⟩) hH.out ?_
      rotate_left
      · intro w hSw; have c := cellB hSw CX1; have c' := cellB hSw CX1'; go_simp; try with_reducible rfl
      try simp only [Act.put, sX, sY, sZ]
      refine anyE_take (i := 2) (v := ?_) gO kR (by exact fun _ _ _ h => h) (Or.inl ⟨by rfl, ?_⟩) hH.out ?_
      rotate_left
      · intro w hSw; go_simp; try with_reducible rfl
      try simp only [Act.put, sX, sY, sZ]
      refine anyE_take (i := 3) (v := ?_) gO kR (by exact fun _ _ _ h => h) (Or.inl ⟨by rfl, ?_⟩) hH.out ?_
      rotate_left
      · intro w hSw; have c := cellB hSw CX2; have c' := cellB hSw CX2'; go_simp; try with_reducible rfl
      try simp only [Act.put, sX, sY, sZ]
      refine anyE_one (i := 1) gO kR (fun wi1_1 hbwi1_1 K hK => ?_)
      go_simp
      go_at_call 47
      refine (integer_Below_b false HB.out _ _ _ _ (h.to bW)).mono ?_
      rintro e w1 ⟨rfl, hb1⟩
      go_simp
      refine hK.out _ _ (show Below wi1_1.heap.size wi1_1 w1 from bW) ?_
      clear hK K
      replace hH := Lib.hid (nx hH.out (show Below wdE1.heap.size wdE1 w1 from bW))
      try simp only [Act.put, sX, sY, sZ]
      refine anyE_take (i := 4) (v := ?_) gO kR (by exact fun _ _ _ h => h) (Or.inl ⟨by rfl, ?_⟩) hH.out ?_
      rotate_left
      · intro w hSw; go_simp; try with_reducible rfl
      try simp only [Act.put, sX, sY, sZ]
      refine anyE_take (i := 5) (v := ?_) gO kR (by exact fun _ _ _ h => h) (Or.inl ⟨by rfl, ?_⟩) hH.out ?_
      rotate_left
      · intro w hSw; go_simp; try with_reducible rfl
      try simp only [Act.put, sX, sY, sZ]
      refine anyE_take (i := 6) (v := ?_) gO kR (by exact fun _ _ _ h => h) (Or.inl ⟨by rfl, ?_⟩) hH.out ?_
      rotate_left
      · intro w hSw; have c := cellB hSw CX1; have c' := cellB hSw CX1'; go_simp; try with_reducible rfl
      try simp only [Act.put, sX, sY, sZ]
      refine anyE_take (i := 8) (v := ?_) gO kR (by exact fun _ _ _ h => h) (Or.inl ⟨by rfl, ?_⟩) hH.out ?_
      rotate_left
      · intro w hSw; go_simp; try with_reducible rfl
      try simp only [Act.put, sX, sY, sZ]
      refine anyE_one (i := 7) gO kR (fun wi1_7 hbwi1_7 K hK => ?_)
      go_simp
      go_at_call 15
      refine (integer_Sign_b false HB.out _ _ _ _ (h.to bW)).mono ?_
      rw [HS.out]
      rintro e w2 ⟨rfl, hb2⟩
      go_simp
      refine hK.out _ _ (show Below wi1_7.heap.size wi1_7 w2 from bW) ?_
      clear hK K
      replace hH := Lib.hid (nx hH.out (show Below w1.heap.size w1 w2 from bW))
      try simp only [Act.put, sX, sY, sZ]
      refine anyE_take (i := 9) (v := ?_) gO kR (by exact fun _ _ _ h => h) (Or.inl ⟨by rfl, ?_⟩) hH.out ?_
      rotate_left
      · intro w hSw; go_simp; try with_reducible rfl
      try simp only [Act.put, sX, sY, sZ]
      refine anyE_take (i := 10) (v := ?_) gO kR (by exact fun _ _ _ h => h) (Or.inl ⟨by rfl, ?_⟩) hH.out ?_
      rotate_left
      · intro w hSw; go_simp; try with_reducible rfl
      try simp only [Act.put, sX, sY, sZ]
      refine anyE_take (i := 11) (v := ?_) gO kR (by exact fun _ _ _ h => h) (Or.inl ⟨by rfl, ?_⟩) hH.out ?_
      rotate_left
      · intro w hSw; go_simp; try with_reducible rfl
      try simp only [Act.put, sX, sY, sZ]
      refine anyE_take (i := 12) (v := ?_) gO kR (by exact fun _ _ _ h => h) (Or.inl ⟨by rfl, ?_⟩) hH.out ?_
      rotate_left
      · intro w hSw; have c := cellB hSw CX1; have c' := cellB hSw CX1'; go_simp; try with_reducible rfl
      try simp only [Act.put, sX, sY, sZ]
      refine anyE_take (i := 14) (v := ?_) gO kR (by exact fun _ _ _ h => h) (Or.inl ⟨by rfl, ?_⟩) hH.out ?_
      rotate_left
      · intro w hSw; go_simp; try with_reducible rfl
      try simp only [Act.put, sX, sY, sZ]
      refine anyE_take (i := 15) (v := ?_) gO kR (by exact fun _ _ _ h => h) (Or.inl ⟨by rfl, ?_⟩) hH.out ?_
      rotate_left
      · intro w hSw; have c := cellB hSw CX2; have c' := cellB hSw CX2'; go_simp; try with_reducible rfl
      try simp only [Act.put, sX, sY, sZ]
      refine anyE_one (i := 13) gO kR (fun wi1_13 hbwi1_13 K hK => ?_)
      go_simp
      go_at_call 31
      refine (integer_Abs_b false HB.out _ _ _ _ (h.to bW)).mono ?_
      rintro e w3 ⟨A3, n3, c3, rfl, h3, hb3⟩
      have q3 := h3.le_of _ h.lt
      go_simp
      refine hK.out _ _ (show Below wi1_13.heap.size wi1_13 w3 from bW) ?_
      clear hK K
      replace hH := Lib.hid (nx hH.out (show Below w2.heap.size w2 w3 from bW))
      try simp only [Act.put, sX, sY, sZ]
      refine anyE_one (i := 16) gO kR (fun wi1_16 hbwi1_16 K hK => ?_)
      go_simp
      go_at_call 48
      (with_reducible refine (law_Like _ _ _ _ _ _ _ _ (h3.to bW) (h'.to bW) (by omega) (by omega)).mono ?_)
      rintro e w4 ⟨rfl, hb4⟩
      go_simp
      refine hK.out _ _ (show Below wi1_16.heap.size wi1_16 w4 from bW) ?_
      clear hK K
      replace hH := Lib.hid (nx hH.out (show Below w3.heap.size w3 w4 from bW))
      try simp only [Act.put, sX, sY, sZ]
      refine anyE_take (i := 17) (v := ?_) gO kR (by exact fun _ _ _ h => h) (Or.inl ⟨by rfl, ?_⟩) hH.out ?_
      rotate_left
      · intro w hSw; go_simp; try with_reducible rfl
      try simp only [Act.put, sX, sY, sZ]
      refine anyE_take (i := 18) (v := ?_) gO kR (by exact fun _ _ _ h => h) (Or.inl ⟨by rfl, ?_⟩) hH.out ?_
      rotate_left
      · intro w hSw; go_simp; try with_reducible rfl
      try simp only [Act.put, sX, sY, sZ]
      refine anyE_done kR (fun wzE1 hbzE1 => ?_)
      refine FinD_nil ?_
      try simp only [Act.put, sX, sY, sZ]
      have hbtE1 := Lib.hid (show Below we1.heap.size we1 wzE1 from nx hbdE1 (nx hH.out hbzE1))
      clear hH
      refine anyT_done kR ?_ _
      clear CX1 CX1' CX2 CX2'
      go_wp2_with fail
      go_ret
      exact ⟨rfl, bW⟩
    · have HS := Lib.hid (show sgn z = 1 from cmpZ_gt (by have := bz_false.1 hb; omega))
      have zn : (((n' : Nat) : Int) == 0) = false := by have : n' ≠ 0 := fun e => h0 (by have := (h'.zero_iff (by decide)).2 e; omega); simp; omega
      clear hb h0
      go_enter Try.func17, Try.ntmps17
      go_wp2_with fail
      have X1 := Blk2.newAt w (w.heap.size) 29 (.bool false) (.slice A n c) (by first | rfl | simp)
      have X2 := Blk2.newAt (w.alloc (.cells #[.bool false, .slice A n c] 29)) (w.heap.size + 1) 34 (.bool false) (.slice A' n' c') (by first | rfl | simp)
      replace X1 := (show Blk2 ((w.alloc (.cells #[.bool false, .slice A n c] 29)).alloc (.cells #[.bool false, .slice A' n' c'] 34)) _ _ _ _ from X1.to bW)
      have hbwe1 : Below w.heap.size w ((w.alloc (.cells #[.bool false, .slice A n c] 29)).alloc (.cells #[.bool false, .slice A' n' c'] 34)) := bW
      generalize ((w.alloc (.cells #[.bool false, .slice A n c] 29)).alloc (.cells #[.bool false, .slice A' n' c'] 34)) = we1 at X1 X2 hbwe1  ⊢
      have CX1 := (show Blk2 we1 _ _ _ _ from X1.to bW).cell
      have CX1' := (show Blk2 we1 _ _ _ _ from X1.to bW).cell1
      have CX2 := (show Blk2 we1 _ _ _ _ from X2.to bW).cell
      have CX2' := (show Blk2 we1 _ _ _ _ from X2.to bW).cell1
      refine wp_regionE [] kR kR (mk_nil) (by exact fun _ _ _ _ _ h => h) (by exact fun _ _ _ _ _ h => h) (f := 19) (by rfl) ?_
      have hbdE1 : Below we1.heap.size we1 we1.drew := nxw (Below.refl _ _)
      generalize we1.drew = wdE1 at hbdE1 ⊢
      replace CX1 := cellB hbdE1 CX1
      replace CX1' := cellB hbdE1 CX1'
      replace CX2 := cellB hbdE1 CX2
      replace CX2' := cellB hbdE1 CX2'
      have ltX1_wdE1 : w.heap.size < wdE1.heap.size := (show Blk2 wdE1 _ _ _ _ from X1.to bW).lt
      have ltX2_wdE1 : w.heap.size + 1 < wdE1.heap.size := (show Blk2 wdE1 _ _ _ _ from X2.to bW).lt
      have hH := Lib.hid (Below.refl wdE1.heap.size wdE1)
      refine anyE_take (i := 0) (v := ?_) gO kR (by exact fun _ _ _ h => h) (Or.inl ⟨by rfl, ?_⟩) hH.out ?_
      rotate_left
      · intro w hSw; have c := cellB hSw CX1; have c' := cellB hSw CX1'; go_simp; try with_reducible rfl
      try simp only [Act.put, sX, sY, sZ]
      refine anyE_take (i := 2) (v := ?_) gO kR (by exact fun _ _ _ h => h) (Or.inl ⟨by rfl, ?_⟩) hH.out ?_
      rotate_left
      · intro w hSw; go_simp; try with_reducible rfl
      try simp only [Act.put, sX, sY, sZ]
      refine anyE_take (i := 3) (v := ?_) gO kR (by exact fun _ _ _ h => h) (Or.inl ⟨by rfl, ?_⟩) hH.out ?_
      rotate_left
      · intro w hSw; have c := cellB hSw CX2; have c' := cellB hSw CX2'; go_simp; try with_reducible rfl
      try simp only [Act.put, sX, sY, sZ]
      refine anyE_one (i := 1) gO kR (fun wi1_1 hbwi1_1 K hK => ?_)
      go_simp
      go_at_call 47
      refine (integer_Below_b false HB.out _ _ _ _ (h.to bW)).mono ?_
      rintro e w1 ⟨rfl, hb1⟩
      go_simp
      refine hK.out _ _ (show Below wi1_1.heap.size wi1_1 w1 from bW) ?_
      clear hK K
      replace hH := Lib.hid (nx hH.out (show Below wdE1.heap.size wdE1 w1 from bW))
      try simp only [Act.put, sX, sY, sZ]
      refine anyE_take (i := 4) (v := ?_) gO kR (by exact fun _ _ _ h => h) (Or.inl ⟨by rfl, ?_⟩) hH.out ?_
      rotate_left
      · intro w hSw; go_simp; try with_reducible rfl
      try simp only [Act.put, sX, sY, sZ]
      refine anyE_take (i := 5) (v := ?_) gO kR (by exact fun _ _ _ h => h) (Or.inl ⟨by rfl, ?_⟩) hH.out ?_
      rotate_left
      · intro w hSw; go_simp; try with_reducible rfl
      try simp only [Act.put, sX, sY, sZ]
      refine anyE_take (i := 6) (v := ?_) gO kR (by exact fun _ _ _ h => h) (Or.inl ⟨by rfl, ?_⟩) hH.out ?_
      rotate_left
      · intro w hSw; have c := cellB hSw CX1; have c' := cellB hSw CX1'; go_simp; try with_reducible rfl
      try simp only [Act.put, sX, sY, sZ]
      refine anyE_take (i := 8) (v := ?_) gO kR (by exact fun _ _ _ h => h) (Or.inl ⟨by rfl, ?_⟩) hH.out ?_
      rotate_left
      · intro w hSw; go_simp; try with_reducible rfl
      try simp only [Act.put, sX, sY, sZ]
      refine anyE_one (i := 7) gO kR (fun wi1_7 hbwi1_7 K hK => ?_)
      go_simp
      go_at_call 15
      refine (integer_Sign_b false HB.out _ _ _ _ (h.to bW)).mono ?_
      rw [HS.out]
      rintro e w2 ⟨rfl, hb2⟩
      go_simp
      refine hK.out _ _ (show Below wi1_7.heap.size wi1_7 w2 from bW) ?_
      clear hK K
      replace hH := Lib.hid (nx hH.out (show Below w1.heap.size w1 w2 from bW))
      try simp only [Act.put, sX, sY, sZ]
      refine anyE_take (i := 9) (v := ?_) gO kR (by exact fun _ _ _ h => h) (Or.inl ⟨by rfl, ?_⟩) hH.out ?_
      rotate_left
      · intro w hSw; go_simp; try with_reducible rfl
      try simp only [Act.put, sX, sY, sZ]
      refine anyE_take (i := 10) (v := ?_) gO kR (by exact fun _ _ _ h => h) (Or.inl ⟨by rfl, ?_⟩) hH.out ?_
      rotate_left
      · intro w hSw; go_simp; try with_reducible rfl
      try simp only [Act.put, sX, sY, sZ]
      refine anyE_take (i := 11) (v := ?_) gO kR (by exact fun _ _ _ h => h) (Or.inl ⟨by rfl, ?_⟩) hH.out ?_
      rotate_left
      · intro w hSw; go_simp; try with_reducible rfl
      try simp only [Act.put, sX, sY, sZ]
      refine anyE_take (i := 12) (v := ?_) gO kR (by exact fun _ _ _ h => h) (Or.inl ⟨by rfl, ?_⟩) hH.out ?_
      rotate_left
      · intro w hSw; have c := cellB hSw CX1; have c' := cellB hSw CX1'; go_simp; try with_reducible rfl
      try simp only [Act.put, sX, sY, sZ]
      refine anyE_take (i := 14) (v := ?_) gO kR (by exact fun _ _ _ h => h) (Or.inl ⟨by rfl, ?_⟩) hH.out ?_
      rotate_left
      · intro w hSw; go_simp; try with_reducible rfl
      try simp only [Act.put, sX, sY, sZ]
      refine anyE_take (i := 15) (v := ?_) gO kR (by exact fun _ _ _ h => h) (Or.inl ⟨by rfl, ?_⟩) hH.out ?_
      rotate_left
      · intro w hSw; have c := cellB hSw CX2; have c' := cellB hSw CX2'; go_simp; try with_reducible rfl
      try simp only [Act.put, sX, sY, sZ]
      refine anyE_one (i := 13) gO kR (fun wi1_13 hbwi1_13 K hK => ?_)
      go_simp
      go_at_call 31
      refine (integer_Abs_b false HB.out _ _ _ _ (h.to bW)).mono ?_
      rintro e w3 ⟨A3, n3, c3, rfl, h3, hb3⟩
      have q3 := h3.le_of _ h.lt
      go_simp
      refine hK.out _ _ (show Below wi1_13.heap.size wi1_13 w3 from bW) ?_
      clear hK K
      replace hH := Lib.hid (nx hH.out (show Below w2.heap.size w2 w3 from bW))
      try simp only [Act.put, sX, sY, sZ]
      refine anyE_one (i := 16) gO kR (fun wi1_16 hbwi1_16 K hK => ?_)
      go_simp
      go_at_call 48
      (with_reducible refine (law_Like _ _ _ _ _ _ _ _ (h3.to bW) (h'.to bW) (by omega) (by omega)).mono ?_)
      rintro e w4 ⟨rfl, hb4⟩
      go_simp
      refine hK.out _ _ (show Below wi1_16.heap.size wi1_16 w4 from bW) ?_
      clear hK K
      replace hH := Lib.hid (nx hH.out (show Below w3.heap.size w3 w4 from bW))
      try simp only [Act.put, sX, sY, sZ]
      refine anyE_take (i := 17) (v := ?_) gO kR (by exact fun _ _ _ h => h) (Or.inl ⟨by rfl, ?_⟩) hH.out ?_
      rotate_left
      · intro w hSw; go_simp; try with_reducible rfl
      try simp only [Act.put, sX, sY, sZ]
      refine anyE_take (i := 18) (v := ?_) gO kR (by exact fun _ _ _ h => h) (Or.inl ⟨by rfl, ?_⟩) hH.out ?_
      rotate_left
      · intro w hSw; go_simp; try with_reducible rfl
      try simp only [Act.put, sX, sY, sZ]
      refine anyE_done kR (fun wzE1 hbzE1 => ?_)
      refine FinD_nil ?_
      try simp only [Act.put, sX, sY, sZ]
      have hbtE1 := Lib.hid (show Below we1.heap.size we1 wzE1 from nx hbdE1 (nx hH.out hbzE1))
      clear hH
      refine anyT_done kR ?_ _
      clear CX1 CX1' CX2 CX2'
      go_wp2_with fail
      go_ret
      exact ⟨rfl, bW⟩
end Go.Proofs.Ytihbpkljjmpkjaa
