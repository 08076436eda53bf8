/- The walk of law02.Like: a number of the program's and one of the document's. -/
import Derived.Test.YtflleaifmeiikaaNatKit
import Derived.Test.YtflleaifmeiikaaRef2i
set_option linter.unusedVariables false
set_option linter.unusedSimpArgs false
namespace Go.Proofs.Ytflleaifmeiikaa
open Go.RowKit
set_option maxRecDepth 100000
theorem like_len {w w' : World} {A A' : Option Addr} {n c n' c' x : Nat} (h : NatAt w A n c x) (h' : NumAt .i64 65536 w' A' n' c' x) : (n' + 3) / 4 = n := by
  have hW : W = 65536 ^ 4 := by decide
  rcases Nat.eq_zero_or_pos n with h0 | h0
  · have hx := h.zero_iff.2 h0
    have := (h'.zero_iff (by decide)).1 hx
    omega
  · have hx : x ≠ 0 := fun e => by have := h.zero_iff.1 e; omega
    have h1 : 0 < n' := by
      rcases Nat.eq_zero_or_pos n' with h1 | h1
      · exact absurd ((h'.zero_iff (by decide)).2 h1) hx
      · exact h1
    have a1 := h.2 h0
    have a2 := h.lt
    have b1 := h'.2 h1
    have b2 := h'.lt
    rw [hW, ← Nat.pow_mul] at a1 a2
    have c1 := pow_lt_inv (b := 65536) (by decide) a1 b2
    have c2 := pow_lt_inv (b := 65536) (by decide) b1 a2
    omega
set_option maxHeartbeats 1000000 in
theorem law_Like (A : Option Addr) (n c x : Nat) (A' : Option Addr) (n' c' : Nat) (w : World) (h : NatAt w A n c x) (h' : NumAt .i64 65536 w A' n' c' x) (hn : n ≤ 17592186044416) (hn' : n' ≤ 4000000000) :
    Calls Try.prog 18 #[.agg #[.slice A n c], .slice A' n' c'] w (Ret w (.bool true)) := by
  have HL := Lib.hid (like_len h h')
  have B0 := Blk1.new w 25 (.slice A n c)
  have hbe : Below w.heap.size w (w.alloc (.cells #[.slice A n c] 25)) := nxa (Below.refl _ _) _
  have hx := h.to hbe
  have hr := h'.to hbe
  go_enter Try.func18, Try.ntmps18
  go_wp2_with fail
  refine (nat_Words A n c x _ hx hn).mono ?_
  rintro e w1 ⟨A1, c1, rfl, ho1, hb1⟩
  obtain ⟨A1', c1', hv, hd1, hf1⟩ := own_form ho1 h.lt
  cases hv
  go_wp2_with fail
  refine (ref2_Is A' n' c' x A1 n c1 x _ (hr.to hb1).1 hd1 hn').mono ?_
  rw [decide_eq_true (⟨HL.out, rfl⟩ : (n' + 3) / 4 = n ∧ x = x)]
  rintro e w2 ⟨rfl, hb2⟩
  have c0 := ((B0.to hb1).to hb2).cell
  go_wp2_with fail
  refine (nat_Len A n c _).mono ?_
  rintro e w3 ⟨rfl, hb3⟩
  go_wp2_with fail
  refine (ref2_Words A' n' c' x _ (((hr.to hb1).to hb2).to hb3).1 hn').mono ?_
  rw [HL.out]
  rintro e w4 ⟨A4, c4, rfl, ho4, hb4⟩
  go_wp2_with fail
  go_ret
  exact ⟨rfl, nx (nx (nx (nx hbe hb1) hb2) hb3) hb4⟩
end Go.Proofs.Ytflleaifmeiikaa
