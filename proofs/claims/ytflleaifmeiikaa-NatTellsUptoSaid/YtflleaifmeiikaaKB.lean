/- The walks of package nat, first part: the words of a number.
   The walk of nat.Cmp.
   The walks of nat.Add and nat.Sub.
   The walk of nat.Sub.
   The walk of nat's Shl.
   The walks of nat's Shr and Low.
   The walk of nat's Low.
   The walks of actuarylaw02.Is; slices written out; the document's examples of layer 2.
   What the laws of layer 2 and up share: frames, sizes, literals.
   The walks of nat.Uint, nat.Bit, nat.Twos. -/
import Derived.Deep.RegionWith
import Derived.Deep.RegionHeld3
import Derived.Deep.DeepCutAuto
import Derived.Lib.SliceRun
import Derived.Deep.Onto
import Derived.BigRegion
import Derived.StillTailTactics
import Derived.WalkLawsBesides
import Derived.Test.YtflleaifmeiikaaKA
namespace Go.Proofs.Ytflleaifmeiikaa
open Go.RowKit
/-- the value (A, n, c) of a Nat reads in w as the number x: its words, without a nought above -/
def NatAt (w : World) (A : Option Addr) (n c x : Nat) : Prop := Dig .u64 W w A n c x ∧ (0 < n → W ^ (n - 1) ≤ x)
def RetNat (w : World) (x : Nat) (e : Ending) (w' : World) : Prop := ∃ A n c, e = .returned (.agg #[.slice A n c]) ∧ NatAt w' A n c x ∧ Below w.heap.size w w'
def RetNatB (w : World) (x : Nat) (b : Bool) (e : Ending) (w' : World) : Prop := ∃ A n c, e = .returned (.tuple #[.agg #[.slice A n c], .bool b]) ∧ NatAt w' A n c x ∧ Below w.heap.size w w'
theorem NatAt.below {w w' : World} {A : Option Addr} {n c x B : Nat} (h : NatAt w A n c x) (hb : Below B w w') (hB : w.heap.size ≤ B) : NatAt w' A n c x := ⟨h.1.below hb hB, h.2⟩
theorem NatAt.to {w w' : World} {A : Option Addr} {n c x : Nat} (h : NatAt w A n c x) (hb : Below w.heap.size w w') : NatAt w' A n c x := h.below hb (Nat.le_refl _)
theorem NatAt.drew {w : World} {A : Option Addr} {n c x : Nat} (h : NatAt w A n c x) : NatAt w.drew A n c x := h
theorem NatAt.drewN {w : World} {A : Option Addr} {n c x : Nat} (h : NatAt w A n c x) (m : Nat) : NatAt (w.drewN m) A n c x := h
theorem NatAt.alloc {w : World} {A : Option Addr} {n c x : Nat} (h : NatAt w A n c x) (o : Obj) : NatAt (w.alloc o) A n c x := ⟨h.1.alloc o, h.2⟩
theorem NatAt.zero_iff {w : World} {A : Option Addr} {n c x : Nat} (h : NatAt w A n c x) : x = 0 ↔ n = 0 := by
  constructor
  · rintro rfl
    rcases Nat.eq_zero_or_pos n with h0 | h0
    · exact h0
    · have := h.2 h0
      have := Nat.pow_pos (n := n - 1) W_pos
      omega
  · rintro rfl; exact h.1.zero
theorem pow_lt_inv {b i j x : Nat} (hb : 0 < b) (h1 : b ^ i ≤ x) (h2 : x < b ^ j) : i < j := by
  rcases Nat.lt_or_ge i j with h | h
  · exact h
  · have := Nat.pow_le_pow_right hb h; omega
theorem NatAt.len_eq {w w' : World} {A A' : Option Addr} {n n' c c' x : Nat} (h : NatAt w A n c x) (h' : NatAt w' A' n' c' x) : n = n' := by
  rcases Nat.eq_zero_or_pos n with h0 | h0
  · have hx := h.zero_iff.2 h0
    rw [h0, h'.zero_iff.1 hx]
  · rcases Nat.eq_zero_or_pos n' with h1 | h1
    · have hx := h'.zero_iff.2 h1
      rw [h1, h.zero_iff.1 hx]
    · have a := pow_lt_inv W_pos (h.2 h0) h'.1.lt
      have b := pow_lt_inv W_pos (h'.2 h1) h.1.lt
      omega

def lenOf : Value → Nat | .slice _ n _ => n | _ => 0
set_option maxHeartbeats 400000 in
theorem nat_trim (A : Option Addr) (n c x : Nat) (w : World) (h : Dig .u64 W w A n c x) :
    Calls Try.prog 45 #[.slice A n c] w fun e w' => ∃ m, e = .returned (.agg #[.slice A m c]) ∧ NatAt w' A m c x ∧ Below w.heap.size w w' ∧ m ≤ n := by
  have m1 := h.max
  have m2 := h.cap
  go_enter Try.func45, Try.ntmps45
  go_wp2
  go_loop [0] (fun v => ∃ m : Nat, m ≤ n ∧ v = .slice A m c ∧ x < W ^ m) (fun v => lenOf v)
  case atStart => exact ⟨n, Nat.le_refl _, rfl, h.lt⟩
  case round =>
    obtain ⟨m, hm, rfl, hlt⟩ := hrel
    rcases m with _ | j
    · have hx : x = 0 := by simpa using hlt
      subst hx
      clear hlt
      go_wp2
      refine bodyPost_ret (v := .agg #[.slice A 0 c]) (by simp [results, Try.results45, go_sem]) rfl ⟨0, rfl, ⟨Dig.nil _ _ _ _ m1, fun h => absurd h (by omega)⟩, (Below.refl _ _).alloc (Nat.le_refl _) _, Nat.zero_le _⟩
    · obtain ⟨g, o, rfl, hg, hcell⟩ := h.at_ (by omega)
      have hcj := hcell j (by omega)
      have hpos : (0 : Int) < ((j + 1 : Nat) : Int) := by omega
      have ej : ((j + 1 : Nat) : Int) - 1 = (j : Int) := by omega
      have hjc : j + 1 ≤ c := by omega
      have hs := low_next W j x
      rw [low_all hlt] at hs
      have hl := low_bound W_pos j x
      have HC := Lib.hid hcell
      clear hcell
      by_cases hz : dg W j x = 0
      · rw [hz] at hcj
        have HL := Lib.hid (show x < W ^ j by rw [← hs, hz]; simpa using hl)
        clear hz hs hl hlt
        go_wp2
        go_round
        case rel => exact ⟨j, by omega, by simp, HL.out⟩
        case measure => simp [lenOf]
      · have hb : (((dg W j x : Nat) : Int) == 0) = false := by simp; exact hz
        have HL := Lib.hid hlt
        have hge : W ^ j ≤ x := by
          rw [← hs]
          have := Nat.mul_le_mul_right (W ^ j) (show 1 ≤ dg W j x by omega)
          omega
        have HG := Lib.hid hge
        clear hz hs hl hlt hge
        go_wp2
        refine bodyPost_ret (v := .agg #[.slice (some ⟨g, o, none⟩) (j + 1) c]) (by simp [results, Try.results45, go_sem]) rfl ⟨j + 1, rfl, ⟨(h.shrink hm HL.out).alloc _, fun _ => HG.out⟩, (Below.refl _ _).alloc (Nat.le_refl _) _, hm⟩
theorem info_u64 : (Try.prog.info? 30).map (fun i => (i.zero, i.size, i.bytes)) = some (some (.int .u64 0), 1, 8) := by kernel_rfl
theorem Fresh.none (B : Nat) : Fresh B none := fun _ h => by cases h
/-- slices.Clone: a copy, a row of the call's own -/
def RetOwn (w : World) (n x : Nat) (e : Ending) (w' : World) : Prop := ∃ A c, e = .returned (.slice A n c) ∧ w'.ownsRow w.heap.size 30 1 (.slice A n c) n (dl .u64 W n x) ∧ Below w.heap.size w w'
set_option maxHeartbeats 400000 in
theorem clone (A : Option Addr) (n c x : Nat) (w : World) (h : Dig .u64 W w A n c x) (hn : n ≤ 17592186044416) :
    Calls Try.prog 46 #[.slice A n c] w (RetOwn w n x) := by
  obtain ⟨i0, hi, hz0, hz1, hz2⟩ := info_parts info_u64
  have hnil := fun W' => Lib.run_eql_slice_nil (P := Try.prog) W' 22 30 A n c 0 0 Try.underlying22
  cases A with
  | none =>
    have h0 : n = 0 := by
      rcases Nat.eq_zero_or_pos n with h0 | h0
      · exact h0
      · obtain ⟨g, o, e, _⟩ := h.at_ h0; cases e
    subst h0
    have hx := h.zero
    subst hx
    go_enter Try.func46, Try.ntmps46
    go_wp2
    go_ret
    exact ⟨none, 0, rfl, own_nil _ _ _ _ _, Below.refl _ _⟩
  | some a =>
    go_enter Try.func46, Try.ntmps46
    go_wp2_with (at_builtin; refine wpList_append_dig _ rfl _ _ 22 rfl w.heap.size 30 i0 (.int .u64 0) 8 Try.underlying22 hi hz0 hz1 hz2 rfl .u64 W _ 0 0 rfl (World.ownsRow_lit w #[] 0 (Nat.le_refl _) (by unfold maxLen; omega) rfl) (some a) n c x rfl (h.alloc _) (by unfold maxLen; omega) (by omega) (by simp) W_pos (by decide) ?_)
    intro v' w1 hown hgrow
    have hb : Below w.heap.size w w1 := ((Below.refl _ _).alloc (Nat.le_refl _) _).grown hgrow (by simp) (fun k hk => by simp [Value.ownBlock] at hk; omega)
    obtain ⟨A', c', rfl, hd, hf⟩ := own_form hown h.lt
    go_wp2
    go_ret
    exact ⟨A', c', rfl, hown, hb⟩
theorem RetOwn.dig {w w' : World} {n x : Nat} {e : Ending} (h : RetOwn w n x e w') (hx : x < W ^ n) : RetDig .u64 W w n x e w' := by
  obtain ⟨A, c, rfl, hown, hb⟩ := h
  obtain ⟨A', c', hv, hd, hf⟩ := own_form hown hx
  cases hv
  exact ⟨A, c, rfl, hd, hb, hf⟩
theorem slice_no_int (A : Option Addr) (n c : Nat) : ∀ k i, Value.slice A n c ≠ .int k i := fun _ _ h => by cases h
theorem NatAt.put_ {w : World} {A : Option Addr} {n c x : Nat} (h : NatAt w A n c x) {p : Addr} {A' : Option Addr} {n' c' : Nat} (hp : w.cell? p = some (.slice A' n' c')) (u : Value) : NatAt (w.setCell p u) A n c x := ⟨h.1.put_ hp (slice_no_int _ _ _) u, h.2⟩
theorem retb {a b : Bool} (h : a = b) : Ending.returned (.bool a) = Ending.returned (.bool b) := by rw [h]
theorem nat_Of (A : Option Addr) (n c x : Nat) (w : World) (h : Dig .u64 W w A n c x) (hn : n ≤ 17592186044416) :
    Calls Try.prog 13 #[.slice A n c] w fun e w' => ∃ A m c, e = .returned (.agg #[.slice A m c]) ∧ NatAt w' A m c x ∧ Below w.heap.size w w' ∧ m ≤ n := by
  have B0 := Blk1.new w 25 (.slice none 0 0)
  go_enter Try.func13, Try.ntmps13
  go_wp2_with fail
  refine (clone A n c x _ (h.alloc _) hn).mono ?_
  intro e w1 hr
  obtain ⟨A1, c1, rfl, hd1, hb1, hf1⟩ := hr.dig h.lt
  clear hr
  go_wp2_with fail
  refine (nat_trim A1 n c1 x _ hd1).mono ?_
  rintro e w2 ⟨m, rfl, hd2, hb2, hm⟩
  have hb3 := nx (nx (nxa (Below.refl w.heap.size w) (.cells #[.slice none 0 0] 25)) hb1) hb2
  have B2 := (B0.to hb1).to hb2
  have c0 := B2.cell
  have f0 := B2.free
  go_wp2_with fail
  exact bodyPost_ret (v := .agg #[.slice A1 m c1]) (by simp [results, Try.results13, go_sem, c0]) rfl ⟨A1, m, c1, rfl, hd2.put_ c0 _, hb3.setCell (Nat.le_refl _) _, hm⟩
theorem nat_Words (A : Option Addr) (n c x : Nat) (w : World) (h : NatAt w A n c x) (hn : n ≤ 17592186044416) :
    Calls Try.prog 15 #[.agg #[.slice A n c]] w (RetOwn w n x) := by
  go_enter Try.func15, Try.ntmps15
  go_wp2_with fail
  refine (clone A n c x _ (h.1.alloc _) hn).mono ?_
  rintro e w1 ⟨A1, c1, rfl, hown, hb1⟩
  go_wp2_with fail
  go_ret
  exact ⟨A1, c1, rfl, hown.mono (by simp), nx (nxa (Below.refl _ _) _) hb1⟩
theorem nat_Len (A : Option Addr) (n c : Nat) (w : World) :
    Calls Try.prog 43 #[.agg #[.slice A n c]] w (Ret w (.int .i64 (n : Nat))) := by
  go_enter Try.func43, Try.ntmps43
  go_wp2_with fail
  go_ret
  exact ⟨rfl, nxa (Below.refl _ _) _⟩
theorem nat_Zero (A : Option Addr) (n c x : Nat) (w : World) (h : NatAt w A n c x) :
    Calls Try.prog 19 #[.agg #[.slice A n c]] w (Ret w (.bool (decide (x = 0)))) := by
  have m1 := h.1.max
  have m2 := h.1.cap
  have hz := h.zero_iff
  have H := Lib.hid hz
  clear hz
  go_enter Try.func19, Try.ntmps19
  go_wp2_with fail
  go_ret
  exact ⟨retb (by have := H.out; by_cases e : x = 0 <;> simp [e] <;> omega), nxa (Below.refl _ _) _⟩
theorem nat_Word (A : Option Addr) (n c x : Nat) (k : Nat) (w : World) (h : NatAt w A n c x) (hk : k ≤ 9223372036854775807) :
    Calls Try.prog 20 #[.agg #[.slice A n c], .int .i64 (k : Int)] w (Ret w (.int .u64 (dg W k x : Nat))) := by
  have m1 := h.1.max
  have m2 := h.1.cap
  by_cases hkn : k < n
  · obtain ⟨g, o, rfl, hg, hcell⟩ := h.1.at_ (by omega)
    have hc := hcell k hkn
    clear hcell
    go_enter Try.func20, Try.ntmps20
    go_wp2_with fail
    go_ret
    exact ⟨rfl, nxa (Below.refl _ _) _⟩
  · have hz : dg W k x = 0 := dg_of_lt (Nat.lt_of_lt_of_le h.1.lt (Nat.pow_le_pow_right W_pos (by omega)))
    have HZ := Lib.hid hz
    clear hz
    go_enter Try.func20, Try.ntmps20
    go_wp2_with fail
    go_ret
    exact ⟨by rw [HZ.out]; rfl, nxa (Below.refl _ _) _⟩
theorem nat_Word_neg (A : Option Addr) (n c : Nat) (k : Int) (w : World) (hk : k < 0) :
    Calls Try.prog 20 #[.agg #[.slice A n c], .int .i64 k] w (Ret w (.int .u64 0)) := by
  go_enter Try.func20, Try.ntmps20
  go_wp2_with fail
  go_ret
  exact ⟨rfl, nxa (Below.refl _ _) _⟩
theorem W_pow (j : Nat) : W ^ j = 2 ^ (64 * j) := by rw [W_eq, ← Nat.pow_mul]
theorem top_digit {x n : Nat} (h1 : x < W ^ (n + 1)) : dg W n x = x / W ^ n := by
  unfold dg
  rw [Nat.mod_eq_of_lt]
  apply Nat.div_lt_of_lt_mul
  rw [← Nat.pow_succ]; exact h1
theorem bits_top {x n : Nat} (h1 : x < W ^ (n + 1)) (h2 : W ^ n ≤ x) : 64 * n + blen (dg W n x) = blen x := by
  have hd := top_digit h1
  have hp : 0 < W ^ n := Nat.pow_pos W_pos
  have hne : x / W ^ n ≠ 0 := by have := Nat.div_pos h2 hp; omega
  rw [hd]
  rw [W_pow] at hne ⊢
  exact (blen_shift hne).symm
theorem bit_at (x k : Nat) : dg W (k / 64) x / 2 ^ (k % 64) % 2 = x / 2 ^ k % 2 := by
  unfold dg
  have hk : k % 64 < 64 := Nat.mod_lt _ (by decide)
  have e : 2 ^ k = W ^ (k / 64) * 2 ^ (k % 64) := by rw [W_pow, ← Nat.pow_add]; congr 1; omega
  rw [e, ← Nat.div_div_eq_div_mul]
  generalize x / W ^ (k / 64) = y
  have e2 : W = 2 ^ (k % 64) * (2 * 2 ^ (63 - k % 64)) := by
    rw [← Nat.pow_succ', ← Nat.pow_add, W_eq]; congr 1; omega
  rw [e2, Nat.mod_mul_right_div_self, Nat.mod_mul_right_mod]
theorem nat_Bits (A : Option Addr) (n c x : Nat) (w : World) (h : NatAt w A n c x) (hn : n ≤ 17592186044416) :
    Calls Try.prog 23 #[.agg #[.slice A n c]] w (Ret w (.int .i64 (blen x : Nat))) := by
  have m1 := h.1.max
  have m2 := h.1.cap
  rcases n with _ | j
  · have hx := h.1.zero
    subst hx
    go_enter Try.func23, Try.ntmps23
    go_wp2_with fail
    go_ret
    exact ⟨rfl, nxa (Below.refl _ _) _⟩
  · obtain ⟨g, o, rfl, hg, hcell⟩ := h.1.at_ (by omega)
    have hc := hcell j (by omega)
    have E := Lib.hid (bits_top h.1.lt (h.2 (by omega)))
    have hd := dg_lt W_pos j x
    have hb : blen (dg W j x) ≤ 64 := blen_le_of_lt hd
    have ej : ((j + 1 : Nat) : Int) - 1 = (j : Int) := by omega
    have hne : (((j + 1 : Nat) : Int) == 0) = false := by simp; omega
    clear hcell
    go_enter Try.func23, Try.ntmps23
    go_wp2_with fail
    refine (word_Len _ _ hd).mono ?_
    rintro e w1 ⟨rfl, m, rfl⟩
    go_wp2_with fail
    go_ret
    exact ⟨ret1 (by have := E.out; omega), nxd (nxa (Below.refl _ _) _) _⟩
def cmpI (x y : Nat) : Int := if x < y then -1 else if x = y then 0 else 1
theorem cmp_int (a b : Int) (r : Int) (w : World) (hr : (a < b → r = -1) ∧ (a = b → r = 0) ∧ (b < a → r = 1)) :
    Calls Try.prog 59 #[.int .i64 a, .int .i64 b] w fun e w' => e = .returned (.int .i64 r) ∧ w = w' := by
  obtain ⟨h1, h2, h3⟩ := hr
  rcases Int.lt_trichotomy a b with h | h | h
  · obtain rfl := h1 h
    clear h1 h2 h3
    go_enter Try.func59, Try.ntmps59
    go_wp2
    go_ret
    exact ⟨rfl, rfl⟩
  · obtain rfl := h2 h
    clear h1 h2 h3
    subst h
    go_enter Try.func59, Try.ntmps59
    go_wp2
    go_ret
    exact ⟨rfl, rfl⟩
  · obtain rfl := h3 h
    clear h1 h2 h3
    go_enter Try.func59, Try.ntmps59
    go_wp2
    go_ret
    exact ⟨rfl, rfl⟩
theorem cmp_u64 (a b : Int) (r : Int) (w : World) (hr : (a < b → r = -1) ∧ (a = b → r = 0) ∧ (b < a → r = 1)) :
    Calls Try.prog 60 #[.int .u64 a, .int .u64 b] w fun e w' => e = .returned (.int .i64 r) ∧ w = w' := by
  obtain ⟨h1, h2, h3⟩ := hr
  rcases Int.lt_trichotomy a b with h | h | h
  · obtain rfl := h1 h
    clear h1 h2 h3
    go_enter Try.func60, Try.ntmps60
    go_wp2
    go_ret
    exact ⟨rfl, rfl⟩
  · obtain rfl := h2 h
    clear h1 h2 h3
    subst h
    go_enter Try.func60, Try.ntmps60
    go_wp2
    go_ret
    exact ⟨rfl, rfl⟩
  · obtain rfl := h3 h
    clear h1 h2 h3
    go_enter Try.func60, Try.ntmps60
    go_wp2
    go_ret
    exact ⟨rfl, rfl⟩
end Go.Proofs.Ytflleaifmeiikaa
namespace Go.Proofs.Ytflleaifmeiikaa
open Go.RowKit
theorem up_step {b : Nat} (j x : Nat) : up b j x = dg b j x + b * up b (j + 1) x := by
  rw [← up_succ, ← up_mod]; exact (Nat.mod_add_div _ _).symm
theorem lt_of_up {b j x y : Nat} (h : up b j x < up b j y) : x < y := by
  rcases Nat.lt_or_ge x y with h1 | h1
  · exact h1
  · have : up b j y ≤ up b j x := Nat.div_le_div_right h1
    omega
theorem cmpI_lt {x y : Nat} (h : x < y) : cmpI x y = -1 := if_pos h
theorem cmpI_eq {x y : Nat} (h : x = y) : cmpI x y = 0 := by unfold cmpI; rw [if_neg (by omega), if_pos h]
theorem cmpI_gt {x y : Nat} (h : y < x) : cmpI x y = 1 := by unfold cmpI; rw [if_neg (by omega), if_neg (by omega)]
set_option maxRecDepth 100000 in
set_option maxHeartbeats 1000000 in
theorem nat_Cmp (A : Option Addr) (n c x : Nat) (A' : Option Addr) (n' c' y : Nat) (w : World) (h : NatAt w A n c x) (h' : NatAt w A' n' c' y) :
    Calls Try.prog 29 #[.agg #[.slice A n c], .agg #[.slice A' n' c']] w (Ret w (.int .i64 (cmpI x y))) := by
  have m1 := h.1.max
  have m2 := h.1.cap
  have m3 := h'.1.max
  have m4 := h'.1.cap
  rcases Nat.lt_trichotomy n n' with hn | hn | hn
  · have hxy : x < y := by
      have h1 := h.1.lt
      have h2 := h'.2 (by omega)
      have h3 := Nat.pow_le_pow_right W_pos (show n ≤ n' - 1 by omega)
      omega
    have C := Lib.hid (cmpI_lt hxy)
    clear hxy
    go_enter Try.func29, Try.ntmps29
    go_wp2_with fail
    refine (cmp_int n n' (-1) _ ⟨fun _ => rfl, fun _ => by omega, fun _ => by omega⟩).mono ?_
    rintro e w1 ⟨rfl, rfl⟩
    go_wp2_with fail
    go_ret
    exact ⟨by rw [C.out]; rfl, nxa (nxa (Below.refl _ _) _) _⟩
  · subst hn
    have hd := h.1
    have hd' := h'.1
    have HX := Lib.hid hd
    have HY := Lib.hid hd'
    clear hd hd'
    go_enter Try.func29, Try.ntmps29
    go_wp2_with fail
    refine (cmp_int n n 0 _ ⟨fun _ => by omega, fun _ => rfl, fun _ => by omega⟩).mono ?_
    rintro e w1 ⟨rfl, rfl⟩
    go_wp2_with fail
    go_loopw [6, 7] (fun k _ wr => ∃ kk m : Nat, kk ≤ n ∧ k = .int .i64 ((kk : Int) - 1) ∧ up W kk x = up W kk y ∧ wr = ((w.alloc (.cells #[.slice A n c] 25)).alloc (.cells #[.slice A' n c'] 25)).drewN m) (fun k _ _ => (intOf k + 1).toNat)
    case atStart => exact ⟨n, 0, Nat.le_refl _, rfl, by unfold up; rw [Nat.div_eq_of_lt HX.out.lt, Nat.div_eq_of_lt HY.out.lt], rfl⟩
    case round =>
      obtain ⟨kk, m, hk, rfl, hup, rfl⟩ := hrel
      rcases kk with _ | j
      · rw [up_zero, up_zero] at hup
        have C := Lib.hid (cmpI_eq hup)
        clear hup
        go_wp2_with fail
        go_ret
        exact ⟨by rw [C.out]; rfl, nxd (nxa (nxa (Below.refl _ _) _) _) _⟩
      · rw [show ((j + 1 : Nat) : Int) - 1 = (j : Int) by omega]
        obtain ⟨g, o, rfl, hg, hcell⟩ := HX.out.at_ (by omega)
        obtain ⟨g', o', rfl, hg', hcell'⟩ := HY.out.at_ (by omega)
        have hcx := hcell j (by omega)
        have hcy := hcell' j (by omega)
        clear hcell hcell'
        have e1 := up_step (b := W) j x
        have e2 := up_step (b := W) j y
        rw [← hup] at e2
        have hj : (j : Int) < (n : Int) := by omega
        rcases Nat.lt_trichotomy (dg W j x) (dg W j y) with hl | hl | hl
        · have C := Lib.hid (cmpI_lt (lt_of_up (b := W) (j := j) (x := x) (y := y) (by omega)))
          have Q := fun W' => cmp_u64 (dg W j x) (dg W j y) (-1) W' ⟨fun _ => rfl, fun _ => by omega, fun _ => by omega⟩
          have HQ := Lib.hid Q
          clear e1 e2 hup hl Q
          go_wp2_with fail
          go_quiet ((go_at_call 60; exact quietDL (HQ.out _)))
          go_wp2_with fail
          go_ret
          exact ⟨by rw [C.out]; rfl, nxd (nxa (nxa (Below.refl _ _) _) _) _⟩
        · have C := Lib.hid (show up W j x = up W j y by rw [e1, e2, hl])
          have Q := fun W' => cmp_u64 (dg W j x) (dg W j y) 0 W' ⟨fun _ => by omega, fun _ => rfl, fun _ => by omega⟩
          have HQ := Lib.hid Q
          clear e1 e2 hup hl Q
          go_wp2_with fail
          go_quiet ((go_at_call 60; exact quietDL (HQ.out _)))
          go_wp2_with fail
          go_roundw
          case rel => exact ⟨j, _, by omega, by go_num, C.out, rfl⟩
          case measure => simp [intOf]
        · have C := Lib.hid (cmpI_gt (lt_of_up (b := W) (j := j) (x := y) (y := x) (by omega)))
          have Q := fun W' => cmp_u64 (dg W j x) (dg W j y) 1 W' ⟨fun _ => by omega, fun _ => by omega, fun _ => rfl⟩
          have HQ := Lib.hid Q
          clear e1 e2 hup hl Q
          go_wp2_with fail
          go_quiet ((go_at_call 60; exact quietDL (HQ.out _)))
          go_wp2_with fail
          go_ret
          exact ⟨by rw [C.out]; rfl, nxd (nxa (nxa (Below.refl _ _) _) _) _⟩
  · have hxy : y < x := by
      have h1 := h'.1.lt
      have h2 := h.2 (by omega)
      have h3 := Nat.pow_le_pow_right W_pos (show n' ≤ n - 1 by omega)
      omega
    have C := Lib.hid (cmpI_gt hxy)
    clear hxy
    go_enter Try.func29, Try.ntmps29
    go_wp2_with fail
    refine (cmp_int n n' 1 _ ⟨fun _ => by omega, fun _ => by omega, fun _ => rfl⟩).mono ?_
    rintro e w1 ⟨rfl, rfl⟩
    go_wp2_with fail
    go_ret
    exact ⟨by rw [C.out]; rfl, nxa (nxa (Below.refl _ _) _) _⟩
end Go.Proofs.Ytflleaifmeiikaa
namespace Go.Proofs.Ytflleaifmeiikaa
open Go.RowKit
theorem max_lt_pow {x y n n' : Nat} (h : x < W ^ n) (h' : y < W ^ n') : x + y < W ^ (max n n' + 1) := by
  have h1 := Nat.pow_le_pow_right W_pos (show n ≤ max n n' by omega)
  have h2 := Nat.pow_le_pow_right W_pos (show n' ≤ max n n' by omega)
  rw [Nat.pow_succ]
  have : W ^ max n n' * 2 ≤ W ^ max n n' * W := Nat.mul_le_mul_left _ (by decide)
  omega
theorem addLo_digit (kk x y : Nat) : addLo (dg W kk x) (dg W kk y) (carry W kk x y) = dg W kk (x + y) ∧ addHi (dg W kk x) (dg W kk y) (carry W kk x y) = carry W (kk + 1) x y := by
  have s := carry_step W_pos kk x y
  have c := carry_le W_pos kk x y
  unfold addLo addHi
  rw [show dg W kk x + dg W kk y + carry W kk x y % 2 = carry W kk x y + dg W kk x + dg W kk y by omega]
  exact ⟨s.2, s.1⟩
set_option maxRecDepth 100000 in
set_option maxHeartbeats 1000000 in
theorem nat_Add (A : Option Addr) (n c x : Nat) (A' : Option Addr) (n' c' y : Nat) (w : World) (h : NatAt w A n c x) (h' : NatAt w A' n' c' y) (hn : n ≤ 17592186044416) (hn' : n' ≤ 17592186044416) :
    Calls Try.prog 28 #[.agg #[.slice A n c], .agg #[.slice A' n' c']] w (RetNat w (x + y)) := by
  obtain ⟨i0, hi, hz0, hz1, hz2⟩ := info_parts info_u64
  have m1 := h.1.max
  have m2 := h.1.cap
  have m3 := h'.1.max
  have m4 := h'.1.cap
  obtain ⟨N, hN⟩ : ∃ N, N = max n n' + 1 := ⟨_, rfl⟩
  have hxy : x + y < W ^ N := by rw [hN]; exact max_lt_pow h.1.lt h'.1.lt
  have hNle : N ≤ 17592186044417 := by omega
  have HN := Lib.hid hN
  clear hN
  have B0 := ((Blk1.new w 25 (.slice A n c)).alloc (.cells #[.slice A' n' c'] 25)).alloc (.cells #[.slice none 0 0] 25)
  have B1 := (Blk1.new (w.alloc (.cells #[.slice A n c] 25)) 25 (.slice A' n' c')).alloc (.cells #[.slice none 0 0] 25)
  have B2 := Blk1.new ((w.alloc (.cells #[.slice A n c] 25)).alloc (.cells #[.slice A' n' c'] 25)) 25 (.slice none 0 0)
  simp only [World.size_alloc] at B1 B2
  by_cases hmx : n < n'
  · go_enter Try.func28, Try.ntmps28
    go_wp2_with (at_make; refine wpList_make_full _ rfl _ _ 22 rfl (w.heap.size + 1 + 1 + 1) 30 i0 (.int .u64 0) 1 Try.underlying22 hi hz0 hz1 .i64 .i64 _ _ N rfl rfl (by have := HN.out; omega) (by have := HN.out; omega) (by rw [hz2]; omega) (by unfold maxLen; omega) (by simp) ?_)
    intro w1 hown hgrow
    rw [made_dl .u64 W] at hown
    have hb1 := below_of_none hgrow
    have X0 := B0.to hb1
    have X1 := B1.to hb1
    have X2 := B2.to hb1
    have hbel : Below w.heap.size w w1 := nx (nxa (nxa (nxa (Below.refl _ _) _) _) _) hb1
    have c0 := X0.cell
    have c1 := X1.cell
    clear hgrow hb1
    go_wp2_with fail
    clear c0 c1
    go_loopw [6, 7, 19] (fun cc _ k wr => ∃ kk : Nat, kk ≤ N ∧ k = .int .i64 (kk : Int) ∧ cc = .int .u64 (carry W kk x y : Nat) ∧ wr.ownsRow (w.heap.size + 1 + 1 + 1) 30 1 (.slice (some ⟨w.heap.size + 1 + 1 + 1, 0, none⟩) N N) N (dl .u64 W N (low W kk (x + y))) ∧ Below w.heap.size w wr ∧ Blk1 wr w.heap.size 25 (.slice A n c) ∧ Blk1 wr (w.heap.size + 1) 25 (.slice A' n' c') ∧ Blk1 wr (w.heap.size + 1 + 1) 25 (.slice none 0 0)) (fun _ _ k _ => N - (intOf k).toNat)
    case atStart => exact ⟨0, Nat.zero_le _, rfl, by rw [carry_zero]; rfl, by rw [low_nought]; exact hown, hbel, X0, X1, X2⟩
    case round =>
      obtain ⟨kk, hk, rfl, rfl, hown, hbel, X0, X1, X2⟩ := hrel
      by_cases hlt : kk < N
      · have c0 := X0.cell
        have c1 := X1.cell
        have c3 := hown.cellAt kk (by omega)
        rw [dl_get _ _ _ _ _ hlt] at c3
        have f3 := hown.frozenAt kk
        have hsz : w.heap.size + 1 + 1 + 1 < wr.heap.size := (hown.lt _ rfl).2
        have hx := h.below hbel (Nat.le_refl _)
        have hy := h'.below hbel (Nat.le_refl _)
        have hkN : (kk : Int) < (N : Int) := by omega
        go_wp2_with fail
        have SS := Lib.hid (addLo_digit kk x y)
        have d1 := dg_lt W_pos kk x
        have d2 := dg_lt W_pos kk y
        have d3 : carry W kk x y < W := Nat.lt_of_le_of_lt (carry_le W_pos kk x y) (by decide)
        have kM : kk ≤ 9223372036854775807 := by omega
        go_region_held3 (fun w' => w'.cell? ⟨w.heap.size, 0, none⟩ = some (.slice A n c) ∧ w'.cell? ⟨w.heap.size + 1, 0, none⟩ = some (.slice A' n' c')) (first | go_keep | (exact ⟨((((X0.drew.to hb2).to hb3).far (by show _ ≠ w.heap.size + 1 + 1 + 1; omega) _).cell), ((((X1.drew.to hb2).to hb3).far (by show _ ≠ w.heap.size + 1 + 1 + 1; omega) _).cell)⟩) | (exact ⟨((X0.drew.to hb2).to hb3).cell, ((X1.drew.to hb2).to hb3).cell⟩) | (exact ⟨(X0.drew.to hb2).cell, (X1.drew.to hb2).cell⟩))
          (first | (go_at_call 20; (with_reducible refine (nat_Word A n c x kk _ hx.drew kM).mono ?_); rintro e w2 ⟨rfl, hb2⟩) | (go_at_call 20; (with_reducible refine (nat_Word A' n' c' y kk _ (hy.drew.to hb2) kM).mono ?_); rintro e w3 ⟨rfl, hb3⟩; have ho3 := own_below (own_below hown.drew hb2) hb3; have c4 := ho3.cellAt kk (by omega); have f4 := ho3.frozenAt kk; rw [dl_get _ _ _ _ _ hlt] at c4) | (go_at_call 58; (with_reducible refine (word_Add _ _ _ _ d1 d2 d3).mono ?_); rw [SS.out.1, SS.out.2]; rintro e w4 ⟨rfl, rfl⟩))
        have ho := (ho3.stored kk (.int .u64 (dg W kk (x + y) : Nat))).1
        rw [dl_set W_pos hlt (dg_lt W_pos _ _), put_top (low_bound W_pos _ _), low_next] at ho
        have hbelw : Below w.heap.size w w3 := nx (nx (nxd hbel 1) hb2) hb3
        have hbel' := hbelw.setCell (p := ⟨w.heap.size + 1 + 1 + 1, kk, none⟩) (by show w.heap.size ≤ w.heap.size + 1 + 1 + 1; omega) (.int .u64 (dg W kk (x + y) : Nat))
        have Y0 := ((X0.drew.to hb2).to hb3).far (p := ⟨w.heap.size + 1 + 1 + 1, kk, none⟩) (by show _ ≠ w.heap.size + 1 + 1 + 1; omega) (.int .u64 (dg W kk (x + y) : Nat))
        have Y1 := ((X1.drew.to hb2).to hb3).far (p := ⟨w.heap.size + 1 + 1 + 1, kk, none⟩) (by show _ ≠ w.heap.size + 1 + 1 + 1; omega) (.int .u64 (dg W kk (x + y) : Nat))
        have Y2 := ((X2.drew.to hb2).to hb3).far (p := ⟨w.heap.size + 1 + 1 + 1, kk, none⟩) (by show _ ≠ w.heap.size + 1 + 1 + 1; omega) (.int .u64 (dg W kk (x + y) : Nat))
        clear hb2 hb3 ho3 c4 f4 c0 c1 c3 f3 hbelw
        go_wp2_with fail
        go_roundw
        case rel => exact ⟨kk + 1, by omega, by go_num, rfl, ho, hbel', Y0, Y1, Y2⟩
        case measure => simp [intOf]; omega
      · obtain rfl : kk = N := by omega
        rw [low_all hxy] at hown
        obtain ⟨A1, c1, hv, hd, hf⟩ := own_form hown hxy
        cases hv
        go_wp2_with fail
        refine (nat_trim _ kk kk (x + y) _ hd).mono ?_
        rintro e w2 ⟨m, rfl, hd2, hb2, hm⟩
        have Z2 := X2.to hb2
        have c0 := Z2.cell
        have f0 := Z2.free
        have hbel' := nx hbel hb2
        clear hd hf hown hb2
        go_wp2_with fail
        exact bodyPost_ret (v := .agg #[.slice (some ⟨w.heap.size + 1 + 1 + 1, 0, none⟩) m kk]) (by simp [results, Try.results28, go_sem, c0]) rfl ⟨_, m, _, rfl, hd2.put_ c0 _, hbel'.setCell (by show w.heap.size ≤ w.heap.size + 1 + 1; omega) _⟩
  · go_enter Try.func28, Try.ntmps28
    go_wp2_with (at_make; refine wpList_make_full _ rfl _ _ 22 rfl (w.heap.size + 1 + 1 + 1) 30 i0 (.int .u64 0) 1 Try.underlying22 hi hz0 hz1 .i64 .i64 _ _ N rfl rfl (by have := HN.out; omega) (by have := HN.out; omega) (by rw [hz2]; omega) (by unfold maxLen; omega) (by simp) ?_)
    intro w1 hown hgrow
    rw [made_dl .u64 W] at hown
    have hb1 := below_of_none hgrow
    have X0 := B0.to hb1
    have X1 := B1.to hb1
    have X2 := B2.to hb1
    have hbel : Below w.heap.size w w1 := nx (nxa (nxa (nxa (Below.refl _ _) _) _) _) hb1
    have c0 := X0.cell
    have c1 := X1.cell
    clear hgrow hb1
    go_wp2_with fail
    clear c0 c1
    go_loopw [6, 7, 19] (fun cc _ k wr => ∃ kk : Nat, kk ≤ N ∧ k = .int .i64 (kk : Int) ∧ cc = .int .u64 (carry W kk x y : Nat) ∧ wr.ownsRow (w.heap.size + 1 + 1 + 1) 30 1 (.slice (some ⟨w.heap.size + 1 + 1 + 1, 0, none⟩) N N) N (dl .u64 W N (low W kk (x + y))) ∧ Below w.heap.size w wr ∧ Blk1 wr w.heap.size 25 (.slice A n c) ∧ Blk1 wr (w.heap.size + 1) 25 (.slice A' n' c') ∧ Blk1 wr (w.heap.size + 1 + 1) 25 (.slice none 0 0)) (fun _ _ k _ => N - (intOf k).toNat)
    case atStart => exact ⟨0, Nat.zero_le _, rfl, by rw [carry_zero]; rfl, by rw [low_nought]; exact hown, hbel, X0, X1, X2⟩
    case round =>
      obtain ⟨kk, hk, rfl, rfl, hown, hbel, X0, X1, X2⟩ := hrel
      by_cases hlt : kk < N
      · have c0 := X0.cell
        have c1 := X1.cell
        have c3 := hown.cellAt kk (by omega)
        rw [dl_get _ _ _ _ _ hlt] at c3
        have f3 := hown.frozenAt kk
        have hsz : w.heap.size + 1 + 1 + 1 < wr.heap.size := (hown.lt _ rfl).2
        have hx := h.below hbel (Nat.le_refl _)
        have hy := h'.below hbel (Nat.le_refl _)
        have hkN : (kk : Int) < (N : Int) := by omega
        go_wp2_with fail
        have SS := Lib.hid (addLo_digit kk x y)
        have d1 := dg_lt W_pos kk x
        have d2 := dg_lt W_pos kk y
        have d3 : carry W kk x y < W := Nat.lt_of_le_of_lt (carry_le W_pos kk x y) (by decide)
        have kM : kk ≤ 9223372036854775807 := by omega
        go_region_held3 (fun w' => w'.cell? ⟨w.heap.size, 0, none⟩ = some (.slice A n c) ∧ w'.cell? ⟨w.heap.size + 1, 0, none⟩ = some (.slice A' n' c')) (first | go_keep | (exact ⟨((((X0.drew.to hb2).to hb3).far (by show _ ≠ w.heap.size + 1 + 1 + 1; omega) _).cell), ((((X1.drew.to hb2).to hb3).far (by show _ ≠ w.heap.size + 1 + 1 + 1; omega) _).cell)⟩) | (exact ⟨((X0.drew.to hb2).to hb3).cell, ((X1.drew.to hb2).to hb3).cell⟩) | (exact ⟨(X0.drew.to hb2).cell, (X1.drew.to hb2).cell⟩))
          (first | (go_at_call 20; (with_reducible refine (nat_Word A n c x kk _ hx.drew kM).mono ?_); rintro e w2 ⟨rfl, hb2⟩) | (go_at_call 20; (with_reducible refine (nat_Word A' n' c' y kk _ (hy.drew.to hb2) kM).mono ?_); rintro e w3 ⟨rfl, hb3⟩; have ho3 := own_below (own_below hown.drew hb2) hb3; have c4 := ho3.cellAt kk (by omega); have f4 := ho3.frozenAt kk; rw [dl_get _ _ _ _ _ hlt] at c4) | (go_at_call 58; (with_reducible refine (word_Add _ _ _ _ d1 d2 d3).mono ?_); rw [SS.out.1, SS.out.2]; rintro e w4 ⟨rfl, rfl⟩))
        have ho := (ho3.stored kk (.int .u64 (dg W kk (x + y) : Nat))).1
        rw [dl_set W_pos hlt (dg_lt W_pos _ _), put_top (low_bound W_pos _ _), low_next] at ho
        have hbelw : Below w.heap.size w w3 := nx (nx (nxd hbel 1) hb2) hb3
        have hbel' := hbelw.setCell (p := ⟨w.heap.size + 1 + 1 + 1, kk, none⟩) (by show w.heap.size ≤ w.heap.size + 1 + 1 + 1; omega) (.int .u64 (dg W kk (x + y) : Nat))
        have Y0 := ((X0.drew.to hb2).to hb3).far (p := ⟨w.heap.size + 1 + 1 + 1, kk, none⟩) (by show _ ≠ w.heap.size + 1 + 1 + 1; omega) (.int .u64 (dg W kk (x + y) : Nat))
        have Y1 := ((X1.drew.to hb2).to hb3).far (p := ⟨w.heap.size + 1 + 1 + 1, kk, none⟩) (by show _ ≠ w.heap.size + 1 + 1 + 1; omega) (.int .u64 (dg W kk (x + y) : Nat))
        have Y2 := ((X2.drew.to hb2).to hb3).far (p := ⟨w.heap.size + 1 + 1 + 1, kk, none⟩) (by show _ ≠ w.heap.size + 1 + 1 + 1; omega) (.int .u64 (dg W kk (x + y) : Nat))
        clear hb2 hb3 ho3 c4 f4 c0 c1 c3 f3 hbelw
        go_wp2_with fail
        go_roundw
        case rel => exact ⟨kk + 1, by omega, by go_num, rfl, ho, hbel', Y0, Y1, Y2⟩
        case measure => simp [intOf]; omega
      · obtain rfl : kk = N := by omega
        rw [low_all hxy] at hown
        obtain ⟨A1, c1, hv, hd, hf⟩ := own_form hown hxy
        cases hv
        go_wp2_with fail
        refine (nat_trim _ kk kk (x + y) _ hd).mono ?_
        rintro e w2 ⟨m, rfl, hd2, hb2, hm⟩
        have Z2 := X2.to hb2
        have c0 := Z2.cell
        have f0 := Z2.free
        have hbel' := nx hbel hb2
        clear hd hf hown hb2
        go_wp2_with fail
        exact bodyPost_ret (v := .agg #[.slice (some ⟨w.heap.size + 1 + 1 + 1, 0, none⟩) m kk]) (by simp [results, Try.results28, go_sem, c0]) rfl ⟨_, m, _, rfl, hd2.put_ c0 _, hbel'.setCell (by show w.heap.size ≤ w.heap.size + 1 + 1; omega) _⟩
end Go.Proofs.Ytflleaifmeiikaa
namespace Go.Proofs.Ytflleaifmeiikaa
open Go.RowKit
/-- the step of a difference, read off the sum D + y = x -/
theorem subLo_digit (kk D y : Nat) : subLo (dg W kk (D + y)) (dg W kk y) (carry W kk D y) = dg W kk D ∧ subHi (dg W kk (D + y)) (dg W kk y) (carry W kk D y) = carry W (kk + 1) D y := by
  have s := carry_step W_pos kk D y
  have c := carry_le W_pos kk D y
  have c1 := carry_le W_pos (kk + 1) D y
  have hd := dg_lt W_pos kk D
  have hy := dg_lt W_pos kk y
  have hx := dg_lt W_pos kk (D + y)
  have e : dg W kk (D + y) + W * carry W (kk + 1) D y = carry W kk D y + dg W kk D + dg W kk y := by
    rw [← s.1, ← s.2]; exact Nat.mod_add_div _ _
  have h4 := sub_split (dg W kk (D + y)) (dg W kk y) (carry W kk D y) hx hy
  have h5 := subLo_lt (dg W kk (D + y)) (dg W kk y) (carry W kk D y)
  have h6 := subHi_le (dg W kk (D + y)) (dg W kk y) (carry W kk D y)
  generalize subLo (dg W kk (D + y)) (dg W kk y) (carry W kk D y) = l at *
  generalize subHi (dg W kk (D + y)) (dg W kk y) (carry W kk D y) = u at *
  generalize carry W (kk + 1) D y = c' at *
  have hc : c' = 0 ∨ c' = 1 := by omega
  have hu : u = 0 ∨ u = 1 := by omega
  rcases hc with rfl | rfl <;> rcases hu with rfl | rfl <;> refine ⟨?_, ?_⟩ <;> omega
set_option maxRecDepth 100000 in
set_option maxHeartbeats 1000000 in
theorem nat_Sub (A : Option Addr) (n c x : Nat) (A' : Option Addr) (n' c' y : Nat) (w : World) (h : NatAt w A n c x) (h' : NatAt w A' n' c' y) (hn : n ≤ 17592186044416) :
    Calls Try.prog 40 #[.agg #[.slice A n c], .agg #[.slice A' n' c']] w (RetNatB w (x - y) (decide (y ≤ x))) := by
  obtain ⟨i0, hi, hz0, hz1, hz2⟩ := info_parts info_u64
  have m1 := h.1.max
  have m2 := h.1.cap
  have m3 := h'.1.max
  have m4 := h'.1.cap
  have B0 := ((Blk1.new w 25 (.slice A n c)).alloc (.cells #[.slice A' n' c'] 25)).alloc (.cells #[.slice none 0 0] 25)
  have B1 := (Blk1.new (w.alloc (.cells #[.slice A n c] 25)) 25 (.slice A' n' c')).alloc (.cells #[.slice none 0 0] 25)
  have B2 := Blk1.new ((w.alloc (.cells #[.slice A n c] 25)).alloc (.cells #[.slice A' n' c'] 25)) 25 (.slice none 0 0)
  simp only [World.size_alloc] at B1 B2
  have hxa := ((h.alloc (.cells #[.slice A n c] 25)).alloc (.cells #[.slice A' n' c'] 25)).alloc (.cells #[.slice none 0 0] 25)
  have hya := ((h'.alloc (.cells #[.slice A n c] 25)).alloc (.cells #[.slice A' n' c'] 25)).alloc (.cells #[.slice none 0 0] 25)
  by_cases hlt : x < y
  · have C := Lib.hid (cmpI_lt hlt)
    have hdz := Lib.hid (show x - y = 0 by omega)
    have hdd := Lib.hid (show decide (y ≤ x) = false by simp; omega)
    clear hlt
    go_enter Try.func40, Try.ntmps40
    go_wp2_with fail
    refine (nat_Cmp A n c x A' n' c' y _ hxa hya).mono ?_
    rw [C.out]
    rintro e w1 ⟨rfl, hb1⟩
    have Z2 := B2.to hb1
    have c0 := Z2.cell
    have f0 := Z2.free
    have hbel : Below w.heap.size w w1 := nx (nxa (nxa (nxa (Below.refl _ _) _) _) _) hb1
    clear hb1
    go_wp2_with fail
    exact bodyPost_ret (v := .tuple #[.agg #[.slice none 0 0], .bool false]) (by simp [results, Try.results40, go_sem, c0]) rfl ⟨none, 0, 0, by rw [hdd.out], by rw [hdz.out]; exact ⟨Dig.nil _ _ _ _ (by omega), fun h => absurd h (by omega)⟩, hbel.setCell (by show w.heap.size ≤ w.heap.size + 1 + 1; omega) _⟩
  · have hle : y ≤ x := by omega
    have C : cmpI x y = 0 ∨ cmpI x y = 1 := by
      rcases Nat.eq_or_lt_of_le hle with e | e
      · exact .inl (cmpI_eq e.symm)
      · exact .inr (cmpI_gt e)
    have hC : 0 ≤ cmpI x y := by rcases C with e | e <;> rw [e] <;> decide
    obtain ⟨D, hD⟩ : ∃ D, D = x - y := ⟨_, rfl⟩
    obtain rfl : x = D + y := by omega
    have hDx : D < W ^ n := by have := h.1.lt; omega
    have hdz := Lib.hid hD
    have hdd := Lib.hid (show decide (y ≤ D + y) = true by simp)
    clear hlt C hD hle
    obtain ⟨r, hr⟩ : ∃ r, r = cmpI (D + y) y := ⟨_, rfl⟩
    rw [← hr] at hC
    have HR := Lib.hid hr
    clear hr
    go_enter Try.func40, Try.ntmps40
    go_wp2_with fail
    refine (nat_Cmp A n c (D + y) A' n' c' y _ hxa hya).mono ?_
    rw [← HR.out]
    rintro e w1 ⟨rfl, hb1⟩
    have X0 := B0.to hb1
    have X1 := B1.to hb1
    have X2 := B2.to hb1
    have hbel : Below w.heap.size w w1 := nx (nxa (nxa (nxa (Below.refl _ _) _) _) _) hb1
    have c0 := X0.cell
    have hs1 : w.heap.size + 1 + 1 < w1.heap.size := X2.lt
    clear hb1
    go_wp2_with (at_make; refine wpList_make_full _ rfl _ _ 22 rfl w1.heap.size 30 i0 (.int .u64 0) 1 Try.underlying22 hi hz0 hz1 .i64 .i64 _ _ n rfl rfl rfl rfl (by rw [hz2]; omega) (by unfold maxLen; omega) (Nat.le_refl _) ?_)
    intro w2 hown hgrow
    rw [made_dl .u64 W] at hown
    have hb2 := below_of_none hgrow
    have X0 := X0.to hb2
    have X1 := X1.to hb2
    have X2 := X2.to hb2
    have hbel := nx hbel hb2
    have hs2 : w1.heap.size < w2.heap.size := (hown.lt _ rfl).2
    obtain ⟨G, hG⟩ : ∃ G, G = w1.heap.size := ⟨_, rfl⟩
    rw [← hG] at hown hs1 hs2 ⊢
    have HG := Lib.hid hG
    clear hG hgrow hb2 c0
    go_wp2_with fail
    go_loopw [7, 8, 20] (fun cc _ k wr => ∃ kk : Nat, kk ≤ n ∧ k = .int .i64 (kk : Int) ∧ cc = .int .u64 (carry W kk D y : Nat) ∧ wr.ownsRow G 30 1 (.slice (some ⟨G, 0, none⟩) n n) n (dl .u64 W n (low W kk D)) ∧ Below w.heap.size w wr ∧ Blk1 wr w.heap.size 25 (.slice A n c) ∧ Blk1 wr (w.heap.size + 1) 25 (.slice A' n' c') ∧ Blk1 wr (w.heap.size + 1 + 1) 25 (.slice none 0 0)) (fun _ _ k _ => n - (intOf k).toNat)
    case atStart => exact ⟨0, Nat.zero_le _, rfl, by rw [carry_zero]; rfl, by rw [low_nought]; exact hown, hbel, X0, X1, X2⟩
    case round =>
      obtain ⟨kk, hk, rfl, rfl, hown, hbel, X0, X1, X2⟩ := hrel
      by_cases hlt : kk < n
      · have c0 := X0.cell
        have c1 := X1.cell
        have c3 := hown.cellAt kk (by omega)
        rw [dl_get _ _ _ _ _ hlt] at c3
        have f3 := hown.frozenAt kk
        have hx := h.below hbel (Nat.le_refl _)
        have hy := h'.below hbel (Nat.le_refl _)
        obtain ⟨g, o, rfl, hg, hcell⟩ := h.1.at_ (by omega)
        have cd := (hbel.cell (p := ⟨g, o + kk, none⟩) hg).trans (hcell kk hlt)
        clear hcell
        have hkN : (kk : Int) < (n : Int) := by omega
        go_wp2_with fail
        have SS := Lib.hid (subLo_digit kk D y)
        have d1 := dg_lt W_pos kk (D + y)
        have d2 := dg_lt W_pos kk y
        have d3 : carry W kk D y < W := Nat.lt_of_le_of_lt (carry_le W_pos kk D y) (by decide)
        have kM : kk ≤ 9223372036854775807 := by omega
        have hgl : g < wr.heap.size := Nat.lt_of_lt_of_le hg hbel.size
        go_region_held3 (fun w' => w'.cell? ⟨w.heap.size, 0, none⟩ = some (.slice (some ⟨g, o, none⟩) n c) ∧ w'.cell? ⟨w.heap.size + 1, 0, none⟩ = some (.slice A' n' c') ∧ w'.cell? ⟨g, o + kk, none⟩ = some (.int .u64 (dg W kk (D + y) : Nat))) (first | (exact ⟨((X0.drew.to hb2).far (by show _ ≠ G; omega) _).cell, ((X1.drew.to hb2).far (by show _ ≠ G; omega) _).cell, K3 _⟩) | (exact ⟨(X0.drew.to hb2).cell, (X1.drew.to hb2).cell, K2⟩) | go_keep)
          (first | (go_at_call 20; (with_reducible refine (nat_Word A' n' c' y kk _ hy.drew kM).mono ?_); rintro e w3 ⟨rfl, hb2⟩; have K2 := (hb2.cell (p := ⟨g, o + kk, none⟩) hgl).trans cd; have ho3 := own_below hown.drew hb2; have c4 := ho3.cellAt kk (by omega); have f4 := ho3.frozenAt kk; rw [dl_get _ _ _ _ _ hlt] at c4) | (go_at_call 70; (with_reducible refine (word_Sub _ _ _ _ d1 d2 d3).mono ?_); rw [SS.out.1, SS.out.2]; rintro e w4 ⟨rfl, rfl⟩; have K3 : ∀ u, (w3.setCell ⟨G, kk, none⟩ u).cell? ⟨g, o + kk, none⟩ = some (.int .u64 (dg W kk (D + y) : Nat)) := fun u => (World.cell?_setCell_other _ _ _ _ (by intro e; injection e with e1 e2; omega)).trans K2))
        have ho := (ho3.stored kk (.int .u64 (dg W kk D : Nat))).1
        rw [dl_set W_pos hlt (dg_lt W_pos _ _), put_top (low_bound W_pos _ _), low_next] at ho
        have hbelw : Below w.heap.size w w3 := nx (nxd hbel 1) hb2
        have hbel' := hbelw.setCell (p := ⟨G, kk, none⟩) (by show w.heap.size ≤ G; omega) (.int .u64 (dg W kk D : Nat))
        have Y0 := (X0.drew.to hb2).far (p := ⟨G, kk, none⟩) (by show _ ≠ G; omega) (.int .u64 (dg W kk D : Nat))
        have Y1 := (X1.drew.to hb2).far (p := ⟨G, kk, none⟩) (by show _ ≠ G; omega) (.int .u64 (dg W kk D : Nat))
        have Y2 := (X2.drew.to hb2).far (p := ⟨G, kk, none⟩) (by show _ ≠ G; omega) (.int .u64 (dg W kk D : Nat))
        clear hb2 ho3 c4 f4 c0 c1 c3 f3 hbelw K2 K3
        go_wp2_with fail
        go_roundw
        case rel => exact ⟨kk + 1, by omega, by go_num, rfl, ho, hbel', Y0, Y1, Y2⟩
        case measure => simp [intOf]; omega
      · obtain rfl : kk = n := by omega
        rw [low_all hDx] at hown
        obtain ⟨A1, c1, hv, hd, hf⟩ := own_form hown hDx
        cases hv
        go_wp2_with fail
        refine (nat_trim _ kk kk D _ hd).mono ?_
        rintro e w3 ⟨m, rfl, hd2, hb2, hm⟩
        have Z2 := X2.to hb2
        have c0 := Z2.cell
        have f0 := Z2.free
        have hbel' := nx hbel hb2
        clear hd hf hown hb2
        go_wp2_with fail
        exact bodyPost_ret (v := .tuple #[.agg #[.slice (some ⟨G, 0, none⟩) m kk], .bool true]) (by simp [results, Try.results40, go_sem, c0]) rfl ⟨_, m, _, by rw [hdd.out], by rw [← hdz.out]; exact hd2.put_ c0 _, hbel'.setCell (by show w.heap.size ≤ w.heap.size + 1 + 1; omega) _⟩
end Go.Proofs.Ytflleaifmeiikaa
namespace Go.Proofs.Ytflleaifmeiikaa
open Go.RowKit
theorem shl_digit {i q s x : Nat} (hs : s ≤ 63) :
    let V := low W i x * 2 ^ s * W ^ q
    let t := dg W (i + q) V
    let lo := dg W i x * 2 ^ s % W
    let hi := dg W i x / 2 ^ (64 - s)
    V < W ^ (i + q + 1) ∧ t ||| lo = t + lo ∧ t + lo < W ∧ hi < W ∧ put W (i + q + 1) (put W (i + q) V (t + lo)) hi = low W (i + 1) x * 2 ^ s * W ^ q := by
  intro V t lo hi
  have hp : 0 < 2 ^ s := Nat.pow_pos (by decide)
  have hl := low_bound W_pos i x
  have hd := dg_lt W_pos i x
  have hV : V < 2 ^ s * W ^ (i + q) := by
    show low W i x * 2 ^ s * W ^ q < _
    rw [Nat.pow_add, Nat.mul_comm (low W i x), Nat.mul_assoc]
    exact Nat.mul_lt_mul_of_pos_left (Nat.mul_lt_mul_of_pos_right hl (Nat.pow_pos W_pos)) hp
  have h2s : 2 ^ s < W := by rw [W_eq]; exact Nat.pow_lt_pow_right (by decide) (by omega)
  have hV1 : V < W ^ (i + q + 1) := by
    rw [Nat.pow_succ, Nat.mul_comm]
    exact Nat.lt_trans hV (Nat.mul_lt_mul_of_pos_right h2s (Nat.pow_pos W_pos))
  have ht : t < 2 ^ s := by
    show V / W ^ (i + q) % W < 2 ^ s
    exact Nat.lt_of_le_of_lt (Nat.mod_le _ _) ((Nat.div_lt_iff_lt_mul (Nat.pow_pos W_pos)).2 hV)
  have hsplit := split_at (dg W i x) s (by omega)
  have hlo : ∃ m, lo = 2 ^ s * m ∧ m + 1 ≤ 2 ^ (64 - s) := by
    have e : W = 2 ^ s * 2 ^ (64 - s) := by rw [← Nat.pow_add, show s + (64 - s) = 64 by omega]; rfl
    refine ⟨dg W i x % 2 ^ (64 - s), ?_, Nat.mod_lt _ (Nat.pow_pos (by decide))⟩
    show dg W i x * 2 ^ s % W = _
    rw [e, Nat.mul_comm, Nat.mul_mod_mul_left]
  obtain ⟨m, hm, hm2⟩ := hlo
  have hadd : t + lo < W := by
    have e : W = 2 ^ s * 2 ^ (64 - s) := by rw [← Nat.pow_add, show s + (64 - s) = 64 by omega]; rfl
    rw [e, hm]
    have : 2 ^ s * (m + 1) ≤ 2 ^ s * 2 ^ (64 - s) := Nat.mul_le_mul_left _ hm2
    rw [Nat.mul_add] at this; omega
  refine ⟨hV1, ?_, hadd, Nat.lt_of_le_of_lt (Nat.div_le_self _ _) hd, ?_⟩
  · rw [hm, Nat.or_comm, ← Nat.two_pow_add_eq_or_of_lt ht, Nat.add_comm]
  · have e1 : put W (i + q) V (t + lo) = V + lo * W ^ (i + q) := by
      unfold put
      have hz : V / W ^ (i + q + 1) = 0 := Nat.div_eq_of_lt hV1
      have hVs : V = V % W ^ (i + q) + t * W ^ (i + q) := by
        have := low_succ W (i + q) V
        rw [Nat.mod_eq_of_lt hV1] at this
        exact this
      rw [hz, Nat.add_mul]
      omega
    have e2 : V + lo * W ^ (i + q) < W ^ (i + q + 1) := by
      rw [← e1]; exact put_lt W_pos (by omega) hV1 hadd
    rw [e1, put_top e2]
    have e3 : low W (i + 1) x * 2 ^ s * W ^ q = V + (dg W i x * 2 ^ s) * W ^ (i + q) := by
      rw [← low_next, Nat.add_mul, Nat.add_mul, Nat.pow_add]
      congr 1
      rw [Nat.mul_right_comm (dg W i x), Nat.mul_assoc (dg W i x * 2 ^ s)]
    rw [e3, ← hsplit, Nat.add_mul, Nat.pow_succ]
    show V + lo * W ^ (i + q) + hi * (W ^ (i + q) * W) = V + (hi * W * W ^ (i + q) + lo * W ^ (i + q))
    rw [Nat.mul_comm (W ^ (i + q)) W, ← Nat.mul_assoc]
    omega
def shv (q s i x : Nat) : Nat := low W i x * 2 ^ s * W ^ q
theorem shv_zero (q s x : Nat) : shv q s 0 x = 0 := by unfold shv; rw [low_nought]; simp
theorem shv_all {q s n x : Nat} (h : x < W ^ n) : shv q s n x = x * 2 ^ s * W ^ q := by unfold shv; rw [low_all h]
theorem nat_Shl_no (A : Option Addr) (n c : Nat) (k : Int) (w : World) (hk : k < 0 ∨ 65536 < k) :
    Calls Try.prog 37 #[.agg #[.slice A n c], .int .i64 k] w (RetNatB w 0 false) := by
  have fin : ∀ w', RetNatB w 0 false (.returned (.tuple #[.agg #[.slice none 0 0], .bool false])) ((w.alloc (.cells #[.slice A n c] 25)).alloc w') := fun _ => ⟨none, 0, 0, rfl, ⟨Dig.nil _ _ _ _ (by omega), fun h => absurd h (by omega)⟩, nxa (nxa (Below.refl _ _) _) _⟩
  have FIN := Lib.hid fin
  clear fin
  rcases hk with hk | hk
  · go_enter Try.func37, Try.ntmps37
    go_wp2_with fail
    exact bodyPost_ret (v := .tuple #[.agg #[.slice none 0 0], .bool false]) (by simp [results, Try.results37, go_sem]) rfl (FIN.out _)
  · have hk' : ¬ k < 0 := by omega
    go_enter Try.func37, Try.ntmps37
    go_wp2_with fail
    exact bodyPost_ret (v := .tuple #[.agg #[.slice none 0 0], .bool false]) (by simp [results, Try.results37, go_sem]) rfl (FIN.out _)
set_option maxRecDepth 100000 in
set_option maxHeartbeats 1000000 in
theorem nat_Shl (A : Option Addr) (n c x k : Nat) (w : World) (h : NatAt w A n c x) (hk : k ≤ 65536) (hn : n ≤ 17592186044416) :
    Calls Try.prog 37 #[.agg #[.slice A n c], .int .i64 (k : Int)] w (RetNatB w (x * 2 ^ k) true) := by
  obtain ⟨i0, hi, hz0, hz1, hz2⟩ := info_parts info_u64
  have m1 := h.1.max
  have m2 := h.1.cap
  obtain ⟨q, hq⟩ : ∃ q, q = k / 64 := ⟨_, rfl⟩
  obtain ⟨s, hs⟩ : ∃ s, s = k % 64 := ⟨_, rfl⟩
  have eq1 : (k : Int) / 64 = (q : Int) := by omega
  have es1 : (k : Int) % 64 = (s : Int) := by omega
  have hs63 : s ≤ 63 := by omega
  have hq1 : q ≤ 1024 := by omega
  have hX := Lib.hid (show x * 2 ^ k = shv q s n x by rw [shv_all h.1.lt, Nat.mul_assoc, W_pow, ← Nat.pow_add]; congr 2; omega)
  have B0 := (Blk1.new w 25 (.slice A n c)).alloc (.cells #[.slice none 0 0] 25)
  have B1 := Blk1.new (w.alloc (.cells #[.slice A n c] 25)) 25 (.slice none 0 0)
  simp only [World.size_alloc] at B1
  have hk65 : ¬ 65536 < (k : Int) := by omega
  clear hq hs
  go_enter Try.func37, Try.ntmps37
  go_wp2_with (at_make; refine wpList_make_full _ rfl _ _ 22 rfl (w.heap.size + 1 + 1) 30 i0 (.int .u64 0) 1 Try.underlying22 hi hz0 hz1 .i64 .i64 _ _ (n + q + 1) rfl rfl (by omega) (by omega) (by rw [hz2]; omega) (by unfold maxLen; omega) (by simp) ?_)
  intro w1 hown hgrow
  rw [made_dl .u64 W] at hown
  have hb1 := below_of_none hgrow
  have X0 := B0.to hb1
  have X1 := B1.to hb1
  have hbel : Below w.heap.size w w1 := nx (nxa (nxa (Below.refl _ _) _) _) hb1
  have c0 := X0.cell
  have hs1 : w.heap.size + 1 + 1 < w1.heap.size := (hown.lt _ rfl).2
  clear hgrow hb1
  go_wp2_with fail
  clear c0
  go_loopw [8, 9, 30] (fun _ _ k wr => ∃ i : Nat, i ≤ n ∧ k = .int .i64 (i : Int) ∧ wr.ownsRow (w.heap.size + 1 + 1) 30 1 (.slice (some ⟨w.heap.size + 1 + 1, 0, none⟩) (n + q + 1) (n + q + 1)) (n + q + 1) (dl .u64 W (n + q + 1) (shv q s i x)) ∧ Below w.heap.size w wr ∧ Blk1 wr w.heap.size 25 (.slice A n c) ∧ Blk1 wr (w.heap.size + 1) 25 (.slice none 0 0)) (fun _ _ k _ => n - (intOf k).toNat)
  case atStart => exact ⟨0, Nat.zero_le _, rfl, by rw [shv_zero]; exact hown, hbel, X0, X1⟩
  case round =>
    obtain ⟨i, hik, rfl, hown, hbel, X0, X1⟩ := hrel
    by_cases hlt : i < n
    · have SD := shl_digit (i := i) (q := q) (s := s) (x := x) hs63
      obtain ⟨s1, s2, s3, s4, s5⟩ := SD
      change put W (i + q + 1) (put W (i + q) (shv q s i x) (dg W (i + q) (shv q s i x) + dg W i x * 2 ^ s % W)) (dg W i x / 2 ^ (64 - s)) = shv q s (i + 1) x at s5
      change dg W (i + q) (shv q s i x) ||| dg W i x * 2 ^ s % W = dg W (i + q) (shv q s i x) + dg W i x * 2 ^ s % W at s2
      change dg W (i + q) (shv q s i x) + dg W i x * 2 ^ s % W < W at s3
      change shv q s i x < W ^ (i + q + 1) at s1
      obtain ⟨g, o, rfl, hg, hcell⟩ := h.1.at_ (by omega)
      have cd := (hbel.cell (p := ⟨g, o + i, none⟩) hg).trans (hcell i hlt)
      clear hcell
      have c3 := hown.cellAt (i + q) (by omega)
      rw [dl_get _ _ _ _ _ (by omega)] at c3
      have f3 := hown.frozenAt (i + q)
      obtain ⟨xi, hxi⟩ : ∃ xi, xi = dg W i x := ⟨_, rfl⟩
      obtain ⟨t, ht⟩ : ∃ t, t = dg W (i + q) (shv q s i x) := ⟨_, rfl⟩
      obtain ⟨v1, hv1⟩ : ∃ v1, v1 = t + xi * 2 ^ s % W := ⟨_, rfl⟩
      obtain ⟨v2, hv2⟩ : ∃ v2, v2 = xi / 2 ^ (64 - s) := ⟨_, rfl⟩
      have htw : t < W := by rw [ht]; exact dg_lt W_pos _ _
      rw [← hxi, ← ht] at s2 s3 s5
      rw [← hv1] at s2 s3 s5
      rw [← hv2] at s5
      rw [← ht] at c3
      rw [← hxi] at cd s4
      have q1 : bits .or .u64 (t : Int) (IntKind.u64.wrap ((xi : Int) * 2 ^ s)) = (v1 : Int) := by
        rw [show ((2 : Int) ^ s) = ((2 ^ s : Nat) : Int) by simp, wrap_mul, or_nat _ _ htw (Nat.mod_lt _ W_pos), s2]
      have q2 : (xi : Int) / 2 ^ (64 - s) = (v2 : Int) := by
        rw [show ((2 : Int) ^ (64 - s)) = ((2 ^ (64 - s) : Nat) : Int) by simp, div_nat, ← hv2]
      have iN : (i : Int) < (n : Int) := by omega
      have S5 := Lib.hid s5
      have S1 := Lib.hid s1
      have S3 := Lib.hid s3
      have S4 := Lib.hid (show v2 < W by rw [hv2]; exact s4)
      clear s1 s2 s3 s4 s5 hv1 hv2 ht hxi htw
      go_wp2_with fail
      go_region
      have c5 := hown.cellAt (i + q + 1) (by omega)
      rw [dl_get _ _ _ _ _ (by omega)] at c5
      have f5 := hown.frozenAt (i + q + 1)
      have ho := (((hown.stored (i + q) (.int .u64 (v1 : Nat))).1).stored (i + q + 1) (.int .u64 (v2 : Nat))).1
      rw [dl_set W_pos (by omega) S3.out, dl_set W_pos (by omega) S4.out, S5.out] at ho
      have hbel' := (hbel.setCell (p := ⟨w.heap.size + 1 + 1, i + q, none⟩) (by show w.heap.size ≤ w.heap.size + 1 + 1; omega) (.int .u64 (v1 : Nat))).setCell (p := ⟨w.heap.size + 1 + 1, i + q + 1, none⟩) (by show w.heap.size ≤ w.heap.size + 1 + 1; omega) (.int .u64 (v2 : Nat))
      have Y0 := (X0.far (p := ⟨w.heap.size + 1 + 1, i + q, none⟩) (by show _ ≠ w.heap.size + 1 + 1; omega) (.int .u64 (v1 : Nat))).far (p := ⟨w.heap.size + 1 + 1, i + q + 1, none⟩) (by show _ ≠ w.heap.size + 1 + 1; omega) (.int .u64 (v2 : Nat))
      have Y1 := (X1.far (p := ⟨w.heap.size + 1 + 1, i + q, none⟩) (by show _ ≠ w.heap.size + 1 + 1; omega) (.int .u64 (v1 : Nat))).far (p := ⟨w.heap.size + 1 + 1, i + q + 1, none⟩) (by show _ ≠ w.heap.size + 1 + 1; omega) (.int .u64 (v2 : Nat))
      clear hown hbel X0 X1 c3 f3
      go_wp2_with fail
      go_roundw
      case rel => exact ⟨i + 1, by omega, by go_num, ho, hbel'.drew, Y0, Y1⟩
      case measure => simp [intOf]; omega
    · obtain rfl : i = n := by omega
      have hfit : shv q s i x < W ^ (i + q + 1) := by
        have := (shl_digit (i := i) (q := q) (s := s) (x := x) hs63).1
        exact this
      obtain ⟨A1, c1, hv, hd, hf⟩ := own_form hown hfit
      cases hv
      go_wp2_with fail
      refine (nat_trim _ (i + q + 1) (i + q + 1) _ _ hd).mono ?_
      rintro e w3 ⟨m, rfl, hd2, hb2, hm⟩
      have Z1 := X1.to hb2
      have c0 := Z1.cell
      have f0 := Z1.free
      have hbel' := nx hbel hb2
      clear hd hf hown hb2
      go_wp2_with fail
      exact bodyPost_ret (v := .tuple #[.agg #[.slice (some ⟨w.heap.size + 1 + 1, 0, none⟩) m (i + q + 1)], .bool true]) (by simp [results, Try.results37, go_sem, c0]) rfl ⟨_, m, _, rfl, by rw [hX.out]; exact hd2.put_ c0 _, hbel'.setCell (by show w.heap.size ≤ w.heap.size + 1; omega) _⟩
end Go.Proofs.Ytflleaifmeiikaa
namespace Go.Proofs.Ytflleaifmeiikaa
open Go.RowKit
theorem W_split {s : Nat} (hs : s ≤ 64) : W = 2 ^ s * 2 ^ (64 - s) := by
  rw [← Nat.pow_add, show s + (64 - s) = 64 by omega]; rfl
theorem shr_digit {i q s x : Nat} (hs : s ≤ 63) :
    (dg W (i + q) x / 2 ^ s ||| dg W (i + q + 1) x * 2 ^ (64 - s) % W) = dg W i (up 2 s (up W q x)) := by
  have hp : 0 < 2 ^ s := Nat.pow_pos (by decide)
  have hp' : 0 < 2 ^ (64 - s) := Nat.pow_pos (by decide)
  have hW := W_split (s := s) (by omega)
  have hW' : W = 2 ^ (64 - s) * 2 ^ s := by rw [Nat.mul_comm]; exact hW
  -- the number from place i + q on
  obtain ⟨z, hz⟩ : ∃ z, z = x / W ^ (i + q) := ⟨_, rfl⟩
  have e0 : dg W (i + q) x = z % W := by unfold dg; rw [hz]
  have e1 : dg W (i + q + 1) x = z / W % W := by unfold dg; rw [hz, Nat.pow_succ, Nat.div_div_eq_div_mul]
  have e2 : dg W i (up 2 s (up W q x)) = z / 2 ^ s % W := by
    unfold dg up
    rw [hz, Nat.div_div_eq_div_mul, Nat.div_div_eq_div_mul, Nat.div_div_eq_div_mul, Nat.add_comm i q, Nat.pow_add]
    congr 2
    rw [Nat.mul_comm (2 ^ s) (W ^ i), Nat.mul_assoc]
  rw [e0, e1, e2]
  have hlt : z % W / 2 ^ s < 2 ^ (64 - s) := by
    apply Nat.div_lt_of_lt_mul
    rw [← hW]; exact Nat.mod_lt _ W_pos
  have k1 : ∀ t, 2 ^ (64 - s) * t % W = 2 ^ (64 - s) * (t % 2 ^ s) := fun t => by rw [hW', Nat.mul_mod_mul_left]
  have k2 : ∀ a t, a < 2 ^ (64 - s) → (a + 2 ^ (64 - s) * t) % W = a + 2 ^ (64 - s) * (t % 2 ^ s) := fun a t ha => by
    rw [hW', Nat.mod_mul, Nat.add_mul_mod_self_left, Nat.mod_eq_of_lt ha, Nat.add_mul_div_left _ _ hp', Nat.div_eq_of_lt ha, Nat.zero_add]
  have h2 : z / W % W * 2 ^ (64 - s) % W = 2 ^ (64 - s) * (z / W % 2 ^ s) := by
    rw [Nat.mul_comm (z / W % W), k1, Nat.mod_mod_of_dvd _ ⟨2 ^ (64 - s), hW⟩]
  rw [h2, Nat.or_comm, ← Nat.two_pow_add_eq_or_of_lt hlt]
  have hd := Nat.mod_add_div z W
  have h3 : z / 2 ^ s = z % W / 2 ^ s + 2 ^ (64 - s) * (z / W) := by
    conv => lhs; rw [← hd]
    conv => lhs; rw [show W * (z / W) = 2 ^ s * (2 ^ (64 - s) * (z / W)) by rw [← Nat.mul_assoc, ← hW]]
    rw [Nat.add_mul_div_left _ _ hp]
  rw [h3]
  rw [k2 _ _ hlt]; omega
theorem up_two {q s k x : Nat} (h : k = 64 * q + s) : up 2 s (up W q x) = x / 2 ^ k := by
  unfold up
  rw [Nat.div_div_eq_div_mul, W_pow, ← Nat.pow_add, h]
theorem low_mask {q s x : Nat} (hs : s ≤ 63) : put W q (low W (q + 1) x) (dg W q x % 2 ^ s) = x % 2 ^ (64 * q + s) := by
  unfold put
  have h1 : low W (q + 1) x / W ^ (q + 1) = 0 := Nat.div_eq_of_lt (low_bound W_pos _ _)
  have h2 : low W (q + 1) x % W ^ q = x % W ^ q := by
    show low W q (low W (q + 1) x) = low W q x
    exact low_low (by omega)
  rw [h1, h2, Nat.zero_mul, Nat.add_zero, Nat.pow_add, ← W_pow, Nat.mod_mul]
  unfold dg
  rw [Nat.mul_comm (W ^ q)]
  congr 2
  rw [W_split (s := s) (by omega), Nat.mod_mul_right_mod]
theorem nat_Word_is (A : Option Addr) (n c x : Nat) (K : Int) (v : Nat) (w : World) (h : NatAt w A n c x) (hK : ∃ j : Nat, K = (j : Int) ∧ v = dg W j x ∧ j ≤ 9223372036854775807) :
    Calls Try.prog 20 #[.agg #[.slice A n c], .int .i64 K] w (Ret w (.int .u64 (v : Nat))) := by
  obtain ⟨j, rfl, rfl, hj⟩ := hK
  exact nat_Word A n c x j w h hj
theorem nat_Shr_no (A : Option Addr) (n c : Nat) (k : Int) (w : World) (hk : k < 0 ∨ 0 ≤ k ∧ k ≤ 9223372036854775807 ∧ (n : Int) ≤ k / 64) :
    Calls Try.prog 38 #[.agg #[.slice A n c], .int .i64 k] w (RetNat w 0) := by
  have fin : ∀ w', RetNat w 0 (.returned (.agg #[.slice none 0 0])) ((w.alloc (.cells #[.slice A n c] 25)).alloc w') := fun _ => ⟨none, 0, 0, rfl, ⟨Dig.nil _ _ _ _ (by omega), fun h => absurd h (by omega)⟩, nxa (nxa (Below.refl _ _) _) _⟩
  have FIN := Lib.hid fin
  clear fin
  rcases hk with hk | ⟨hk0, hkm, hk⟩
  · go_enter Try.func38, Try.ntmps38
    go_wp2_with fail
    exact bodyPost_ret (v := .agg #[.slice none 0 0]) (by simp [results, Try.results38, go_sem]) rfl (FIN.out _)
  · have hk' : ¬ k < 0 := by omega
    go_enter Try.func38, Try.ntmps38
    go_wp2_with fail
    exact bodyPost_ret (v := .agg #[.slice none 0 0]) (by simp [results, Try.results38, go_sem]) rfl (FIN.out _)
set_option maxRecDepth 100000 in
set_option maxHeartbeats 1000000 in
theorem nat_Shr_yes (A : Option Addr) (n c x k : Nat) (w : World) (h : NatAt w A n c x) (hkn : k / 64 < n) (hn : n ≤ 17592186050000) :
    Calls Try.prog 38 #[.agg #[.slice A n c], .int .i64 (k : Int)] w (RetNat w (x / 2 ^ k)) := by
  obtain ⟨i0, hi, hz0, hz1, hz2⟩ := info_parts info_u64
  have m1 := h.1.max
  have m2 := h.1.cap
  obtain ⟨q, hq⟩ : ∃ q, q = k / 64 := ⟨_, rfl⟩
  obtain ⟨s, hs⟩ : ∃ s, s = k % 64 := ⟨_, rfl⟩
  have eq1 : (k : Int) / 64 = (q : Int) := by omega
  have es1 : (k : Int) % 64 = (s : Int) := by omega
  have hs63 : s ≤ 63 := by omega
  have hqn : q < n := by omega
  obtain ⟨N, hN⟩ : ∃ N, N = n - q := ⟨_, rfl⟩
  obtain ⟨R, hR⟩ : ∃ R, R = up 2 s (up W q x) := ⟨_, rfl⟩
  have hX := Lib.hid (show x / 2 ^ k = R by rw [hR, up_two (k := k) (by omega)])
  have hRN : R < W ^ N := by
    rw [hR]
    refine Nat.lt_of_le_of_lt (Nat.div_le_self _ _) (Nat.div_lt_of_lt_mul ?_)
    rw [← Nat.pow_add, show q + N = n by omega]; exact h.1.lt
  have B0 := (Blk1.new w 25 (.slice A n c)).alloc (.cells #[.slice none 0 0] 25)
  have B1 := Blk1.new (w.alloc (.cells #[.slice A n c] 25)) 25 (.slice none 0 0)
  simp only [World.size_alloc] at B1
  have eN : (n : Int) - (q : Int) = (N : Int) := by omega
  have hkm : (k : Int) ≤ 9223372036854775807 := by omega
  have hqn' : (q : Int) < (n : Int) := by omega
  have HN := Lib.hid hN
  have HR := Lib.hid hR
  clear hq hs hN hR hkn
  go_enter Try.func38, Try.ntmps38
  go_wp2_with (at_make; refine wpList_make_full _ rfl _ _ 22 rfl (w.heap.size + 1 + 1) 30 i0 (.int .u64 0) 1 Try.underlying22 hi hz0 hz1 .i64 .i64 _ _ N rfl rfl (by omega) (by omega) (by rw [hz2]; have := HN.out; omega) (by unfold maxLen; have := HN.out; omega) (by simp) ?_)
  intro w1 hown hgrow
  rw [made_dl .u64 W] at hown
  have hb1 := below_of_none hgrow
  have X0 := B0.to hb1
  have X1 := B1.to hb1
  have hbel : Below w.heap.size w w1 := nx (nxa (nxa (Below.refl _ _) _) _) hb1
  have c0 := X0.cell
  have hs1 : w.heap.size + 1 + 1 < w1.heap.size := (hown.lt _ rfl).2
  have hN2 : N ≤ 17592186050000 := by have := HN.out; omega
  clear hgrow hb1
  go_wp2_with fail
  clear c0
  rw [es1]
  go_loopw [7, 30] (fun _ k wr => ∃ i : Nat, i ≤ N ∧ k = .int .i64 (i : Int) ∧ wr.ownsRow (w.heap.size + 1 + 1) 30 1 (.slice (some ⟨w.heap.size + 1 + 1, 0, none⟩) N N) N (dl .u64 W N (low W i R)) ∧ Below w.heap.size w wr ∧ Blk1 wr w.heap.size 25 (.slice A n c) ∧ Blk1 wr (w.heap.size + 1) 25 (.slice none 0 0)) (fun _ k _ => N - (intOf k).toNat)
  case atStart => exact ⟨0, Nat.zero_le _, rfl, by rw [low_nought]; exact hown, hbel, X0, X1⟩
  case round =>
    obtain ⟨i, hik, rfl, hown, hbel, X0, X1⟩ := hrel
    by_cases hlt : i < N
    · have c0 := X0.cell
      have hx := h.below hbel (Nat.le_refl _)
      have iN : (i : Int) < (N : Int) := by omega
      have SD := shr_digit (i := i) (q := q) (s := s) (x := x) hs63
      rw [← HR.out] at SD
      obtain ⟨a1, ha1⟩ : ∃ a1, a1 = dg W (i + q) x := ⟨_, rfl⟩
      obtain ⟨a2, ha2⟩ : ∃ a2, a2 = dg W (i + q + 1) x := ⟨_, rfl⟩
      obtain ⟨v, hv⟩ : ∃ v, v = dg W i R := ⟨_, rfl⟩
      have l1 : a1 < W := by rw [ha1]; exact dg_lt W_pos _ _
      rw [← ha1, ← ha2, ← hv] at SD
      have q1 : bits .or .u64 ((a1 : Int) / 2 ^ s) (IntKind.u64.wrap ((a2 : Int) * 2 ^ (64 - s))) = (v : Int) := by
        rw [show ((2 : Int) ^ s) = ((2 ^ s : Nat) : Int) by simp, show ((2 : Int) ^ (64 - s)) = ((2 ^ (64 - s) : Nat) : Int) by simp, div_nat, wrap_mul, or_nat _ _ (Nat.lt_of_le_of_lt (Nat.div_le_self _ _) l1) (Nat.mod_lt _ W_pos), SD]
      have HA1 := Lib.hid ha1
      have HA2 := Lib.hid ha2
      have HV := Lib.hid hv
      have kM : i + q ≤ 9223372036854775807 := by have := HN.out; omega
      have kM1 : i + q + 1 ≤ 9223372036854775807 := by have := HN.out; omega
      have z0 : IntKind.i64.wrap (q : Int) = (q : Int) := IntWalk.i64_in _ (by omega)
      have z1 : IntKind.i64.wrap ((i : Int) + (q : Int)) = (i : Int) + (q : Int) := IntWalk.i64_in _ (by omega)
      have z2 : IntKind.i64.wrap ((i : Int) + (q : Int) + 1) = (i : Int) + (q : Int) + 1 := IntWalk.i64_in _ (by omega)
      have z3 : IntKind.i64.wrap (64 - (s : Int)) = ((64 - s : Nat) : Int) := by rw [IntWalk.i64_in _ (by omega)]; omega
      clear ha1 ha2 hv SD l1
      have tok1 : True := trivial
      go_wp2_with fail
      go_region_held3 (fun w' => w'.cell? ⟨w.heap.size, 0, none⟩ = some (.slice A n c)) (first | (exact (((X0.drew.to hb2).to hb3).far (by show _ ≠ w.heap.size + 1 + 1; omega) _).cell) | (exact ((X0.drew.to hb2).to hb3).cell) | (exact (X0.drew.to hb2).cell) | go_keep)
        (first | (go_at_call 20; have _t := tok1; (with_reducible refine (nat_Word_is A n c x _ a1 _ hx.drew ⟨i + q, by omega, HA1.out, kM⟩).mono ?_); rintro e w2 ⟨rfl, hb2⟩; clear tok1) | (go_at_call 20; (with_reducible refine (nat_Word_is A n c x _ a2 _ (hx.drew.to hb2) ⟨i + q + 1, by omega, HA2.out, kM1⟩).mono ?_); rintro e w3 ⟨rfl, hb3⟩; have ho3 := own_below (own_below hown.drew hb2) hb3; have c4 := ho3.cellAt i (by omega); have f4 := ho3.frozenAt i; rw [dl_get _ _ _ _ _ hlt] at c4))
      have ho := (ho3.stored i (.int .u64 (v : Nat))).1
      rw [dl_set W_pos hlt (by rw [HV.out]; exact dg_lt W_pos _ _), put_top (low_bound W_pos _ _), HV.out, low_next, ← HV.out] at ho
      have hbelw : Below w.heap.size w w3 := nx (nx (nxd hbel 1) hb2) hb3
      have hbel' := hbelw.setCell (p := ⟨w.heap.size + 1 + 1, i, none⟩) (by show w.heap.size ≤ w.heap.size + 1 + 1; omega) (.int .u64 (v : Nat))
      have Y0 := ((X0.drew.to hb2).to hb3).far (p := ⟨w.heap.size + 1 + 1, i, none⟩) (by show _ ≠ w.heap.size + 1 + 1; omega) (.int .u64 (v : Nat))
      have Y1 := ((X1.drew.to hb2).to hb3).far (p := ⟨w.heap.size + 1 + 1, i, none⟩) (by show _ ≠ w.heap.size + 1 + 1; omega) (.int .u64 (v : Nat))
      clear hb2 hb3 ho3 c4 f4 c0 hbelw hown hbel X0 X1 z0 z1 z2 z3
      go_wp2_with fail
      go_roundw
      case rel => exact ⟨i + 1, by omega, by go_num, ho, hbel', Y0, Y1⟩
      case measure => simp [intOf]; omega
    · obtain rfl : i = N := by omega
      rw [low_all hRN] at hown
      obtain ⟨A1, c1, hv, hd, hf⟩ := own_form hown hRN
      cases hv
      go_wp2_with fail
      refine (nat_trim _ i i _ _ hd).mono ?_
      rintro e w3 ⟨m, rfl, hd2, hb2, hm⟩
      have Z1 := X1.to hb2
      have c0 := Z1.cell
      have f0 := Z1.free
      have hbel' := nx hbel hb2
      clear hd hf hown hb2
      go_wp2_with fail
      exact bodyPost_ret (v := .agg #[.slice (some ⟨w.heap.size + 1 + 1, 0, none⟩) m i]) (by simp [results, Try.results38, go_sem, c0]) rfl ⟨_, m, _, rfl, by rw [hX.out]; exact hd2.put_ c0 _, hbel'.setCell (by show w.heap.size ≤ w.heap.size + 1; omega) _⟩
/-- Shr at whatever place from 0 on -/
theorem nat_Shr (A : Option Addr) (n c x k : Nat) (w : World) (h : NatAt w A n c x) (hk : k ≤ 9223372036854775807) (hn : n ≤ 17592186050000) :
    Calls Try.prog 38 #[.agg #[.slice A n c], .int .i64 (k : Int)] w (RetNat w (x / 2 ^ k)) := by
  by_cases hkn : k / 64 < n
  · exact nat_Shr_yes A n c x k w h hkn hn
  · have e : x / 2 ^ k = 0 := by
      apply Nat.div_eq_of_lt
      refine Nat.lt_of_lt_of_le h.1.lt ?_
      rw [W_pow]; exact Nat.pow_le_pow_right (by decide) (by omega)
    rw [e]
    exact nat_Shr_no A n c k w (.inr ⟨by omega, by omega, by omega⟩)
end Go.Proofs.Ytflleaifmeiikaa
namespace Go.Proofs.Ytflleaifmeiikaa
open Go.RowKit
theorem mask_nat {s : Nat} (hs : s ≤ 63) (a : Nat) (ha : a < W) : bits .and .u64 (a : Int) (IntKind.u64.wrap (IntKind.u64.wrap (2 ^ s) - 1)) = ((a % 2 ^ s : Nat) : Int) := by
  have hp : 0 < 2 ^ s := Nat.pow_pos (by decide)
  have h2s : 2 ^ s < W := by rw [W_eq]; exact Nat.pow_lt_pow_right (by decide) (by omega)
  rw [show ((2 : Int) ^ s) = ((2 ^ s : Nat) : Int) by simp, wrap_nat, Nat.mod_eq_of_lt h2s, show (1 : Int) = ((1 : Nat) : Int) from rfl, wrap_sub _ _ (by decide)]
  have e : (2 ^ s + (W - 1)) % W = 2 ^ s - 1 := by
    rw [show 2 ^ s + (W - 1) = (2 ^ s - 1) + W by omega, Nat.add_mod_right, Nat.mod_eq_of_lt (by omega)]
  rw [e, and_nat _ _ ha (by omega), Nat.and_two_pow_sub_one_eq_mod]
theorem nat_Low_neg (A : Option Addr) (n c : Nat) (k : Int) (w : World) (hk : k < 0) :
    Calls Try.prog 39 #[.agg #[.slice A n c], .int .i64 k] w (RetNat w 0) := by
  have fin : ∀ w', RetNat w 0 (.returned (.agg #[.slice none 0 0])) ((w.alloc (.cells #[.slice A n c] 25)).alloc w') := fun _ => ⟨none, 0, 0, rfl, ⟨Dig.nil _ _ _ _ (by omega), fun h => absurd h (by omega)⟩, nxa (nxa (Below.refl _ _) _) _⟩
  have FIN := Lib.hid fin
  clear fin
  go_enter Try.func39, Try.ntmps39
  go_wp2_with fail
  exact bodyPost_ret (v := .agg #[.slice none 0 0]) (by simp [results, Try.results39, go_sem]) rfl (FIN.out _)
set_option maxRecDepth 100000 in
set_option maxHeartbeats 1000000 in
theorem nat_Low (A : Option Addr) (n c x k : Nat) (w : World) (h : NatAt w A n c x) (hkm : (k : Int) ≤ 9223372036854775807) (hn : n ≤ 17592186044416) :
    Calls Try.prog 39 #[.agg #[.slice A n c], .int .i64 (k : Int)] w (RetNat w (x % 2 ^ k)) := by
  have m1 := h.1.max
  have m2 := h.1.cap
  obtain ⟨q, hq⟩ : ∃ q, q = k / 64 := ⟨_, rfl⟩
  have eq1 : (k : Int) / 64 = (q : Int) := by omega
  have B0 := (Blk1.new w 25 (.slice A n c)).alloc (.cells #[.slice none 0 0] 25)
  have B1 := Blk1.new (w.alloc (.cells #[.slice A n c] 25)) 25 (.slice none 0 0)
  simp only [World.size_alloc] at B1
  have ha := (h.1.alloc (.cells #[.slice A n c] 25)).alloc (.cells #[.slice none 0 0] 25)
  by_cases hqn : n ≤ q
  · have hX := Lib.hid (show x % 2 ^ k = x from Nat.mod_eq_of_lt (Nat.lt_of_lt_of_le h.1.lt (by rw [W_pow]; exact Nat.pow_le_pow_right (by decide) (by omega))))
    clear hq
    go_enter Try.func39, Try.ntmps39
    go_wp2_with fail
    refine (nat_Of A n c x _ ha hn).mono ?_
    rintro e w1 ⟨A1, m, c1, rfl, hd1, hb1, _⟩
    have Z1 := B1.to hb1
    have c0 := Z1.cell
    have f0 := Z1.free
    have hbel := nx (nxa (nxa (Below.refl w.heap.size w) _) _) hb1
    clear hb1
    go_wp2_with fail
    exact bodyPost_ret (v := .agg #[.slice A1 m c1]) (by simp [results, Try.results39, go_sem, c0]) rfl ⟨A1, m, c1, rfl, by rw [hX.out]; exact hd1.put_ c0 _, hbel.setCell (by show w.heap.size ≤ w.heap.size + 1; omega) _⟩
  · obtain ⟨s, hs⟩ : ∃ s, s = k % 64 := ⟨_, rfl⟩
    have es1 : (k : Int) % 64 = (s : Int) := by omega
    have hs63 : s ≤ 63 := by omega
    have hX := Lib.hid (show x % 2 ^ k = put W q (low W (q + 1) x) (dg W q x % 2 ^ s) by rw [low_mask hs63]; congr 2; omega)
    have hqn' : (q : Int) < (n : Int) := by omega
    have hc1 : (q : Int) + 1 ≤ (c : Int) := by omega
    have hd := ha.upto W_pos (i := q + 1) (by omega)
    clear hq hs
    have hr := clone A (q + 1) c _ _ hd (by omega)
    have HR := Lib.hid hr
    clear hr
    go_enter Try.func39, Try.ntmps39
    go_wp2_with fail
    refine HR.out.mono ?_
    rintro e w1 ⟨A1, c1, rfl, hown, hb1⟩
    obtain ⟨g, c2, hv, hg1, hg2, hcc, hcm, hcell, hfz⟩ := own_lies hown (by omega)
    cases hv
    have Z1 := B1.to hb1
    have hbel := nx (nxa (nxa (Below.refl w.heap.size w) _) _) hb1
    have hgw : w.heap.size + 1 < g := by have := hg1; simp at this; omega
    have c3 := hcell q (by omega)
    have f3 := hfz q
    have l3 := dg_lt W_pos q (x % W ^ (q + 1))
    have e3 : dg W q (x % W ^ (q + 1)) = dg W q x := dg_mod W_pos (by omega)
    obtain ⟨t, ht⟩ : ∃ t, t = dg W q (x % W ^ (q + 1)) := ⟨_, rfl⟩
    rw [← ht] at c3 l3 e3
    obtain ⟨v, hv⟩ : ∃ v, v = t % 2 ^ s := ⟨_, rfl⟩
    have q1 : bits .and .u64 (t : Int) (IntKind.u64.wrap (IntKind.u64.wrap (2 ^ s) - 1)) = (v : Int) := by rw [mask_nat hs63 t l3, hv]
    have hvw : v < W := by rw [hv]; exact Nat.lt_of_le_of_lt (Nat.mod_le _ _) l3
    have hX2 := Lib.hid (show x % 2 ^ k = put W q (x % W ^ (q + 1)) v by rw [hX.out, hv, e3]; rfl)
    have hcc' : q < c1 := by omega
    clear hv e3 ht hcell hfz hb1 l3
    go_wp2_with fail
    go_region
    have ho := (hown.stored q (.int .u64 (v : Nat))).1
    have hlt : x % W ^ (q + 1) < W ^ (q + 1) := low_lt W_pos _ _
    rw [dl_set W_pos (by omega) hvw] at ho
    have hfit := put_lt W_pos (i := q) (n := q + 1) (by omega) hlt hvw
    obtain ⟨A2, c2, hv2, hd2, _⟩ := own_form ho hfit
    cases hv2
    have hbel' := hbel.setCell (p := ⟨g, q, none⟩) (by show w.heap.size ≤ g; omega) (.int .u64 (v : Nat))
    have Y1 := Z1.far (p := ⟨g, q, none⟩) (by show _ ≠ g; omega) (.int .u64 (v : Nat))
    clear hbel Z1 hlt
    go_wp2_with fail
    refine (nat_trim _ (q + 1) c1 _ _ hd2.drew).mono ?_
    rintro e w3 ⟨m, rfl, hd3, hb3, hm⟩
    have Y2 := Y1.drew.to hb3
    have c0 := Y2.cell
    have f0 := Y2.free
    have hbel2 := nx hbel'.drew hb3
    clear hb3
    go_wp2_with fail
    exact bodyPost_ret (v := .agg #[.slice (some ⟨g, 0, none⟩) m c1]) (by simp [results, Try.results39, go_sem, c0]) rfl ⟨_, m, c1, rfl, by rw [hX2.out]; exact hd3.put_ c0 _, hbel2.setCell (by show w.heap.size ≤ w.heap.size + 1; omega) _⟩
end Go.Proofs.Ytflleaifmeiikaa
namespace Go.Proofs.Ytflleaifmeiikaa
open Go.RowKit
/-- a cell that was there is there behind a call that turns nothing -/
theorem cellB {w w' : World} (hb : Below w.heap.size w w') {p : Addr} {v : Value} (h : w.cell? p = some v) : w'.cell? p = some v := (hb.cell (World.block_lt_of_cell? w p h)).trans h
theorem low_eq_succ {kk x y : Nat} (h : low W kk x = low W kk y) (hd : dg W kk x = dg W kk y) : low W (kk + 1) x = low W (kk + 1) y := by rw [← low_next, ← low_next, h, hd]
set_option maxRecDepth 100000 in
set_option maxHeartbeats 1000000 in
theorem law_Is (A : Option Addr) (n c x : Nat) (A' : Option Addr) (n' c' y : Nat) (w : World) (h : NatAt w A n c x) (h' : Dig .u64 W w A' n' c' y) (hn : n ≤ 17592186044416) :
    Calls Try.prog 44 #[.agg #[.slice A n c], .slice A' n' c'] w (Ret w (.bool (decide (n = n' ∧ x = y)))) := by
  have m1 := h.1.max
  have m2 := h.1.cap
  have m3 := h'.max
  have m4 := h'.cap
  have B0 := Blk1.new w 25 (.slice A n c)
  by_cases hnn : n = n'
  · subst hnn
    go_enter Try.func44, Try.ntmps44
    go_wp2_with fail
    refine (nat_Words A n c x _ (h.alloc _) hn).mono ?_
    rintro e w1 ⟨A1, c1, rfl, hown, hb1⟩
    obtain ⟨A2, c2, hv, hd1, hf1⟩ := own_form hown h.1.lt
    cases hv
    have X0 := B0.to hb1
    have c0 := X0.cell
    have hbel := nx (nxa (Below.refl w.heap.size w) _) hb1
    have m5 := hd1.max
    have m6 := hd1.cap
    clear hb1 hown hf1
    go_wp2_with fail
    refine (nat_Len A n c _).mono ?_
    rintro e w2 ⟨rfl, hb2⟩
    have hd2 := hd1.below hb2 (Nat.le_refl _)
    have X1 := X0.to hb2
    have hbel2 := nx hbel hb2
    clear hb2 hd1 X0 c0 hbel
    go_wp2_with fail
    go_loopw [6] (fun k wr => ∃ kk : Nat, kk ≤ n ∧ k = .int .i64 (kk : Int) ∧ low W kk x = low W kk y ∧ Below w.heap.size w wr ∧ Blk1 wr w.heap.size 25 (.slice A n c) ∧ Dig .u64 W wr A1 n c1 x) (fun k _ => n - (intOf k).toNat)
    case atStart => exact ⟨0, Nat.zero_le _, rfl, by rw [low_nought, low_nought], hbel2, X1, hd2⟩
    case round =>
      obtain ⟨kk, hk, rfl, hlow, hbel, X0, hd⟩ := hrel
      clear hd2 X1 hbel2
      by_cases hlt : kk < n
      · obtain ⟨g1, o1, rfl, hg1, hcell1⟩ := hd.at_ (by omega)
        obtain ⟨g2, o2, rfl, hg2, hcell2⟩ := h'.at_ (by omega)
        have k1 := hcell1 kk hlt
        have k2 := (hbel.cell (p := ⟨g2, o2 + kk, none⟩) hg2).trans (hcell2 kk hlt)
        have c0 := X0.cell
        have hx := h.below hbel (Nat.le_refl _)
        have kM : kk ≤ 9223372036854775807 := by omega
        have hkN : (kk : Int) < (n : Int) := by omega
        clear hcell1 hcell2
        by_cases hdd : dg W kk x = dg W kk y
        · have hB : (((dg W kk x : Nat) : Int) != (dg W kk y : Nat)) = false := by simp [hdd]
          have hB2 : (((dg W kk x : Nat) : Int) != (dg W kk x : Nat)) = false := by simp
          have HL := Lib.hid (low_eq_succ hlow hdd)
          have HD := Lib.hid hdd
          clear hlow hdd
          go_wp2_with fail
          go_region_held3 (fun w' => w'.cell? ⟨w.heap.size, 0, none⟩ = some (.slice A n c) ∧ w'.cell? ⟨g1, o1 + kk, none⟩ = some (.int .u64 (dg W kk x : Nat)) ∧ w'.cell? ⟨g2, o2 + kk, none⟩ = some (.int .u64 (dg W kk y : Nat))) (first | (exact And.imp (cellB hb2) (And.imp (cellB hb2) (cellB hb2)) (by assumption)) | go_keep)
            (first | (go_at_call 20; (with_reducible refine (nat_Word A n c x kk _ hx.drew kM).mono ?_); rintro e w3 ⟨rfl, hb2⟩))
          have X1 := X0.drew.to hb2
          have hd2 := hd.drew.below hb2 (Nat.le_refl _)
          have hbel2 := nx (nxd hbel 1) hb2
          clear hb2 hd X0 hbel k1 k2 c0
          go_wp2_with fail
          go_roundw
          case rel => exact ⟨kk + 1, by omega, by go_num, HL.out, hbel2, X1, hd2⟩
          case measure => simp [intOf]; omega
        · have hB : (((dg W kk x : Nat) : Int) != (dg W kk y : Nat)) = true := by rw [bne_iff_ne]; omega
          have HF := Lib.hid (show decide (n = n ∧ x = y) = false by
            simp only [decide_eq_false_iff_not, not_and]
            intro _ e; exact hdd (by rw [e]))
          clear hlow hdd
          go_wp2_with fail
          go_quiet (fail)
          go_wp2_with fail
          go_ret
          exact ⟨by rw [HF.out]; rfl, nxd hbel _⟩
      · obtain rfl : kk = n := by omega
        rw [low_all h.1.lt, low_all h'.lt] at hlow
        have HF := Lib.hid hlow
        clear hlow
        go_wp2_with fail
        go_ret
        exact ⟨retb (by have := HF.out; simp [this]), hbel⟩
  · have hB : (((n : Nat) : Int) != (n' : Nat)) = true := by rw [bne_iff_ne]; omega
    have HF := Lib.hid (show decide (n = n' ∧ x = y) = false by simp [hnn])
    clear hnn
    go_enter Try.func44, Try.ntmps44
    go_wp2_with fail
    refine (nat_Words A n c x _ (h.alloc _) hn).mono ?_
    rintro e w1 ⟨A1, c1, rfl, hown, hb1⟩
    have hbel := nx (nxa (Below.refl w.heap.size w) _) hb1
    clear hb1 hown
    go_wp2_with fail
    go_ret
    exact ⟨by rw [HF.out]; rfl, hbel⟩
/-! ### slices written out -/
theorem Dig.lit (w : World) (e : TypeId) (l : List Nat) (hl : ∀ d ∈ l, d < W) (hn : l.length ≤ 9223372036854775807) : Dig .u64 W (w.alloc (.cells (l.map fun d : Nat => Value.int .u64 (d : Int)).toArray e)) (some ⟨w.heap.size, 0, none⟩) l.length l.length (val W l) := by
  refine ⟨val_lt W_pos hl, Nat.le_refl _, hn, fun _ => ⟨w.heap.size, 0, rfl, by simp, fun j hj => ?_⟩⟩
  rw [Nat.zero_add, World.cell?_alloc_new, dg_val W_pos hl hj]
  simp [List.getD_eq_getElem?_getD, hj]
end Go.Proofs.Ytflleaifmeiikaa
namespace Go.Proofs.Ytflleaifmeiikaa
open Go.RowKit
theorem NatAt.le_of {w : World} {A : Option Addr} {n c x : Nat} (h : NatAt w A n c x) (k : Nat) (hx : x < W ^ k) : n ≤ k := by
  rcases Nat.eq_zero_or_pos n with h0 | h0
  · omega
  · have := pow_lt_inv W_pos (h.2 h0) hx
    omega
theorem NatAt.len_is {w : World} {A : Option Addr} {n c x : Nat} (h : NatAt w A n c x) (k : Nat) (hx : x < W ^ (k + 1)) (hk : W ^ k ≤ x) : n = k + 1 := by
  have h1 := h.le_of (k + 1) hx
  rcases Nat.lt_or_ge n (k + 1) with h0 | h0
  · have := h.1.lt
    have := Nat.pow_le_pow_right W_pos (show n ≤ k by omega)
    omega
  · omega
theorem Dig.to {k : IntKind} {b : Nat} {w w' : World} {A : Option Addr} {n c x : Nat} (h : Dig k b w A n c x) (hb : Below w.heap.size w w') : Dig k b w' A n c x := h.below hb (Nat.le_refl _)
theorem Blk1.newAt (w : World) (g : Nat) (t : TypeId) (v : Value) (hg : w.heap.size = g) : Blk1 (w.alloc (.cells #[v] t)) g t v := hg ▸ Blk1.new w t v
theorem Blk1.at_ {w w' : World} {g : Nat} {t : TypeId} {v : Value} (h : Blk1 w g t v) (hb : Below w.heap.size w w') : w'.cell? ⟨g, 0, none⟩ = some v := (h.to hb).cell
theorem NatAt.lt {w : World} {A : Option Addr} {n c x : Nat} (h : NatAt w A n c x) : x < W ^ n := h.1.lt
/-- how many words a sum has -/
theorem add_lt {x y n m : Nat} (hx : x < W ^ n) (hy : y < W ^ m) : x + y < W ^ (max n m + 1) := by
  have h1 : W ^ n ≤ W ^ max n m := Nat.pow_le_pow_right W_pos (by omega)
  have h2 : W ^ m ≤ W ^ max n m := Nat.pow_le_pow_right W_pos (by omega)
  have h3 : W ^ max n m * 2 ≤ W ^ max n m * W := Nat.mul_le_mul_left _ (by decide)
  rw [Nat.pow_succ]; omega
theorem cmp_eq (x : Nat) : cmpI x x = 0 := by simp [cmpI]
theorem nat_Of_lit (l : List Nat) (w : World) (g : Nat) (e : TypeId) (hg : w.heap.size = g) (hl : ∀ d ∈ l, d < W) (hn : l.length ≤ 17592186044416) :
    Calls Try.prog 13 #[.slice (some ⟨g, 0, none⟩) l.length l.length] (w.alloc (.cells (l.map fun d : Nat => Value.int .u64 (d : Int)).toArray e))
      fun e' w' => ∃ A m c, e' = .returned (.agg #[.slice A m c]) ∧ NatAt w' A m c (val W l) ∧ Below w.heap.size w w' ∧ m ≤ l.length := by
  subst hg
  refine (nat_Of _ l.length _ _ _ (Dig.lit w e l hl (by omega)) hn).mono ?_
  rintro e' w' ⟨A, m, c, rfl, h, hb, hm⟩
  exact ⟨A, m, c, rfl, h, nx (nxa (Below.refl _ _) _) hb, hm⟩
theorem law_Is_lit (l : List Nat) (A : Option Addr) (n c x : Nat) (w : World) (g : Nat) (e : TypeId) (hg : w.heap.size = g) (h : NatAt w A n c x) (hl : ∀ d ∈ l, d < W) (hn : n ≤ 17592186044416) (hk : l.length ≤ 17592186044416) :
    Calls Try.prog 44 #[.agg #[.slice A n c], .slice (some ⟨g, 0, none⟩) l.length l.length] (w.alloc (.cells (l.map fun d : Nat => Value.int .u64 (d : Int)).toArray e))
      (Ret w (.bool (decide (n = l.length ∧ x = val W l)))) := by
  subst hg
  refine (law_Is A n c x _ l.length l.length (val W l) _ (h.alloc _) (Dig.lit w e l hl (by omega)) hn).mono ?_
  rintro e' w' ⟨rfl, hb⟩
  exact ⟨rfl, nx (nxa (Below.refl _ _) _) hb⟩
end Go.Proofs.Ytflleaifmeiikaa
set_option linter.unusedVariables false
set_option linter.unusedSimpArgs false
namespace Go.Proofs.Ytflleaifmeiikaa
open Go.RowKit
set_option maxRecDepth 100000
theorem nat_Uint_yes (A : Option Addr) (n c x : Nat) (w : World) (h : NatAt w A n c x) (hn : n ≤ 1) :
    Calls Try.prog 16 #[.agg #[.slice A n c]] w (Ret w (.tuple #[.int .u64 (x : Nat), .bool true])) := by
  have hI : ¬ (1 : Int) < (n : Int) := by omega
  have m1 := h.1.max
  have m2 := h.1.cap
  have hx : x < W := by
    have := h.lt
    have h2 := Nat.pow_le_pow_right W_pos hn
    rw [Nat.pow_one] at h2; omega
  have HD := Lib.hid (show dg W 0 x = x by unfold dg; rw [Nat.pow_zero, Nat.div_one, Nat.mod_eq_of_lt hx])
  go_enter Try.func16, Try.ntmps16
  go_wp2_with fail
  refine (nat_Word A n c x 0 _ (h.alloc _) (by decide)).mono ?_
  rw [HD.out]
  rintro e w1 ⟨rfl, hb1⟩
  go_wp2_with fail
  go_ret2
  exact ⟨rfl, nx (nxa (Below.refl _ _) _) hb1⟩
theorem nat_Uint_no (A : Option Addr) (n c : Nat) (w : World) (hn : 1 < n) :
    Calls Try.prog 16 #[.agg #[.slice A n c]] w (Ret w (.tuple #[.int .u64 0, .bool false])) := by
  have hI : (1 : Int) < (n : Int) := by omega
  go_enter Try.func16, Try.ntmps16
  go_wp2_with fail
  go_ret2
  exact ⟨rfl, nxa (Below.refl _ _) _⟩
theorem nat_Bit_neg (A : Option Addr) (n c : Nat) (k : Int) (w : World) (hk : k < 0) :
    Calls Try.prog 24 #[.agg #[.slice A n c], .int .i64 k] w (Ret w (.int .u64 0)) := by
  go_enter Try.func24, Try.ntmps24
  go_wp2_with fail
  go_ret
  exact ⟨rfl, nxa (Below.refl _ _) _⟩
theorem nat_Bit (A : Option Addr) (n c x k : Nat) (w : World) (h : NatAt w A n c x) (hk : k ≤ 9223372036854775807) :
    Calls Try.prog 24 #[.agg #[.slice A n c], .int .i64 (k : Nat)] w (Ret w (.int .u64 (x / 2 ^ k % 2 : Nat))) := by
  have hk0 : ¬ (k : Int) < 0 := by omega
  obtain ⟨q, hq⟩ : ∃ q, q = k / 64 := ⟨_, rfl⟩
  obtain ⟨r, hr⟩ : ∃ r, r = k % 64 := ⟨_, rfl⟩
  have e1 : (k : Int) / 64 = (q : Int) := by omega
  have e2 : (k : Int) % 64 = (r : Int) := by omega
  have hB := bit_at x k
  rw [← hq, ← hr] at hB
  have HB := Lib.hid hB
  have hqk : q ≤ k := by omega
  have hr6 : r ≤ 63 := by omega
  clear hB hq hr
  have hd := dg_lt W_pos q x
  go_enter Try.func24, Try.ntmps24
  go_wp2_with fail
  refine (nat_Word A n c x q _ (h.alloc _) (by omega)).mono ?_
  rintro e w1 ⟨rfl, hb1⟩
  go_wp2_with fail
  go_ret
  refine ⟨ret1 ?_, nx (nxa (Below.refl _ _) _) hb1⟩
  rw [show ((dg W q x : Nat) : Int) / 2 ^ r = ((dg W q x / 2 ^ r : Nat) : Int) by simp, show (1 : Int) = ((1 : Nat) : Int) from rfl, and_nat _ _ (Nat.lt_of_le_of_lt (Nat.div_le_self _ _) hd) (by decide), and_one, HB.out]
/-- how often 2 divides x -/
def TwosOf (x t : Nat) : Prop := (x = 0 ∧ t = 0) ∨ (x ≠ 0 ∧ x % 2 ^ t = 0 ∧ x / 2 ^ t % 2 = 1)
theorem twos_at {x k : Nat} (hl : low W k x = 0) (hd : dg W k x ≠ 0) : TwosOf x (64 * k + tz (dg W k x)) := by
  have hw := dg_lt W_pos k x
  obtain ⟨t, m, e⟩ := odd_part _ hd
  have hlt : 2 ^ t * (2 * m + 1) < W := by rw [← e]; exact hw
  have ht : tz (dg W k x) = t := by rw [e]; exact tz_odd t m hlt
  have ht6 : t < 64 := by
    have h1 : 2 ^ t * 1 ≤ 2 ^ t * (2 * m + 1) := Nat.mul_le_mul_left _ (by omega)
    have h2 : 2 ^ t < 2 ^ 64 := by rw [← W_eq]; omega
    exact (Nat.pow_lt_pow_iff_right (by decide)).1 h2
  have hx : x = up W k x * W ^ k := by have := low_add_up W k x; rw [hl] at this; omega
  have hu : up W k x = 2 ^ t * (2 * m + 1) + W * up W (k + 1) x := by
    rw [← e, ← up_mod, ← up_succ]; exact (Nat.mod_add_div _ _).symm
  have hWs : W = 2 ^ t * (2 * 2 ^ (63 - t)) := by rw [← Nat.pow_succ', ← Nat.pow_add, W_eq]; congr 1; omega
  have hu2 : up W k x = 2 ^ t * (2 * (m + 2 ^ (63 - t) * up W (k + 1) x) + 1) := by
    rw [hu]
    generalize up W (k + 1) x = z
    rw [hWs, Nat.mul_assoc, ← Nat.mul_add]
    congr 1
    rw [Nat.mul_add, Nat.mul_assoc]; omega
  generalize m + 2 ^ (63 - t) * up W (k + 1) x = M at hu2
  have hx2 : x = 2 ^ (64 * k + t) * (2 * M + 1) := by
    rw [hx, hu2, W_pow, Nat.pow_add]
    simp only [Nat.mul_assoc, Nat.mul_comm, Nat.mul_left_comm]
  right
  rw [ht]
  have hp : 0 < 2 ^ (64 * k + t) := Nat.pow_pos (by decide)
  refine ⟨?_, ?_, ?_⟩
  · rw [hx2]; exact Nat.ne_of_gt (Nat.mul_pos hp (by omega))
  · rw [hx2]; exact Nat.mul_mod_right _ _
  · conv => lhs; rw [hx2]
    rw [Nat.mul_div_cancel_left _ hp]; omega
theorem twos_unique {x t s : Nat} (h : TwosOf x t) (h' : TwosOf x s) : t = s := by
  have key : ∀ {a b : Nat}, x % 2 ^ b = 0 → x / 2 ^ a % 2 = 1 → ¬ a < b := by
    intro a b h1 h2 hab
    obtain ⟨d, hd⟩ := Nat.dvd_of_mod_eq_zero h1
    rw [hd, show b = a + (b - a - 1 + 1) by omega, Nat.pow_add, Nat.mul_assoc, Nat.mul_div_cancel_left _ (Nat.pow_pos (by decide)), Nat.pow_succ, Nat.mul_assoc, Nat.mul_left_comm, Nat.mul_mod_right] at h2
    cases h2
  rcases h with ⟨h0, rfl⟩ | ⟨h0, h1, h2⟩ <;> rcases h' with ⟨h0', rfl⟩ | ⟨h0', h1', h2'⟩
  · rfl
  · exact absurd h0 h0'
  · exact absurd h0' h0
  · have a := key h1 h2'
    have b := key h1' h2
    omega
set_option maxHeartbeats 1000000 in
theorem nat_Twos (A : Option Addr) (n c x : Nat) (w : World) (h : NatAt w A n c x) (hn : n ≤ 17592186044416) :
    Calls Try.prog 25 #[.agg #[.slice A n c]] w fun e w' => ∃ t, Ret w (.int .i64 (t : Nat)) e w' ∧ TwosOf x t := by
  go_enter Try.func25, Try.ntmps25
  go_wp2_with fail
  go_loop [3, 4, 8] (fun _ _ t => ∃ j : Nat, j ≤ n ∧ t = .int .i64 (j : Int) ∧ low W j x = 0) (fun _ _ t => n - (intOf t).toNat)
  case atStart => exact ⟨0, Nat.zero_le _, rfl, low_nought _ _⟩
  case round =>
    obtain ⟨j, hj, rfl, hl⟩ := hrel
    by_cases hlt : j < n
    · obtain ⟨g, o, rfl, hg, hcell⟩ := h.1.at_ (by omega)
      have cj := hcell j hlt
      have jn : (j : Int) < (n : Int) := by omega
      have m1 := h.1.max
      have m2 := h.1.cap
      clear hcell
      obtain ⟨d, hd⟩ : ∃ d, d = dg W j x := ⟨_, rfl⟩
      have hdw : d < W := by rw [hd]; exact dg_lt W_pos _ _
      rw [← hd] at cj
      by_cases hz : d = 0
      · have hzb : ((d : Int) != 0) = false := by rw [hz]; rfl
        have HL := Lib.hid (show low W (j + 1) x = 0 by rw [← low_next, hl, ← hd, hz]; simp)
        clear hz hd hl
        go_wp2_with fail
        go_round
        case rel => exact ⟨j + 1, by omega, by go_num, HL.out⟩
        case measure => simp [intOf]; omega
      · have hzb : ((d : Int) != 0) = true := by rw [bne_iff_ne]; omega
        have HT := Lib.hid (twos_at hl (by rw [← hd]; exact hz))
        have htz : tz d ≤ 64 := by
          by_cases h0 : d = 0
          · exact absurd h0 hz
          · unfold tz
            rw [if_neg h0]
            have := blen_le_of_lt (x := d &&& (W - d)) (k := 64) (by rw [← W_eq]; exact and_lt _ _ hdw)
            omega
        have HD := Lib.hid hd
        clear hz hd hl
        go_wp2_with fail
        refine (word_Trail d _ hdw).mono ?_
        rintro e w1 ⟨rfl, nd, rfl⟩
        go_wp2_with fail
        go_ret
        exact ⟨64 * j + tz d, ⟨ret1 (by omega), nxd (nxa (Below.refl _ _) _) _⟩, by rw [HD.out]; exact HT.out⟩
    · obtain rfl : j = n := by omega
      rw [low_all h.lt] at hl
      have HL := Lib.hid hl
      clear hl
      go_wp2_with fail
      go_ret
      exact ⟨0, ⟨rfl, nxa (Below.refl _ _) _⟩, Or.inl ⟨HL.out, rfl⟩⟩
end Go.Proofs.Ytflleaifmeiikaa
