/- The walks of package nat, first part: the words of a number. -/
import Derived.Test.YtflleaifmeiikaaWordWalk
import Derived.Test.YtflleaifmeiikaaMem
import Derived.Deep.RegionWith
import Derived.Deep.RegionHeld3
import Derived.Deep.DeepCutAuto
import Derived.Lib.SliceRun
import Derived.Deep.Onto
namespace Go.Proofs.Ytflleaifmeiikaa
open Go.RowKit
/-- the value (A, n, c) of a Nat reads in w as the number x: its words, without a nought above -/
def NatAt (w : World) (A : Option Addr) (n c x : Nat) : Prop := Dig .u64 W w A n c x ∧ (0 < n → W ^ (n - 1) ≤ x)
def RetNat (w : World) (x : Nat) (e : Ending) (w' : World) : Prop := ∃ A n c, e = .returned (.agg #[.slice A n c]) ∧ NatAt w' A n c x ∧ Below w.heap.size w w'
def RetNatB (w : World) (x : Nat) (b : Bool) (e : Ending) (w' : World) : Prop := ∃ A n c, e = .returned (.tuple #[.agg #[.slice A n c], .bool b]) ∧ NatAt w' A n c x ∧ Below w.heap.size w w'
theorem NatAt.below {w w' : World} {A : Option Addr} {n c x B : Nat} (h : NatAt w A n c x) (hb : Below B w w') (hB : w.heap.size ≤ B) : NatAt w' A n c x := ⟨h.1.below hb hB, h.2⟩
theorem NatAt.to {w w' : World} {A : Option Addr} {n c x : Nat} (h : NatAt w A n c x) (hb : Below w.heap.size w w') : NatAt w' A n c x := h.below hb (Nat.le_refl _)
theorem NatAt.drew {w : World} {A : Option Addr} {n c x : Nat} (h : NatAt w A n c x) : NatAt w.drew A n c x := h
theorem NatAt.drewN {w : World} {A : Option Addr} {n c x : Nat} (h : NatAt w A n c x) (m : Nat) : NatAt (w.drewN m) A n c x := h
theorem NatAt.alloc {w : World} {A : Option Addr} {n c x : Nat} (h : NatAt w A n c x) (o : Obj) : NatAt (w.alloc o) A n c x := ⟨h.1.alloc o, h.2⟩
theorem NatAt.zero_iff {w : World} {A : Option Addr} {n c x : Nat} (h : NatAt w A n c x) : x = 0 ↔ n = 0 := by
  constructor
  · rintro rfl
    rcases Nat.eq_zero_or_pos n with h0 | h0
    · exact h0
    · have := h.2 h0
      have := Nat.pow_pos (n := n - 1) W_pos
      omega
  · rintro rfl; exact h.1.zero
theorem pow_lt_inv {b i j x : Nat} (hb : 0 < b) (h1 : b ^ i ≤ x) (h2 : x < b ^ j) : i < j := by
  rcases Nat.lt_or_ge i j with h | h
  · exact h
  · have := Nat.pow_le_pow_right hb h; omega
theorem NatAt.len_eq {w w' : World} {A A' : Option Addr} {n n' c c' x : Nat} (h : NatAt w A n c x) (h' : NatAt w' A' n' c' x) : n = n' := by
  rcases Nat.eq_zero_or_pos n with h0 | h0
  · have hx := h.zero_iff.2 h0
    rw [h0, h'.zero_iff.1 hx]
  · rcases Nat.eq_zero_or_pos n' with h1 | h1
    · have hx := h'.zero_iff.2 h1
      rw [h1, h.zero_iff.1 hx]
    · have a := pow_lt_inv W_pos (h.2 h0) h'.1.lt
      have b := pow_lt_inv W_pos (h'.2 h1) h.1.lt
      omega

def lenOf : Value → Nat | .slice _ n _ => n | _ => 0
set_option maxHeartbeats 400000 in
theorem nat_trim (A : Option Addr) (n c x : Nat) (w : World) (h : Dig .u64 W w A n c x) :
    Calls Try.prog 45 #[.slice A n c] w fun e w' => ∃ m, e = .returned (.agg #[.slice A m c]) ∧ NatAt w' A m c x ∧ Below w.heap.size w w' ∧ m ≤ n := by
  have m1 := h.max
  have m2 := h.cap
  go_enter Try.func45, Try.ntmps45
  go_wp2
  go_loop [0] (fun v => ∃ m : Nat, m ≤ n ∧ v = .slice A m c ∧ x < W ^ m) (fun v => lenOf v)
  case atStart => exact ⟨n, Nat.le_refl _, rfl, h.lt⟩
  case round =>
    obtain ⟨m, hm, rfl, hlt⟩ := hrel
    rcases m with _ | j
    · have hx : x = 0 := by simpa using hlt
      subst hx
      clear hlt
      go_wp2
      refine bodyPost_ret (v := .agg #[.slice A 0 c]) (by simp [results, Try.results45, go_sem]) rfl ⟨0, rfl, ⟨Dig.nil _ _ _ _ m1, fun h => absurd h (by omega)⟩, (Below.refl _ _).alloc (Nat.le_refl _) _, Nat.zero_le _⟩
    · obtain ⟨g, o, rfl, hg, hcell⟩ := h.at_ (by omega)
      have hcj := hcell j (by omega)
      have hpos : (0 : Int) < ((j + 1 : Nat) : Int) := by omega
      have ej : ((j + 1 : Nat) : Int) - 1 = (j : Int) := by omega
      have hjc : j + 1 ≤ c := by omega
      have hs := low_next W j x
      rw [low_all hlt] at hs
      have hl := low_bound W_pos j x
      have HC := Lib.hid hcell
      clear hcell
      by_cases hz : dg W j x = 0
      · rw [hz] at hcj
        have HL := Lib.hid (show x < W ^ j by rw [← hs, hz]; simpa using hl)
        clear hz hs hl hlt
        go_wp2
        go_round
        case rel => exact ⟨j, by omega, by simp, HL.out⟩
        case measure => simp [lenOf]
      · have hb : (((dg W j x : Nat) : Int) == 0) = false := by simp; exact hz
        have HL := Lib.hid hlt
        have hge : W ^ j ≤ x := by
          rw [← hs]
          have := Nat.mul_le_mul_right (W ^ j) (show 1 ≤ dg W j x by omega)
          omega
        have HG := Lib.hid hge
        clear hz hs hl hlt hge
        go_wp2
        refine bodyPost_ret (v := .agg #[.slice (some ⟨g, o, none⟩) (j + 1) c]) (by simp [results, Try.results45, go_sem]) rfl ⟨j + 1, rfl, ⟨(h.shrink hm HL.out).alloc _, fun _ => HG.out⟩, (Below.refl _ _).alloc (Nat.le_refl _) _, hm⟩
theorem info_u64 : (Try.prog.info? 30).map (fun i => (i.zero, i.size, i.bytes)) = some (some (.int .u64 0), 1, 8) := by kernel_rfl
theorem Fresh.none (B : Nat) : Fresh B none := fun _ h => by cases h
/-- slices.Clone: a copy, a row of the call's own -/
def RetOwn (w : World) (n x : Nat) (e : Ending) (w' : World) : Prop := ∃ A c, e = .returned (.slice A n c) ∧ w'.ownsRow w.heap.size 30 1 (.slice A n c) n (dl .u64 W n x) ∧ Below w.heap.size w w'
set_option maxHeartbeats 400000 in
theorem clone (A : Option Addr) (n c x : Nat) (w : World) (h : Dig .u64 W w A n c x) (hn : n ≤ 17592186044416) :
    Calls Try.prog 46 #[.slice A n c] w (RetOwn w n x) := by
  obtain ⟨i0, hi, hz0, hz1, hz2⟩ := info_parts info_u64
  have hnil := fun W' => Lib.run_eql_slice_nil (P := Try.prog) W' 22 30 A n c 0 0 Try.underlying22
  cases A with
  | none =>
    have h0 : n = 0 := by
      rcases Nat.eq_zero_or_pos n with h0 | h0
      · exact h0
      · obtain ⟨g, o, e, _⟩ := h.at_ h0; cases e
    subst h0
    have hx := h.zero
    subst hx
    go_enter Try.func46, Try.ntmps46
    go_wp2
    go_ret
    exact ⟨none, 0, rfl, own_nil _ _ _ _ _, Below.refl _ _⟩
  | some a =>
    go_enter Try.func46, Try.ntmps46
    go_wp2_with (at_builtin; refine wpList_append_dig _ rfl _ _ 22 rfl w.heap.size 30 i0 (.int .u64 0) 8 Try.underlying22 hi hz0 hz1 hz2 rfl .u64 W _ 0 0 rfl (World.ownsRow_lit w #[] 0 (Nat.le_refl _) (by unfold maxLen; omega) rfl) (some a) n c x rfl (h.alloc _) (by unfold maxLen; omega) (by omega) (by simp) W_pos (by decide) ?_)
    intro v' w1 hown hgrow
    have hb : Below w.heap.size w w1 := ((Below.refl _ _).alloc (Nat.le_refl _) _).grown hgrow (by simp) (fun k hk => by simp [Value.ownBlock] at hk; omega)
    obtain ⟨A', c', rfl, hd, hf⟩ := own_form hown h.lt
    go_wp2
    go_ret
    exact ⟨A', c', rfl, hown, hb⟩
theorem RetOwn.dig {w w' : World} {n x : Nat} {e : Ending} (h : RetOwn w n x e w') (hx : x < W ^ n) : RetDig .u64 W w n x e w' := by
  obtain ⟨A, c, rfl, hown, hb⟩ := h
  obtain ⟨A', c', hv, hd, hf⟩ := own_form hown hx
  cases hv
  exact ⟨A, c, rfl, hd, hb, hf⟩
theorem slice_no_int (A : Option Addr) (n c : Nat) : ∀ k i, Value.slice A n c ≠ .int k i := fun _ _ h => by cases h
theorem NatAt.put_ {w : World} {A : Option Addr} {n c x : Nat} (h : NatAt w A n c x) {p : Addr} {A' : Option Addr} {n' c' : Nat} (hp : w.cell? p = some (.slice A' n' c')) (u : Value) : NatAt (w.setCell p u) A n c x := ⟨h.1.put_ hp (slice_no_int _ _ _) u, h.2⟩
theorem retb {a b : Bool} (h : a = b) : Ending.returned (.bool a) = Ending.returned (.bool b) := by rw [h]
theorem nat_Of (A : Option Addr) (n c x : Nat) (w : World) (h : Dig .u64 W w A n c x) (hn : n ≤ 17592186044416) :
    Calls Try.prog 13 #[.slice A n c] w fun e w' => ∃ A m c, e = .returned (.agg #[.slice A m c]) ∧ NatAt w' A m c x ∧ Below w.heap.size w w' ∧ m ≤ n := by
  have B0 := Blk1.new w 25 (.slice none 0 0)
  go_enter Try.func13, Try.ntmps13
  go_wp2_with fail
  refine (clone A n c x _ (h.alloc _) hn).mono ?_
  intro e w1 hr
  obtain ⟨A1, c1, rfl, hd1, hb1, hf1⟩ := hr.dig h.lt
  clear hr
  go_wp2_with fail
  refine (nat_trim A1 n c1 x _ hd1).mono ?_
  rintro e w2 ⟨m, rfl, hd2, hb2, hm⟩
  have hb3 := nx (nx (nxa (Below.refl w.heap.size w) (.cells #[.slice none 0 0] 25)) hb1) hb2
  have B2 := (B0.to hb1).to hb2
  have c0 := B2.cell
  have f0 := B2.free
  go_wp2_with fail
  exact bodyPost_ret (v := .agg #[.slice A1 m c1]) (by simp [results, Try.results13, go_sem, c0]) rfl ⟨A1, m, c1, rfl, hd2.put_ c0 _, hb3.setCell (Nat.le_refl _) _, hm⟩
theorem nat_Words (A : Option Addr) (n c x : Nat) (w : World) (h : NatAt w A n c x) (hn : n ≤ 17592186044416) :
    Calls Try.prog 15 #[.agg #[.slice A n c]] w (RetOwn w n x) := by
  go_enter Try.func15, Try.ntmps15
  go_wp2_with fail
  refine (clone A n c x _ (h.1.alloc _) hn).mono ?_
  rintro e w1 ⟨A1, c1, rfl, hown, hb1⟩
  go_wp2_with fail
  go_ret
  exact ⟨A1, c1, rfl, hown.mono (by simp), nx (nxa (Below.refl _ _) _) hb1⟩
theorem nat_Len (A : Option Addr) (n c : Nat) (w : World) :
    Calls Try.prog 43 #[.agg #[.slice A n c]] w (Ret w (.int .i64 (n : Nat))) := by
  go_enter Try.func43, Try.ntmps43
  go_wp2_with fail
  go_ret
  exact ⟨rfl, nxa (Below.refl _ _) _⟩
theorem nat_Zero (A : Option Addr) (n c x : Nat) (w : World) (h : NatAt w A n c x) :
    Calls Try.prog 19 #[.agg #[.slice A n c]] w (Ret w (.bool (decide (x = 0)))) := by
  have m1 := h.1.max
  have m2 := h.1.cap
  have hz := h.zero_iff
  have H := Lib.hid hz
  clear hz
  go_enter Try.func19, Try.ntmps19
  go_wp2_with fail
  go_ret
  exact ⟨retb (by have := H.out; by_cases e : x = 0 <;> simp [e] <;> omega), nxa (Below.refl _ _) _⟩
theorem nat_Word (A : Option Addr) (n c x : Nat) (k : Nat) (w : World) (h : NatAt w A n c x) (hk : k ≤ 9223372036854775807) :
    Calls Try.prog 20 #[.agg #[.slice A n c], .int .i64 (k : Int)] w (Ret w (.int .u64 (dg W k x : Nat))) := by
  have m1 := h.1.max
  have m2 := h.1.cap
  by_cases hkn : k < n
  · obtain ⟨g, o, rfl, hg, hcell⟩ := h.1.at_ (by omega)
    have hc := hcell k hkn
    clear hcell
    go_enter Try.func20, Try.ntmps20
    go_wp2_with fail
    go_ret
    exact ⟨rfl, nxa (Below.refl _ _) _⟩
  · have hz : dg W k x = 0 := dg_of_lt (Nat.lt_of_lt_of_le h.1.lt (Nat.pow_le_pow_right W_pos (by omega)))
    have HZ := Lib.hid hz
    clear hz
    go_enter Try.func20, Try.ntmps20
    go_wp2_with fail
    go_ret
    exact ⟨by rw [HZ.out]; rfl, nxa (Below.refl _ _) _⟩
theorem nat_Word_neg (A : Option Addr) (n c : Nat) (k : Int) (w : World) (hk : k < 0) :
    Calls Try.prog 20 #[.agg #[.slice A n c], .int .i64 k] w (Ret w (.int .u64 0)) := by
  go_enter Try.func20, Try.ntmps20
  go_wp2_with fail
  go_ret
  exact ⟨rfl, nxa (Below.refl _ _) _⟩
theorem W_pow (j : Nat) : W ^ j = 2 ^ (64 * j) := by rw [W_eq, ← Nat.pow_mul]
theorem top_digit {x n : Nat} (h1 : x < W ^ (n + 1)) : dg W n x = x / W ^ n := by
  unfold dg
  rw [Nat.mod_eq_of_lt]
  apply Nat.div_lt_of_lt_mul
  rw [← Nat.pow_succ]; exact h1
theorem bits_top {x n : Nat} (h1 : x < W ^ (n + 1)) (h2 : W ^ n ≤ x) : 64 * n + blen (dg W n x) = blen x := by
  have hd := top_digit h1
  have hp : 0 < W ^ n := Nat.pow_pos W_pos
  have hne : x / W ^ n ≠ 0 := by have := Nat.div_pos h2 hp; omega
  rw [hd]
  rw [W_pow] at hne ⊢
  exact (blen_shift hne).symm
theorem bit_at (x k : Nat) : dg W (k / 64) x / 2 ^ (k % 64) % 2 = x / 2 ^ k % 2 := by
  unfold dg
  have hk : k % 64 < 64 := Nat.mod_lt _ (by decide)
  have e : 2 ^ k = W ^ (k / 64) * 2 ^ (k % 64) := by rw [W_pow, ← Nat.pow_add]; congr 1; omega
  rw [e, ← Nat.div_div_eq_div_mul]
  generalize x / W ^ (k / 64) = y
  have e2 : W = 2 ^ (k % 64) * (2 * 2 ^ (63 - k % 64)) := by
    rw [← Nat.pow_succ', ← Nat.pow_add, W_eq]; congr 1; omega
  rw [e2, Nat.mod_mul_right_div_self, Nat.mod_mul_right_mod]
theorem nat_Bits (A : Option Addr) (n c x : Nat) (w : World) (h : NatAt w A n c x) (hn : n ≤ 17592186044416) :
    Calls Try.prog 23 #[.agg #[.slice A n c]] w (Ret w (.int .i64 (blen x : Nat))) := by
  have m1 := h.1.max
  have m2 := h.1.cap
  rcases n with _ | j
  · have hx := h.1.zero
    subst hx
    go_enter Try.func23, Try.ntmps23
    go_wp2_with fail
    go_ret
    exact ⟨rfl, nxa (Below.refl _ _) _⟩
  · obtain ⟨g, o, rfl, hg, hcell⟩ := h.1.at_ (by omega)
    have hc := hcell j (by omega)
    have E := Lib.hid (bits_top h.1.lt (h.2 (by omega)))
    have hd := dg_lt W_pos j x
    have hb : blen (dg W j x) ≤ 64 := blen_le_of_lt hd
    have ej : ((j + 1 : Nat) : Int) - 1 = (j : Int) := by omega
    have hne : (((j + 1 : Nat) : Int) == 0) = false := by simp; omega
    clear hcell
    go_enter Try.func23, Try.ntmps23
    go_wp2_with fail
    refine (word_Len _ _ hd).mono ?_
    rintro e w1 ⟨rfl, m, rfl⟩
    go_wp2_with fail
    go_ret
    exact ⟨ret1 (by have := E.out; omega), nxd (nxa (Below.refl _ _) _) _⟩
def cmpI (x y : Nat) : Int := if x < y then -1 else if x = y then 0 else 1
theorem cmp_int (a b : Int) (r : Int) (w : World) (hr : (a < b → r = -1) ∧ (a = b → r = 0) ∧ (b < a → r = 1)) :
    Calls Try.prog 59 #[.int .i64 a, .int .i64 b] w fun e w' => e = .returned (.int .i64 r) ∧ w = w' := by
  obtain ⟨h1, h2, h3⟩ := hr
  rcases Int.lt_trichotomy a b with h | h | h
  · obtain rfl := h1 h
    clear h1 h2 h3
    go_enter Try.func59, Try.ntmps59
    go_wp2
    go_ret
    exact ⟨rfl, rfl⟩
  · obtain rfl := h2 h
    clear h1 h2 h3
    subst h
    go_enter Try.func59, Try.ntmps59
    go_wp2
    go_ret
    exact ⟨rfl, rfl⟩
  · obtain rfl := h3 h
    clear h1 h2 h3
    go_enter Try.func59, Try.ntmps59
    go_wp2
    go_ret
    exact ⟨rfl, rfl⟩
theorem cmp_u64 (a b : Int) (r : Int) (w : World) (hr : (a < b → r = -1) ∧ (a = b → r = 0) ∧ (b < a → r = 1)) :
    Calls Try.prog 60 #[.int .u64 a, .int .u64 b] w fun e w' => e = .returned (.int .i64 r) ∧ w = w' := by
  obtain ⟨h1, h2, h3⟩ := hr
  rcases Int.lt_trichotomy a b with h | h | h
  · obtain rfl := h1 h
    clear h1 h2 h3
    go_enter Try.func60, Try.ntmps60
    go_wp2
    go_ret
    exact ⟨rfl, rfl⟩
  · obtain rfl := h2 h
    clear h1 h2 h3
    subst h
    go_enter Try.func60, Try.ntmps60
    go_wp2
    go_ret
    exact ⟨rfl, rfl⟩
  · obtain rfl := h3 h
    clear h1 h2 h3
    go_enter Try.func60, Try.ntmps60
    go_wp2
    go_ret
    exact ⟨rfl, rfl⟩
end Go.Proofs.Ytflleaifmeiikaa
