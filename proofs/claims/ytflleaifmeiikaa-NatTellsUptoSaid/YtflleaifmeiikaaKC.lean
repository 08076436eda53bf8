/- One more digit at an owned row's end; numbers without a nought above, to any base.
   The walks of actuaryref02, first part: numbers as digits to the base 65536.
   The walks of actuaryref02: words.
   The walks of actuaryref02: Is, Cmp.
   The walks of actuaryref02: Cmp.
   The walks of actuaryref02: Add.
   The walks of actuaryref02: Sub.
   The walks of actuaryref02: Small.
   The walks of actuaryref02: Power, Shl.
   The walks of actuaryref02: Bits, Bit.
   The walks of actuaryref02: Half, Shr, Low.
   The walk of law02.Like: a number of the program's and one of the document's.
   What laws that ask the document's answer share. -/
import Derived.IntWalk
import Derived.Maps.AppendAt
import Derived.Deep.DeepCutAuto
import Derived.Test.YtflleaifmeiikaaKA
import Derived.Test.YtflleaifmeiikaaRef1
import Derived.Test.YtflleaifmeiikaaKB
namespace Go.Proofs.Ytflleaifmeiikaa
open Go.RowKit
section
variable {P : Program}
theorem wpList_push {ops : Array Oper} {rest : List Oper} {o : Oper} {a : Act} {Q : Exit → Act → World → Prop} {wn : World} (hgd : o.guard = none) (s x : Operand) (t : TypeId)
    (ho : o.op = .call { callee := .builtin .append, args := #[s, x], argTypes := #[t, t] })
    (ws w0 : World) (e : TypeId) (i : TypeInfo) (z : Value) (bytes : Nat) (ht : P.underlying t = some (.slice e)) (hi : P.info? e = some i) (hz : i.zero = some z)
    (hsize : i.size = 1) (hby : i.bytes = bytes) (hzs : z.cells.size = 1) (k : IntKind) (b : Nat)
    (v : Value) (n X : Nat) (hs : a.eval s = v) (hown : w0.ownsRow ws.heap.size e 1 v n (dl k b n X)) (hbel : Below ws.heap.size ws w0)
    (u : Int) (hwn : wn = w0.alloc (.cells #[.int k u] e)) (d : Nat) (hu : u = (d : Nat)) (hd : d < b) (hX : X < b ^ n) (hx : a.eval x = .slice (some ⟨w0.heap.size, 0, none⟩) 1 1)
    (h63 : n + 1 ≤ maxLen) (hbytes : (n + 1) * bytes ≤ 140737488355328)
    (h : ∀ v' w1, w1.ownsRow ws.heap.size e 1 v' (n + 1) (dl k b (n + 1) (X + d * b ^ n)) → Below ws.heap.size ws w1 → wpList P ops Q rest (a.put o.dst v') w1) :
    wpList P ops Q (o :: rest) a wn := by
  subst hwn hu
  refine wpList_append_own _ hgd s x t ho ws.heap.size e i z 1 bytes ht hi hz hsize hby hzs (by decide) v n _ hs (hown.alloc _) ⟨w0.heap.size, 0, none⟩ 1 1 [.int k (d : Nat)] hx rfl (news_one _ _ _) (one_one _ _) h63 hbytes (Nat.le_trans hbel.size (by simp)) ?_
  intro v' w1 h1 h2 _
  refine h v' w1 ?_ ((hbel.alloc hbel.size _).grown h2 (Nat.le_trans hbel.size (by simp)) fun k hk => (hown.lt k hk).1)
  rw [← dl_snoc (Nat.lt_of_le_of_lt (Nat.zero_le _) hd) hX hd]
  exact h1
/-- append's second type is looked at only to see whether it is a number's -/
theorem append_types (w : World) (t t' ty e e' : TypeId) (ht : P.underlying t = some (.slice e)) (ht' : P.underlying t' = some (.slice e')) (v x : Value) :
    (Builtin.append_ #[t, t'] ty #[v, x]).run P w = (Builtin.append_ #[t, t] ty #[v, x]).run P w := by
  cases v <;> simp [Builtin.append_, run_underlying ht, run_underlying ht']
theorem wpList_append_dig2 {ops : Array Oper} {rest : List Oper} {o : Oper} {a : Act} {Q : Exit → Act → World → Prop} (w : World) (hgd : o.guard = none) (s x : Operand) (t t' : TypeId)
    (ho : o.op = .call { callee := .builtin .append, args := #[s, x], argTypes := #[t, t'] })
    (base : Nat) (e e' : TypeId) (i : TypeInfo) (z : Value) (bytes : Nat) (ht : P.underlying t = some (.slice e)) (ht' : P.underlying t' = some (.slice e')) (hi : P.info? e = some i) (hz : i.zero = some z)
    (hsize : i.size = 1) (hby : i.bytes = bytes) (hzs : z.cells.size = 1) (k : IntKind) (b : Nat)
    (v : Value) (n X : Nat) (hs : a.eval s = v) (hown : w.ownsRow base e 1 v n (dl k b n X)) (A : Option Addr) (m c Y : Nat) (hx : a.eval x = .slice A m c) (hd : Dig k b w A m c Y)
    (h63 : n + m ≤ maxLen) (hbytes : (n + m) * bytes ≤ 140737488355328) (hbase : base ≤ w.heap.size) (hb : 0 < b) (hX : X < b ^ n)
    (h : ∀ v' w', w'.ownsRow base e 1 v' (n + m) (dl k b (n + m) (X + Y * b ^ n)) → w.grownBy w' v.ownBlock → wpList P ops Q rest (a.put o.dst v') w') : wpList P ops Q (o :: rest) a w := by
  rw [← dl_append hb hX] at h
  rcases A with _ | ad
  · have hm : m = 0 := by
      rcases Nat.eq_zero_or_pos m with h0 | h0
      · exact h0
      · obtain ⟨g, o, h, _⟩ := hd.at_ h0
        cases h
    subst hm
    refine wpList_plain hgd fun K hK => ?_
    have hrun := (append_types (P := P) w t t' o.type e e' ht ht' v (.slice none 0 c)).trans (run_append_of_nil (P := P) w base t o.type e i 1 ht hi v n _ hown c)
    unfold Oper.wp execOp
    simp only [ho, resolve, invoke, builtin, Sem.run_bind, Sem.run_pure, Result.andThen_ok, List.map_toArray, List.map_cons, List.map_nil, hs, hx, hrun]
    refine hK _ _ (h v w ?_ (World.grownBy.refl w _))
    rw [dl_zero, List.append_nil]; exact hown
  · refine wpList_plain hgd fun K hK => ?_
    obtain ⟨v', w', hr, h2, h3, h4, h5⟩ := run_append_own_at (P := P) w base t o.type e i z 1 bytes ht hi hz hsize hby hzs (by decide) v n _ hown ad m c (dl k b m Y) (by rw [dl_length]; omega) (hd.news ad rfl) (dl_one _ _ _ _) h63 hbytes hbase
    have hrun := (append_types (P := P) w t t' o.type e e' ht ht' v (.slice (some ad) m c)).trans hr
    unfold Oper.wp execOp
    simp only [ho, resolve, invoke, builtin, Sem.run_bind, Sem.run_pure, Result.andThen_ok, List.map_toArray, List.map_cons, List.map_nil, hs, hx, hrun]
    exact hK _ _ (h v' w' h2 h3)
/-- the same at the operation itself, met in a region that draws its order -/
theorem wp_push {o : Oper} {a : Act} {K : Act → World → Prop} {Q : Exit → Act → World → Prop} {wn : World} (s x : Operand) (t : TypeId)
    (ho : o.op = .call { callee := .builtin .append, args := #[s, x], argTypes := #[t, t] })
    (ws w0 : World) (e : TypeId) (i : TypeInfo) (z : Value) (bytes : Nat) (ht : P.underlying t = some (.slice e)) (hi : P.info? e = some i) (hz : i.zero = some z)
    (hsize : i.size = 1) (hby : i.bytes = bytes) (hzs : z.cells.size = 1) (k : IntKind) (b : Nat)
    (v : Value) (n X : Nat) (hs : a.eval s = v) (hown : w0.ownsRow ws.heap.size e 1 v n (dl k b n X)) (hbel : Below ws.heap.size ws w0)
    (u : Int) (hwn : wn = w0.alloc (.cells #[.int k u] e)) (d : Nat) (hu : u = (d : Nat)) (hd : d < b) (hX : X < b ^ n) (hx : a.eval x = .slice (some ⟨w0.heap.size, 0, none⟩) 1 1)
    (h63 : n + 1 ≤ maxLen) (hbytes : (n + 1) * bytes ≤ 140737488355328)
    (h : ∀ v' w1, w1.ownsRow ws.heap.size e 1 v' (n + 1) (dl k b (n + 1) (X + d * b ^ n)) → Below ws.heap.size ws w1 → K (a.put o.dst v') w1) :
    Oper.wp P o a wn K Q := by
  subst hwn hu
  obtain ⟨v', w1, hr, h1, h2, -, -⟩ := run_append_own_at (P := P) (w0.alloc (.cells #[.int k (d : Nat)] e)) ws.heap.size t o.type e i z 1 bytes ht hi hz hsize hby hzs (by decide) v n _ (hown.alloc _) ⟨w0.heap.size, 0, none⟩ 1 1 [.int k (d : Nat)] rfl (news_one _ _ _) (one_one _ _) h63 hbytes (Nat.le_trans hbel.size (by simp))
  unfold Oper.wp execOp
  simp only [ho, resolve, invoke, builtin, Sem.run_bind, Sem.run_pure, Result.andThen_ok, List.map_toArray, List.map_cons, List.map_nil, hs, hx, hr]
  refine h v' w1 ?_ ((hbel.alloc hbel.size _).grown h2 (Nat.le_trans hbel.size (by simp)) fun k hk => (hown.lt k hk).1)
  rw [← dl_snoc (Nat.lt_of_le_of_lt (Nat.zero_le _) hd) hX hd]
  exact h1
end
/-- a number's digits, without a nought above -/
def NumAt (k : IntKind) (b : Nat) (w : World) (A : Option Addr) (n c x : Nat) : Prop := Dig k b w A n c x ∧ (0 < n → b ^ (n - 1) ≤ x)
section
variable {k : IntKind} {b : Nat} {w w' : World} {A A' : Option Addr} {n n' c c' x : Nat}
theorem NumAt.below {B : Nat} (h : NumAt k b w A n c x) (hb : Below B w w') (hB : w.heap.size ≤ B) : NumAt k b w' A n c x := ⟨h.1.below hb hB, h.2⟩
theorem NumAt.to (h : NumAt k b w A n c x) (hb : Below w.heap.size w w') : NumAt k b w' A n c x := h.below hb (Nat.le_refl _)
theorem NumAt.lt (h : NumAt k b w A n c x) : x < b ^ n := h.1.lt
theorem NumAt.nil (k : IntKind) (b : Nat) (w : World) : NumAt k b w none 0 0 0 := ⟨Dig.nil _ _ _ _ (by omega), fun h => absurd h (by omega)⟩
theorem NumAt.zero_iff (hb : 0 < b) (h : NumAt k b w A n c x) : x = 0 ↔ n = 0 := by
  constructor
  · rintro rfl
    rcases Nat.eq_zero_or_pos n with h0 | h0
    · exact h0
    · have := h.2 h0
      have := Nat.pow_pos (n := n - 1) hb
      omega
  · rintro rfl; exact h.1.zero
theorem pow_lt_inv' {b i j x : Nat} (hb : 0 < b) (h1 : b ^ i ≤ x) (h2 : x < b ^ j) : i < j := by
  rcases Nat.lt_or_ge i j with h | h
  · exact h
  · have := Nat.pow_le_pow_right hb h; omega
theorem NumAt.len_eq (hb : 0 < b) (h : NumAt k b w A n c x) {k' : IntKind} (h' : NumAt k' b w' A' n' c' x) : n = n' := by
  rcases Nat.eq_zero_or_pos n with h0 | h0
  · have hx := (h.zero_iff hb).2 h0
    rw [h0, (h'.zero_iff hb).1 hx]
  · rcases Nat.eq_zero_or_pos n' with h1 | h1
    · have hx := (h'.zero_iff hb).2 h1
      rw [h1, (h.zero_iff hb).1 hx]
    · have a := pow_lt_inv' hb (h.2 h0) h'.1.lt
      have b' := pow_lt_inv' hb (h'.2 h1) h.1.lt
      omega
theorem NumAt.le_of (hb : 0 < b) (h : NumAt k b w A n c x) (m : Nat) (hx : x < b ^ m) : n ≤ m := by
  rcases Nat.eq_zero_or_pos n with h0 | h0
  · omega
  · have := pow_lt_inv' hb (h.2 h0) hx
    omega
end
/-- a call's answer: a new number of the reference -/
def RetRef (b : Nat) (w : World) (x : Nat) (e : Ending) (w' : World) : Prop := ∃ A n c, e = .returned (.slice A n c) ∧ NumAt .i64 b w' A n c x ∧ Below w.heap.size w w' ∧ Fresh w.heap.size A
end Go.Proofs.Ytflleaifmeiikaa
namespace Go.Proofs.Ytflleaifmeiikaa
open Go.RowKit
def natOf : Value → Nat | .int _ i => i.toNat | _ => 0
set_option maxRecDepth 100000 in
set_option maxHeartbeats 1000000 in
theorem ref2_Trim (A : Option Addr) (n c x : Nat) (w : World) (h : Dig .i64 65536 w A n c x) (hn : n ≤ 17592186044416) :
    Calls Try.prog 47 #[.slice A n c] w (RetRef 65536 w x) := by
  obtain ⟨i0, hi, hz0, hz1, hz2⟩ := info_parts info_int
  have m1 := h.max
  have m2 := h.cap
  go_enter Try.func47, Try.ntmps47
  go_wp2
  go_loop [3] (fun v => ∃ m : Nat, m ≤ n ∧ v = .int .i64 (m : Int) ∧ x < 65536 ^ m) (fun v => (intOf v).toNat)
  case atStart => exact ⟨n, Nat.le_refl _, rfl, h.lt⟩
  case round =>
    obtain ⟨m, hm, rfl, hlt⟩ := hrel
    rcases m with _ | j
    · have HD := h.shrink hm hlt
      clear hlt h
      go_wp2_with (at_builtin; refine wpList_append_dig _ rfl _ _ 27 rfl w.heap.size 3 i0 (.int .i64 0) 8 Try.underlying27 hi hz0 hz1 hz2 rfl .i64 65536 _ 0 0 rfl (own_nil _ _ _ _ _) A (0) c x rfl HD (by unfold maxLen; omega) (by omega) (Nat.le_refl _) (by decide) (by decide) ?_)
      intro v' w1 hown hgrow
      have hb := below_of_none hgrow
      obtain ⟨A1, c1, rfl, hd1, hf⟩ := own_form (k := .i64) (b := 65536) (x := x) (n := 0) (by simpa using hown) HD.lt
      clear hown hgrow
      go_wp2
      go_ret
      exact ⟨A1, _, c1, rfl, ⟨hd1, fun h => absurd h (by omega)⟩, hb, hf⟩
    · obtain ⟨g, o, rfl, hg, hcell⟩ := h.at_ (by omega)
      have hcj := hcell j (by omega)
      have hpos : (0 : Int) < ((j + 1 : Nat) : Int) := by omega
      have ej : ((j + 1 : Nat) : Int) - 1 = (j : Int) := by omega
      have hjc : j + 1 ≤ c := by omega
      have hs := low_next 65536 j x
      rw [low_all hlt] at hs
      have hl := low_bound (b := 65536) (by decide) j x
      clear hcell
      by_cases hz : dg 65536 j x = 0
      · rw [hz] at hcj
        have HL := Lib.hid (show x < 65536 ^ j by rw [← hs, hz]; simpa using hl)
        clear hz hs hl hlt
        go_wp2
        go_round
        case rel => exact ⟨j, by omega, by simp, HL.out⟩
        case measure => simp [intOf]
      · have hb : (((dg 65536 j x : Nat) : Int) == 0) = false := by simp; exact hz
        have HD := h.shrink hm hlt
        have hge : 65536 ^ j ≤ x := by
          rw [← hs]
          have := Nat.mul_le_mul_right (65536 ^ j) (show 1 ≤ dg 65536 j x by omega)
          omega
        have HG := Lib.hid hge
        clear hz hs hl hlt hge h
        go_wp2_with (at_builtin; refine wpList_append_dig _ rfl _ _ 27 rfl w.heap.size 3 i0 (.int .i64 0) 8 Try.underlying27 hi hz0 hz1 hz2 rfl .i64 65536 _ 0 0 rfl (own_nil _ _ _ _ _) (some ⟨g, o, none⟩) (j + 1) c x rfl HD (by unfold maxLen; omega) (by omega) (Nat.le_refl _) (by decide) (by decide) ?_)
        intro v' w1 hown hgrow
        have hb := below_of_none hgrow
        obtain ⟨A1, c1, rfl, hd1, hf⟩ := own_form (k := .i64) (b := 65536) (x := x) (n := j + 1) (by simpa using hown) HD.lt
        clear hown hgrow
        go_wp2
        go_ret
        exact ⟨A1, _, c1, rfl, ⟨hd1, fun _ => HG.out⟩, hb, hf⟩
-- OF --
theorem dg_split (m j x : Nat) (hj : j < 4) : dg 65536 (4 * m + j) x = dg W m x / 65536 ^ j % 65536 := by
  unfold dg
  rw [show W = 65536 ^ 4 from by decide, ← Nat.pow_mul, Nat.pow_add, ← Nat.div_div_eq_div_mul]
  obtain rfl | rfl | rfl | rfl : j = 0 ∨ j = 1 ∨ j = 2 ∨ j = 3 := by omega
  all_goals (generalize x / 65536 ^ (4 * m) = y; omega)
set_option maxRecDepth 100000 in
set_option maxHeartbeats 1000000 in
theorem ref2_Of (A : Option Addr) (n c x : Nat) (w : World) (h : Dig .u64 W w A n c x) (hn : n ≤ 1000000000) :
    Calls Try.prog 14 #[.slice A n c] w (RetRef 65536 w x) := by
  obtain ⟨i0, hi, hz0, hz1, hz2⟩ := info_parts info_int
  have m1 := h.max
  have m2 := h.cap
  go_enter Try.func14, Try.ntmps14
  go_wp2
  go_loopw [3, 4, 5, 6] (fun d i _ _ wr => ∃ m : Nat, m ≤ n ∧ i = .int .i64 (m : Int) ∧ wr.ownsRow w.heap.size 3 1 d (4 * m) (dl .i64 65536 (4 * m) (low 65536 (4 * m) x)) ∧ Below w.heap.size w wr) (fun _ i _ _ _ => n - (intOf i).toNat)
  case atStart => exact ⟨0, by omega, rfl, by rw [low_nought]; exact own_nil _ _ _ _ _, Below.refl _ _⟩
  case round =>
    obtain ⟨m, hm, rfl, hown, hbel⟩ := hrel
    by_cases hlt : m < n
    · obtain ⟨g, o, rfl, hg, hcell⟩ := h.at_ (by omega)
      have hcx : wr.cell? ⟨g, o + m, none⟩ = some (.int .u64 (dg W m x : Nat)) := (hbel.cell (by exact hg)).trans (hcell m hlt)
      clear hcell
      go_wp2
      go_loopw [3, 5, 6] (fun d ww k wr => ∃ j q : Nat, j ≤ 4 ∧ k = .int .i64 (j : Int) ∧ ww = .int .u64 (q : Int) ∧ q = dg W m x / 65536 ^ j ∧ wr.ownsRow w.heap.size 3 1 d (4 * m + j) (dl .i64 65536 (4 * m + j) (low 65536 (4 * m + j) x)) ∧ Below w.heap.size w wr) (fun _ _ k _ => 4 - (intOf k).toNat)
      case atStart => exact ⟨0, _, by omega, rfl, rfl, by simp, hown, hbel⟩
      case round =>
        clear hown hbel hcx
        obtain ⟨j, q, hj, rfl, rfl, hq, hown, hbel⟩ := hrel
        have hqW : q < W := by rw [hq]; exact Nat.lt_of_le_of_lt (Nat.div_le_self _ _) (dg_lt W_pos _ _)
        have hql := le_W hqW
        by_cases hj4 : j < 4
        · have HD := Lib.hid (dg_split m j x hj4)
          have HQ := Lib.hid (show q / 65536 = dg W m x / 65536 ^ (j + 1) by rw [hq, Nat.div_div_eq_div_mul, Nat.pow_succ])
          rw [← hq] at HD
          clear hq hqW
          go_wp2_with (at_builtin; go_loud (refine wpList_push rfl _ _ 27 rfl w wr 3 i0 (.int .i64 0) 8 Try.underlying27 hi hz0 hz1 hz2 rfl .i64 65536 _ (4 * m + j) (low 65536 (4 * m + j) x) rfl hown hbel _ rfl (dg 65536 (4 * m + j) x) (by rw [HD.out]; rfl) (dg_lt (by decide) _ _) (low_bound (by decide) _ _) rfl (by unfold maxLen; omega) (by omega) ?_))
          intro v' w1 hown' hbel'
          rw [low_next] at hown'
          clear hown hbel
          go_wp2
          go_roundw
          case rel => exact ⟨j + 1, q / 65536, by omega, by go_num, rfl, HQ.out, hown', hbel'⟩
          case measure => simp [intOf]; omega
        · obtain rfl : j = 4 := by omega
          clear hq
          go_wp2
          go_roundw
          case rel => exact ⟨m + 1, by omega, by go_num, hown, hbel⟩
          case measure => simp [intOf]; omega
    · obtain rfl : m = n := by omega
      have HX := low_all (Nat.lt_of_lt_of_le h.lt (Nat.le_of_eq (show W ^ m = 65536 ^ (4 * m) by rw [Nat.pow_mul]; rfl)))
      rw [HX] at hown
      obtain ⟨A1, c1, rfl, hd1, hf⟩ := own_form hown (low_bound (b := 65536) (by decide) (4 * m) x |> fun hb => by rwa [HX] at hb)
      clear hown
      go_wp2_with fail
      refine (ref2_Trim _ _ _ _ _ hd1 (by omega)).mono ?_
      rintro e w2 ⟨A2, n2, c2, rfl, hd2, hb2, hf2⟩
      go_wp2_with fail
      go_ret
      exact ⟨A2, n2, c2, rfl, hd2, nx hbel hb2, hf2.mono hbel.size⟩
-- DIGIT --
theorem ref2_Digit (A : Option Addr) (n c x : Nat) (K : Int) (v : Nat) (w : World) (h : Dig .i64 65536 w A n c x) (hK : ∃ j : Nat, K = (j : Int) ∧ v = dg 65536 j x ∧ j ≤ 9223372036854775807) :
    Calls Try.prog 48 #[.slice A n c, .int .i64 K] w fun e w' => e = .returned (.int .i64 (v : Nat)) ∧ w = w' := by
  obtain ⟨j, rfl, rfl, hj⟩ := hK
  have m1 := h.max
  have m2 := h.cap
  go_enter Try.func48, Try.ntmps48
  by_cases hlt : j < n
  · obtain ⟨g, o, rfl, hg, hcell⟩ := h.at_ (by omega)
    have hcj := hcell j hlt
    have hjn : (j : Int) < (n : Int) := by omega
    have hjn0 : ¬ (j : Int) < 0 := by omega
    clear hcell
    go_wp2
    go_ret
    exact ⟨rfl, rfl⟩
  · have HX := Lib.hid (show dg 65536 j x = 0 from dg_of_lt (Nat.lt_of_lt_of_le h.lt (Nat.pow_le_pow_right (by decide) (by omega))))
    have hjn : (n : Int) ≤ (j : Int) := by omega
    go_wp2
    go_ret
    exact ⟨by rw [HX.out]; rfl, rfl⟩
end Go.Proofs.Ytflleaifmeiikaa
namespace Go.Proofs.Ytflleaifmeiikaa
open Go.RowKit
theorem word_step (D r : Nat) : D / 65536 ^ (r + 1) * 65536 + D / 65536 ^ r % 65536 = D / 65536 ^ r := by
  rw [Nat.pow_succ, ← Nat.div_div_eq_div_mul]; omega
set_option maxRecDepth 100000 in
set_option maxHeartbeats 1000000 in
theorem ref2_Words (A : Option Addr) (n c x : Nat) (w : World) (h : Dig .i64 65536 w A n c x) (hn : n ≤ 4000000000) :
    Calls Try.prog 17 #[.slice A n c] w (RetOwn w ((n + 3) / 4) x) := by
  obtain ⟨i0, hi, hz0, hz1, hz2⟩ := info_parts info_u64
  have m1 := h.max
  have m2 := h.cap
  go_enter Try.func17, Try.ntmps17
  go_wp2
  go_loopw [3, 4, 5, 6] (fun d i _ _ wr => ∃ m p : Nat, p = 4 * m ∧ m ≤ (n + 3) / 4 ∧ i = .int .i64 (p : Int) ∧ wr.ownsRow w.heap.size 30 1 d m (dl .u64 W m (low W m x)) ∧ Below w.heap.size w wr) (fun _ i _ _ _ => n + 3 - (intOf i).toNat)
  case atStart => exact ⟨0, 0, rfl, by omega, rfl, by rw [low_nought]; exact own_nil _ _ _ _ _, Below.refl _ _⟩
  case round =>
    obtain ⟨m, p, hp, hm, rfl, hown, hbel⟩ := hrel
    have HP := Lib.hid hp
    by_cases hlt : p < n
    · clear hp
      go_wp2
      go_loopw [5, 6] (fun ww k wr' => ∃ r q : Nat, wr' = wr ∧ r ≤ 4 ∧ k = .int .i64 ((r : Int) - 1) ∧ ww = .int .u64 (q : Int) ∧ q = dg W m x / 65536 ^ r) (fun _ k _ => (intOf k + 1).toNat)
      case atStart => exact ⟨4, 0, rfl, by omega, rfl, rfl, by rw [Nat.div_eq_of_lt]; exact dg_lt W_pos _ _⟩
      case round =>
        obtain ⟨r, q, rfl, hr, rfl, rfl, hq⟩ := hrel
        rcases r with _ | r
        · have HQ := Lib.hid (show q = dg W m x by simpa using hq)
          have hqW : q < W := by rw [HQ.out]; exact dg_lt W_pos _ _
          have hql := le_W hqW
          clear hq
          go_wp2_with (at_builtin; go_loud (refine wpList_push rfl _ _ 22 rfl w wr 30 i0 (.int .u64 0) 8 Try.underlying22 hi hz0 hz1 hz2 rfl .u64 W _ (m) (low W m x) rfl hown hbel _ rfl (dg W m x) (by rw [HQ.out]) (dg_lt W_pos _ _) (low_bound W_pos _ _) rfl (by unfold maxLen; omega) (by omega) ?_))
          intro v' w1 hown' hbel'
          rw [low_next] at hown'
          clear hown hbel
          go_wp2
          go_roundw
          case rel => exact ⟨m + 1, p + 4, by have := HP.out; omega, by have := HP.out; omega, by go_num, hown', hbel'⟩
          case measure => simp [intOf]; omega
        · have HS := Lib.hid (word_step (dg W m x) r)
          have HD := dg_split m r x (by omega)
          rw [← HP.out] at HD
          have hq2 : q ≤ 281474976710655 := by
            rw [hq]
            have h1 : dg W m x / 65536 ^ (r + 1) ≤ dg W m x / 65536 := by
              rw [Nat.pow_succ, Nat.mul_comm, ← Nat.div_div_eq_div_mul]; exact Nat.div_le_self _ _
            have h2 := dg_lt W_pos m x
            have : W = 18446744073709551616 := by decide
            omega
          have hd := dg_lt (b := 65536) (by decide) (p + r) x
          have hr4 : ((r + 1 : Nat) : Int) - 1 = (r : Int) := by omega
          rw [hr4]
          rw [← HD] at HS
          rw [← hq] at HS
          clear HD hq
          have hx := h.below hbel (Nat.le_refl _)
          go_wp2_with fail
          refine (ref2_Digit _ _ _ x _ (dg 65536 (p + r) x) _ hx ⟨p + r, by omega, rfl, by omega⟩).mono ?_
          rintro e w1 ⟨rfl, rfl⟩
          go_wp2
          go_roundw
          case rel => exact ⟨r, q * 65536 + dg 65536 (p + r) x, trivial, by omega, rfl, rfl, HS.out⟩
          case measure => simp [intOf]
    · have HM := Lib.hid (show m = (n + 3) / 4 by omega)
      have HX := low_all (b := W) (k := m) (x := x) (Nat.lt_of_lt_of_le h.lt (by rw [show W = 65536 ^ 4 from by decide, ← Nat.pow_mul]; exact Nat.pow_le_pow_right (by decide) (by omega)))
      rw [HX] at hown
      obtain ⟨A1, c1, rfl, hd1, hf⟩ := own_form hown (by have := low_bound (b := W) W_pos m x; rwa [HX] at this)
      clear HX hp hm
      go_wp2
      go_ret
      exact ⟨A1, c1, by rw [← HM.out]; rfl, by rw [← HM.out]; exact hown, hbel⟩
end Go.Proofs.Ytflleaifmeiikaa
namespace Go.Proofs.Ytflleaifmeiikaa
open Go.RowKit
set_option maxRecDepth 100000 in
set_option maxHeartbeats 1000000 in
theorem ref2_Is (A : Option Addr) (n c x : Nat) (A' : Option Addr) (n' c' y : Nat) (w : World) (h : Dig .i64 65536 w A n c x) (h' : Dig .u64 W w A' n' c' y) (hn : n ≤ 4000000000) :
    Calls Try.prog 49 #[.slice A n c, .slice A' n' c'] w (Ret w (.bool (decide ((n + 3) / 4 = n' ∧ x = y)))) := by
  have m1 := h.max
  have m2 := h.cap
  have m3 := h'.max
  have m4 := h'.cap
  obtain ⟨m, HM⟩ : ∃ m, Hid (m = (n + 3) / 4) := ⟨_, Lib.hid rfl⟩
  rw [← HM.out]
  by_cases hnn : m = n'
  · subst hnn
    go_enter Try.func49, Try.ntmps49
    go_wp2_with fail
    refine (ref2_Words A n c x _ h hn).mono ?_
    rw [← HM.out]
    rintro e w1 ⟨A1, c1, rfl, hown, hb1⟩
    obtain ⟨A2, c2, hv, hd1, hf1⟩ := own_form hown (Nat.lt_of_lt_of_le h.lt (by rw [show W = 65536 ^ 4 from by decide, ← Nat.pow_mul, HM.out]; exact Nat.pow_le_pow_right (by decide) (by omega)))
    cases hv
    have m5 := hd1.max
    have m6 := hd1.cap
    clear hown hf1
    go_wp2_with fail
    go_loopw [6] (fun k wr => ∃ kk : Nat, kk ≤ m ∧ k = .int .i64 (kk : Int) ∧ low W kk x = low W kk y ∧ Below w.heap.size w wr ∧ Dig .u64 W wr A1 m c1 x) (fun k _ => m - (intOf k).toNat)
    case atStart => exact ⟨0, Nat.zero_le _, rfl, by rw [low_nought, low_nought], hb1, hd1⟩
    case round =>
      obtain ⟨kk, hk, rfl, hlow, hbel, hd⟩ := hrel
      clear hd1 hb1
      by_cases hlt : kk < m
      · obtain ⟨g1, o1, rfl, hg1, hcell1⟩ := hd.at_ (by omega)
        obtain ⟨g2, o2, rfl, hg2, hcell2⟩ := h'.at_ (by omega)
        have k1 := hcell1 kk hlt
        have k2 := (hbel.cell (p := ⟨g2, o2 + kk, none⟩) hg2).trans (hcell2 kk hlt)
        have hkN : (kk : Int) < (m : Int) := by omega
        clear hcell1 hcell2
        by_cases hdd : dg W kk x = dg W kk y
        · have hB : (((dg W kk x : Nat) : Int) != (dg W kk y : Nat)) = false := by simp [hdd]
          have HL := Lib.hid (low_eq_succ hlow hdd)
          clear hlow hdd
          go_wp2_with fail
          go_quiet (fail)
          have hbel2 := nxd hbel nq
          have hd2 := hd.drewN nq
          clear hd hbel k1 k2
          go_wp2_with fail
          go_roundw
          case rel => exact ⟨kk + 1, by omega, by go_num, HL.out, hbel2, hd2⟩
          case measure => simp [intOf]; omega
        · have hB : (((dg W kk x : Nat) : Int) != (dg W kk y : Nat)) = true := by rw [bne_iff_ne]; omega
          have HF := Lib.hid (show decide (m = m ∧ x = y) = false by
            simp only [decide_eq_false_iff_not, not_and]
            intro _ e; exact hdd (by rw [e]))
          clear hlow hdd
          go_wp2_with fail
          go_quiet (fail)
          go_wp2_with fail
          go_ret
          exact ⟨by rw [HF.out]; rfl, nxd hbel nq⟩
      · obtain rfl : kk = m := by omega
        rw [low_all hd.lt, low_all h'.lt] at hlow
        have HF := Lib.hid hlow
        clear hlow
        go_wp2_with fail
        go_ret
        exact ⟨retb (by have := HF.out; simp [this]), hbel⟩
  · have hB : (((m : Nat) : Int) != (n' : Nat)) = true := by rw [bne_iff_ne]; omega
    have HF := Lib.hid (show decide (m = n' ∧ x = y) = false by simp [hnn])
    clear hnn
    go_enter Try.func49, Try.ntmps49
    go_wp2_with fail
    refine (ref2_Words A n c x _ h hn).mono ?_
    rw [← HM.out]
    rintro e w1 ⟨A1, c1, rfl, hown, hb1⟩
    clear hown
    go_wp2_with fail
    go_ret
    exact ⟨by rw [HF.out]; rfl, hb1⟩
end Go.Proofs.Ytflleaifmeiikaa
namespace Go.Proofs.Ytflleaifmeiikaa
open Go.RowKit
set_option maxRecDepth 100000 in
set_option maxHeartbeats 1000000 in
theorem ref2_Cmp (A : Option Addr) (n c x : Nat) (A' : Option Addr) (n' c' y : Nat) (w : World) (h : NumAt .i64 65536 w A n c x) (h' : NumAt .i64 65536 w A' n' c' y) :
    Calls Try.prog 66 #[.slice A n c, .slice A' n' c'] w (Ret w (.int .i64 (cmpI x y))) := by
  have m1 := h.1.max
  have m2 := h.1.cap
  have m3 := h'.1.max
  have m4 := h'.1.cap
  rcases Nat.lt_trichotomy n n' with hn | hn | hn
  · have hxy : x < y := by
      have h1 := h.1.lt
      have h2 := h'.2 (by omega)
      have h3 := Nat.pow_le_pow_right (n := 65536) (by decide) (show n ≤ n' - 1 by omega)
      omega
    have C := Lib.hid (cmpI_lt hxy)
    have hB : (((n : Nat) : Int) != (n' : Nat)) = true := by rw [bne_iff_ne]; omega
    have hi : (n : Int) < (n' : Int) := by omega
    clear hxy hn
    go_enter Try.func66, Try.ntmps66
    go_wp2
    go_ret
    exact ⟨by rw [C.out]; rfl, Below.refl _ _⟩
  · subst hn
    have HX := Lib.hid h.1
    have HY := Lib.hid h'.1
    clear h h'
    go_enter Try.func66, Try.ntmps66
    go_wp2
    go_loopw [5] (fun k wr => ∃ kk m : Nat, kk ≤ n ∧ k = .int .i64 ((kk : Int) - 1) ∧ up 65536 kk x = up 65536 kk y ∧ wr = w.drewN m) (fun k _ => (intOf k + 1).toNat)
    case atStart => exact ⟨n, 0, Nat.le_refl _, rfl, by unfold up; rw [Nat.div_eq_of_lt HX.out.lt, Nat.div_eq_of_lt HY.out.lt], rfl⟩
    case round =>
      obtain ⟨kk, m, hk, rfl, hup, rfl⟩ := hrel
      rcases kk with _ | j
      · rw [up_zero, up_zero] at hup
        have C := Lib.hid (cmpI_eq hup)
        clear hup
        go_wp2
        go_ret
        exact ⟨by rw [C.out]; rfl, nxd (Below.refl _ _) _⟩
      · rw [show ((j + 1 : Nat) : Int) - 1 = (j : Int) by omega]
        obtain ⟨g, o, rfl, hg, hcell⟩ := HX.out.at_ (by omega)
        obtain ⟨g', o', rfl, hg', hcell'⟩ := HY.out.at_ (by omega)
        have hcx := hcell j (by omega)
        have hcy := hcell' j (by omega)
        clear hcell hcell'
        have e1 := up_step (b := 65536) j x
        have e2 := up_step (b := 65536) j y
        rw [← hup] at e2
        have hj : (j : Int) < (n : Int) := by omega
        rcases Nat.lt_trichotomy (dg 65536 j x) (dg 65536 j y) with hl | hl | hl
        · have C := Lib.hid (cmpI_lt (lt_of_up (b := 65536) (j := j) (x := x) (y := y) (by omega)))
          have hli : ((dg 65536 j x : Nat) : Int) < ((dg 65536 j y : Nat) : Int) := by omega
          clear e1 e2 hup hl
          go_wp2
          go_quiet (fail)
          go_wp2
          go_ret
          exact ⟨by rw [C.out]; rfl, nxd (nxd (Below.refl _ _) _) _⟩
        · have HU := Lib.hid (show up 65536 j x = up 65536 j y by omega)
          rw [← hl] at hcy
          clear e1 e2 hup hl
          go_wp2
          go_quiet (fail)
          go_wp2
          go_quiet (fail)
          go_wp2
          go_roundw
          case rel => exact ⟨j, _, by omega, rfl, HU.out, rfl⟩
          case measure => simp [intOf]
        · have C := Lib.hid (cmpI_gt (lt_of_up (b := 65536) (j := j) (x := y) (y := x) (by omega)))
          have hli : ¬ ((dg 65536 j x : Nat) : Int) < ((dg 65536 j y : Nat) : Int) := by omega
          have hlg : ((dg 65536 j y : Nat) : Int) < ((dg 65536 j x : Nat) : Int) := by omega
          clear e1 e2 hup hl
          go_wp2
          go_quiet (fail)
          go_wp2
          go_quiet (fail)
          go_wp2
          go_ret
          exact ⟨by rw [C.out]; rfl, nxd (nxd (nxd (Below.refl _ _) _) _) _⟩
  · have hxy : y < x := by
      have h1 := h'.1.lt
      have h2 := h.2 (by omega)
      have h3 := Nat.pow_le_pow_right (n := 65536) (by decide) (show n' ≤ n - 1 by omega)
      omega
    have C := Lib.hid (cmpI_gt hxy)
    have hB : (((n : Nat) : Int) != (n' : Nat)) = true := by rw [bne_iff_ne]; omega
    have hi : ¬ (n : Int) < (n' : Int) := by omega
    clear hxy hn
    go_enter Try.func66, Try.ntmps66
    go_wp2
    go_ret
    exact ⟨by rw [C.out]; rfl, Below.refl _ _⟩
end Go.Proofs.Ytflleaifmeiikaa
namespace Go.Proofs.Ytflleaifmeiikaa
open Go.RowKit
theorem carry_none {b n n' kk x y : Nat} (hb : 2 ≤ b) (hx : x < b ^ n) (hy : y < b ^ n') (h1 : n < kk) (h2 : n' < kk) : carry b kk x y = 0 := by
  unfold carry
  obtain ⟨j, rfl⟩ : ∃ j, kk = j + 1 := ⟨kk - 1, by omega⟩
  have e1 : x < b ^ j := Nat.lt_of_lt_of_le hx (Nat.pow_le_pow_right (by omega) (by omega))
  have e2 : y < b ^ j := Nat.lt_of_lt_of_le hy (Nat.pow_le_pow_right (by omega) (by omega))
  have e3 : b ^ j * 2 ≤ b ^ (j + 1) := by rw [Nat.pow_succ]; exact Nat.mul_le_mul_left _ hb
  rw [low_all (by omega), low_all (by omega)]
  exact Nat.div_eq_of_lt (by omega)
theorem sum_low {b n n' kk x y : Nat} (hb : 0 < b) (hx : x < b ^ n) (hy : y < b ^ n') (h1 : n ≤ kk) (h2 : n' ≤ kk) (hc : carry b kk x y = 0) : x + y < b ^ kk := by
  unfold carry at hc
  rw [low_all (Nat.lt_of_lt_of_le hx (Nat.pow_le_pow_right hb h1)), low_all (Nat.lt_of_lt_of_le hy (Nat.pow_le_pow_right hb h2))] at hc
  have := Nat.pow_pos (n := kk) hb
  rcases Nat.div_eq_zero_iff.1 hc with h | h <;> omega
set_option maxRecDepth 100000 in
set_option maxHeartbeats 1000000 in
theorem ref2_Add (A : Option Addr) (n c x : Nat) (A' : Option Addr) (n' c' y : Nat) (w : World) (h : NumAt .i64 65536 w A n c x) (h' : NumAt .i64 65536 w A' n' c' y) (hn : n ≤ 4000000000) (hn' : n' ≤ 4000000000) :
    Calls Try.prog 68 #[.slice A n c, .slice A' n' c'] w (RetRef 65536 w (x + y)) := by
  obtain ⟨i0, hi, hz0, hz1, hz2⟩ := info_parts info_int
  have m1 := h.1.max
  have m2 := h.1.cap
  have m3 := h'.1.max
  have m4 := h'.1.cap
  go_enter Try.func68, Try.ntmps68
  go_wp2
  go_loopw [5, 6, 7, 8] (fun d cc k _ wr => ∃ kk q : Nat, kk ≤ max n n' + 1 ∧ k = .int .i64 (kk : Int) ∧ cc = .int .i64 (q : Int) ∧ q = carry 65536 kk x y ∧ wr.ownsRow w.heap.size 3 1 d kk (dl .i64 65536 kk (low 65536 kk (x + y))) ∧ Below w.heap.size w wr) (fun _ _ k _ _ => max n n' + 2 - (intOf k).toNat)
  case atStart => exact ⟨0, 0, by omega, rfl, rfl, by rw [carry_zero], by rw [low_nought]; exact own_nil _ _ _ _ _, Below.refl _ _⟩
  case round =>
    obtain ⟨kk, p, hk, rfl, rfl, hp, hown, hbel⟩ := hrel
    obtain ⟨a, ha⟩ : ∃ a, a = dg 65536 kk x := ⟨_, rfl⟩
    obtain ⟨b, hb⟩ : ∃ b, b = dg 65536 kk y := ⟨_, rfl⟩
    obtain ⟨q, hq⟩ : ∃ q, q = carry 65536 (kk + 1) x y := ⟨_, rfl⟩
    have hpc : p ≤ 1 := by rw [hp]; exact carry_le (by decide) _ _ _
    have hda : a ≤ 65535 := by have := dg_lt (b := 65536) (by decide) kk x; omega
    have hdb : b ≤ 65535 := by have := dg_lt (b := 65536) (by decide) kk y; omega
    obtain ⟨s1, s2⟩ := carry_step (b := 65536) (by decide) kk x y
    rw [← hp, ← ha, ← hb, Nat.add_assoc, Nat.add_comm p] at s1 s2
    rw [← hq] at s1
    have S1 := Lib.hid s1
    have S2 := Lib.hid s2
    have HC := Lib.hid hq
    have hx := h.1.below hbel (Nat.le_refl _)
    have hy := h'.1.below hbel (Nat.le_refl _)
    have hz : n < kk → n' < kk → p = 0 := fun e1 e2 => by rw [hp]; exact carry_none (by decide) h.lt h'.lt e1 e2
    have HZ := Lib.hid hz
    have HP := Lib.hid hp
    have HA := Lib.hid ha
    have HB := Lib.hid hb
    clear s1 s2 hq hz hp ha hb
    by_cases h1 : kk < n
    · have HK := Lib.hid (show kk + 1 ≤ max n n' + 1 by omega)
      have g1 : (kk : Int) < (n : Int) := by omega
      go_wp2_with fail
      refine (ref2_Digit _ _ _ x _ a _ hx ⟨kk, rfl, HA.out, by omega⟩).mono ?_
      rintro e w1 ⟨rfl, rfl⟩
      go_wp2_with fail
      refine (ref2_Digit _ _ _ y _ b _ hy ⟨kk, rfl, HB.out, by omega⟩).mono ?_
      rintro e w1 ⟨rfl, rfl⟩
      go_wp2_with (at_builtin; go_loud (refine wpList_push rfl _ _ 27 rfl w wr 3 i0 (.int .i64 0) 8 Try.underlying27 hi hz0 hz1 hz2 rfl .i64 65536 _ (kk) (low 65536 kk (x + y)) rfl hown hbel _ rfl (dg 65536 kk (x + y)) (by rw [← S2.out]; rfl) (dg_lt (by decide) _ _) (low_bound (by decide) _ _) rfl (by unfold maxLen; omega) (by omega) ?_))
      intro v' w1 hown' hbel'
      rw [low_next] at hown'
      clear hown hbel hx hy
      go_wp2
      go_roundw
      case rel => exact ⟨kk + 1, q, HK.out, by go_num, by rw [← S1.out]; rfl, HC.out, hown', hbel'⟩
      case measure => simp [intOf]; omega

    · by_cases h2 : kk < n'
      · have HK := Lib.hid (show kk + 1 ≤ max n n' + 1 by omega)
        have g1 : (n : Int) ≤ (kk : Int) := by omega
        have g2 : (kk : Int) < (n' : Int) := by omega
        go_wp2_with fail
        refine (ref2_Digit _ _ _ x _ a _ hx ⟨kk, rfl, HA.out, by omega⟩).mono ?_
        rintro e w1 ⟨rfl, rfl⟩
        go_wp2_with fail
        refine (ref2_Digit _ _ _ y _ b _ hy ⟨kk, rfl, HB.out, by omega⟩).mono ?_
        rintro e w1 ⟨rfl, rfl⟩
        go_wp2_with (at_builtin; go_loud (refine wpList_push rfl _ _ 27 rfl w wr 3 i0 (.int .i64 0) 8 Try.underlying27 hi hz0 hz1 hz2 rfl .i64 65536 _ (kk) (low 65536 kk (x + y)) rfl hown hbel _ rfl (dg 65536 kk (x + y)) (by rw [← S2.out]; rfl) (dg_lt (by decide) _ _) (low_bound (by decide) _ _) rfl (by unfold maxLen; omega) (by omega) ?_))
        intro v' w1 hown' hbel'
        rw [low_next] at hown'
        clear hown hbel hx hy
        go_wp2
        go_roundw
        case rel => exact ⟨kk + 1, q, HK.out, by go_num, by rw [← S1.out]; rfl, HC.out, hown', hbel'⟩
        case measure => simp [intOf]; omega

      · by_cases h3 : p = 0
        · have HX := Lib.hid (sum_low (b := 65536) (by decide) h.lt h'.lt (show n ≤ kk by omega) (show n' ≤ kk by omega) (by rw [← HP.out]; exact h3))
          rw [low_all HX.out] at hown
          obtain ⟨A1, c1, rfl, hd1, hf⟩ := own_form hown HX.out
          subst h3
          clear hown hx hy
          go_wp2_with fail
          refine (ref2_Trim _ _ _ _ _ hd1 (by omega)).mono ?_
          rintro e w2 ⟨A2, n2, c2, rfl, hd2, hb2, hf2⟩
          go_wp2_with fail
          go_ret
          exact ⟨A2, n2, c2, rfl, hd2, nx hbel hb2, hf2.mono hbel.size⟩
        · obtain rfl : p = 1 := by omega
          have HK := Lib.hid (show kk + 1 ≤ max n n' + 1 by
            rcases Nat.lt_or_ge n kk with e1 | e1
            · rcases Nat.lt_or_ge n' kk with e2 | e2
              · have := HZ.out e1 e2; omega
              · omega
            · omega)
          have g1 : (n : Int) ≤ (kk : Int) := by omega
          have g2 : (n' : Int) ≤ (kk : Int) := by omega
          go_wp2_with fail
          refine (ref2_Digit _ _ _ x _ a _ hx ⟨kk, rfl, HA.out, by omega⟩).mono ?_
          rintro e w1 ⟨rfl, rfl⟩
          go_wp2_with fail
          refine (ref2_Digit _ _ _ y _ b _ hy ⟨kk, rfl, HB.out, by omega⟩).mono ?_
          rintro e w1 ⟨rfl, rfl⟩
          go_wp2_with (at_builtin; go_loud (refine wpList_push rfl _ _ 27 rfl w wr 3 i0 (.int .i64 0) 8 Try.underlying27 hi hz0 hz1 hz2 rfl .i64 65536 _ (kk) (low 65536 kk (x + y)) rfl hown hbel _ rfl (dg 65536 kk (x + y)) (by rw [← S2.out]; rfl) (dg_lt (by decide) _ _) (low_bound (by decide) _ _) rfl (by unfold maxLen; omega) (by omega) ?_))
          intro v' w1 hown' hbel'
          rw [low_next] at hown'
          clear hown hbel hx hy
          go_wp2
          go_roundw
          case rel => exact ⟨kk + 1, q, HK.out, by go_num, by rw [← S1.out]; rfl, HC.out, hown', hbel'⟩
          case measure => simp [intOf]; omega

end Go.Proofs.Ytflleaifmeiikaa
namespace Go.Proofs.Ytflleaifmeiikaa
open Go.RowKit
set_option maxRecDepth 100000 in
set_option maxHeartbeats 1000000 in
theorem ref2_Sub (A : Option Addr) (n c D : Nat) (A' : Option Addr) (n' c' y : Nat) (w : World) (h : NumAt .i64 65536 w A n c (D + y)) (h' : NumAt .i64 65536 w A' n' c' y) (hn : n ≤ 4000000000) :
    Calls Try.prog 67 #[.slice A n c, .slice A' n' c'] w (RetRef 65536 w D) := by
  obtain ⟨i0, hi, hz0, hz1, hz2⟩ := info_parts info_int
  have m1 := h.1.max
  have m2 := h.1.cap
  have m3 := h'.1.max
  have m4 := h'.1.cap
  have HL := Lib.hid (Nat.lt_of_le_of_lt (Nat.le_add_right D y) h.lt)
  go_enter Try.func67, Try.ntmps67
  go_wp2
  go_loopw [5, 6, 7, 8] (fun d cc k _ wr => ∃ kk q : Nat, kk ≤ n ∧ k = .int .i64 (kk : Int) ∧ cc = .int .i64 (q : Int) ∧ q = carry 65536 kk D y ∧ wr.ownsRow w.heap.size 3 1 d kk (dl .i64 65536 kk (low 65536 kk D)) ∧ Below w.heap.size w wr) (fun _ _ k _ _ => n - (intOf k).toNat)
  case atStart => exact ⟨0, 0, by omega, rfl, rfl, by rw [carry_zero], by rw [low_nought]; exact own_nil _ _ _ _ _, Below.refl _ _⟩
  case round =>
    obtain ⟨kk, p, hk, rfl, rfl, hp, hown, hbel⟩ := hrel
    by_cases h1 : kk < n
    · obtain ⟨a, ha⟩ : ∃ a, a = dg 65536 kk (D + y) := ⟨_, rfl⟩
      obtain ⟨b, hb⟩ : ∃ b, b = dg 65536 kk y := ⟨_, rfl⟩
      obtain ⟨d, hd⟩ : ∃ d, d = dg 65536 kk D := ⟨_, rfl⟩
      obtain ⟨q, hq⟩ : ∃ q, q = carry 65536 (kk + 1) D y := ⟨_, rfl⟩
      have hpc : p ≤ 1 := by rw [hp]; exact carry_le (by decide) _ _ _
      have hqc : q ≤ 1 := by rw [hq]; exact carry_le (by decide) _ _ _
      have hda : a ≤ 65535 := by have := dg_lt (b := 65536) (by decide) kk (D + y); omega
      have hdb : b ≤ 65535 := by have := dg_lt (b := 65536) (by decide) kk y; omega
      have hdd : d ≤ 65535 := by have := dg_lt (b := 65536) (by decide) kk D; omega
      obtain ⟨s1, s2⟩ := carry_step (b := 65536) (by decide) kk D y
      rw [← hp, ← hd, ← hb] at s1 s2
      rw [← hq] at s1
      rw [← ha] at s2
      have key : p + d + b = a + 65536 * q := by omega
      have HC := Lib.hid hq
      have HD := Lib.hid hd
      have HB := Lib.hid hb
      have hx := h.1.below hbel (Nat.le_refl _)
      have hy := h'.1.below hbel (Nat.le_refl _)
      obtain ⟨g, o, rfl, hg, hcell⟩ := hx.at_ (by omega)
      have hcx := hcell kk h1
      rw [← ha] at hcx
      have hkN : (kk : Int) < (n : Int) := by omega
      have kM : kk ≤ 9223372036854775807 := by omega
      clear hcell s1 s2 hq hd hb ha hp
      have z1 : IntKind.i64.wrap ((a : Int) - (b : Int)) = (a : Int) - (b : Int) := IntWalk.i64_in _ (by omega)
      have z2 : IntKind.i64.wrap ((a : Int) - (b : Int) - (p : Int)) = (a : Int) - (b : Int) - (p : Int) := IntWalk.i64_in _ (by omega)
      go_wp2_with fail
      go_quiet ((go_at_call 48; exact quietL (ref2_Digit _ _ _ y _ b _ (hy.drewN _) ⟨kk, rfl, HB.out, kM⟩)))
      clear z1 z2
      have hbelq := nxd hbel nq
      by_cases hs : a < b + p
      · have hsi : (a : Int) - (b : Int) - (p : Int) < 0 := by omega
        have hq1 : q = 1 := by omega
        go_wp2_with (at_builtin; go_loud (refine wpList_push rfl _ _ 27 rfl w (wr.drewN nq) 3 i0 (.int .i64 0) 8 Try.underlying27 hi hz0 hz1 hz2 rfl .i64 65536 _ (kk) (low 65536 kk D) rfl hown hbelq _ rfl (d) (by omega) (by omega) (low_bound (by decide) _ _) rfl (by unfold maxLen; omega) (by omega) ?_))
        intro v' w1 hown' hbel'
        rw [HD.out, low_next] at hown'
        clear hown hbel hbelq hx hy
        go_wp2
        go_roundw
        case rel => exact ⟨kk + 1, q, by omega, by go_num, by rw [hq1]; rfl, HC.out, hown', hbel'⟩
        case measure => simp [intOf]; omega

      · have hsi : ¬ (a : Int) - (b : Int) - (p : Int) < 0 := by omega
        have hq1 : q = 0 := by omega
        go_wp2_with (at_builtin; go_loud (refine wpList_push rfl _ _ 27 rfl w (wr.drewN nq) 3 i0 (.int .i64 0) 8 Try.underlying27 hi hz0 hz1 hz2 rfl .i64 65536 _ (kk) (low 65536 kk D) rfl hown hbelq _ rfl (d) (by omega) (by omega) (low_bound (by decide) _ _) rfl (by unfold maxLen; omega) (by omega) ?_))
        intro v' w1 hown' hbel'
        rw [HD.out, low_next] at hown'
        clear hown hbel hbelq hx hy
        go_wp2
        go_roundw
        case rel => exact ⟨kk + 1, q, by omega, by go_num, by rw [hq1]; rfl, HC.out, hown', hbel'⟩
        case measure => simp [intOf]; omega

    · obtain rfl : kk = n := by omega
      rw [low_all HL.out] at hown
      obtain ⟨A1, c1, rfl, hd1, hf⟩ := own_form hown HL.out
      clear hown hp
      go_wp2_with fail
      refine (ref2_Trim _ _ _ _ _ hd1 (by omega)).mono ?_
      rintro e w2 ⟨A2, n2, c2, rfl, hd2, hb2, hf2⟩
      go_wp2_with fail
      go_ret
      exact ⟨A2, n2, c2, rfl, hd2, nx hbel hb2, hf2.mono hbel.size⟩
end Go.Proofs.Ytflleaifmeiikaa
namespace Go.Proofs.Ytflleaifmeiikaa
open Go.RowKit
theorem small_step {b : Nat} (hb : 0 < b) (k x m add : Nat) :
    ((low b k x * m + add) / b ^ k + dg b k x * m) / b = (low b (k + 1) x * m + add) / b ^ (k + 1) ∧
    ((low b k x * m + add) / b ^ k + dg b k x * m) % b = dg b k (x * m + add) := by
  have hp : 0 < b ^ k := Nat.pow_pos hb
  have e1 : low b (k + 1) x * m + add = (low b k x * m + add) + b ^ k * (dg b k x * m) := by
    rw [← low_next, Nat.add_mul, Nat.mul_comm (dg b k x) (b ^ k), Nat.mul_assoc]; omega
  have e2 : x * m + add = (low b k x * m + add) + b ^ k * (up b k x * m) := by
    have h : x = low b k x + b ^ k * up b k x := (Nat.mod_add_div x (b ^ k)).symm
    conv => lhs; rw [h]
    rw [Nat.add_mul, Nat.mul_assoc]; omega
  constructor
  · rw [e1, Nat.pow_succ, ← Nat.div_div_eq_div_mul, Nat.add_mul_div_left _ _ hp]
  · rw [e2]
    unfold dg
    rw [Nat.add_mul_div_left _ _ hp]
    have h : up b k x = dg b k x + b * up b (k + 1) x := up_step k x
    unfold dg at h
    rw [h, Nat.add_mul, Nat.mul_assoc, ← Nat.add_assoc, Nat.add_mul_mod_self_left]
theorem Dig.two (w : World) (e : TypeId) (u v : Int) (b x : Nat) (hu : u = (x % b : Nat)) (hv : v = (x / b : Nat)) (hx : x < b * b) :
    Dig .i64 b (w.alloc (.cells #[.int .i64 u, .int .i64 v] e)) (some ⟨w.heap.size, 0, none⟩) 2 2 x := by
  subst hu hv
  refine ⟨by rw [show (2 : Nat) = 1 + 1 from rfl, Nat.pow_succ, Nat.pow_one]; exact hx, by omega, by omega, fun _ => ⟨w.heap.size, 0, rfl, by simp, fun j hj => ?_⟩⟩
  obtain rfl | rfl : j = 0 ∨ j = 1 := by omega
  · rw [show dg b 0 x = x % b by unfold dg; rw [Nat.pow_zero, Nat.div_one]]; simp
  · rw [show dg b 1 x = x / b by unfold dg; rw [Nat.pow_one, Nat.mod_eq_of_lt (Nat.div_lt_of_lt_mul hx)]]; simp
set_option maxRecDepth 100000 in
set_option maxHeartbeats 1000000 in
theorem ref2_Small (A : Option Addr) (n c x m add : Nat) (w : World) (h : Dig .i64 65536 w A n c x) (hm : m ≤ 65536) (ha : add ≤ 4294967295) (hn : n ≤ 4000000000) :
    Calls Try.prog 65 #[.slice A n c, .int .i64 (m : Nat), .int .i64 (add : Nat)] w (RetRef 65536 w (x * m + add)) := by
  obtain ⟨i0, hi, hz0, hz1, hz2⟩ := info_parts info_int
  have m1 := h.max
  have m2 := h.cap
  go_enter Try.func65, Try.ntmps65
  go_wp2
  go_loopw [7, 8, 9, 10] (fun d cc k _ wr => ∃ kk q : Nat, kk ≤ n ∧ k = .int .i64 (kk : Int) ∧ cc = .int .i64 (q : Int) ∧ q = (low 65536 kk x * m + add) / 65536 ^ kk ∧ q ≤ 4294967295 ∧ wr.ownsRow w.heap.size 3 1 d kk (dl .i64 65536 kk (low 65536 kk (x * m + add))) ∧ Below w.heap.size w wr) (fun _ _ k _ _ => n - (intOf k).toNat)
  case atStart => exact ⟨0, add, by omega, rfl, rfl, by rw [low_nought]; simp, ha, by rw [low_nought]; exact own_nil _ _ _ _ _, Below.refl _ _⟩
  case round =>
    obtain ⟨kk, p, hk, rfl, rfl, hp, hpq, hown, hbel⟩ := hrel
    by_cases h1 : kk < n
    · obtain ⟨a, haa⟩ : ∃ a, a = dg 65536 kk x := ⟨_, rfl⟩
      obtain ⟨q, hq⟩ : ∃ q, q = (low 65536 (kk + 1) x * m + add) / 65536 ^ (kk + 1) := ⟨_, rfl⟩
      obtain ⟨t, ht⟩ : ∃ t, t = a * m := ⟨_, rfl⟩
      have hda : a ≤ 65535 := by have := dg_lt (b := 65536) (by decide) kk x; omega
      have htm : t ≤ 4294967296 := by rw [ht]; exact Nat.le_trans (Nat.mul_le_mul (show a ≤ 65536 by omega) hm) (by decide)
      have htm' : t ≤ 4294901760 := by rw [ht]; exact Nat.le_trans (Nat.mul_le_mul hda hm) (by decide)
      obtain ⟨s1, s2⟩ := small_step (b := 65536) (by decide) kk x m add
      rw [← hp, ← haa, ← ht, Nat.add_comm p] at s1 s2
      rw [← hq] at s1
      have hqq : q ≤ 4294967295 := by omega
      have hti : (a : Int) * (m : Int) = (t : Int) := by rw [ht]; exact (Int.natCast_mul _ _).symm
      have S1 := Lib.hid s1
      have S2 := Lib.hid s2
      have HC := Lib.hid hq
      have hx := h.below hbel (Nat.le_refl _)
      obtain ⟨g, o, rfl, hg, hcell⟩ := hx.at_ (by omega)
      have hcx := hcell kk h1
      rw [← haa] at hcx
      have hkN : (kk : Int) < (n : Int) := by omega
      clear hcell s1 s2 hq haa hp ht hx
      go_wp2_with (at_builtin; go_loud (refine wpList_push rfl _ _ 27 rfl w wr 3 i0 (.int .i64 0) 8 Try.underlying27 hi hz0 hz1 hz2 rfl .i64 65536 _ (kk) (low 65536 kk (x * m + add)) rfl hown hbel _ rfl (dg 65536 kk (x * m + add)) (by rw [← S2.out]; rfl) (dg_lt (by decide) _ _) (low_bound (by decide) _ _) rfl (by unfold maxLen; omega) (by omega) ?_))
      intro v' w1 hown' hbel'
      rw [low_next] at hown'
      clear hown hbel
      go_wp2
      go_roundw
      case rel => exact ⟨kk + 1, q, by omega, by go_num, by rw [← S1.out]; rfl, HC.out, hqq, hown', hbel'⟩
      case measure => simp [intOf]; omega
    · obtain rfl : kk = n := by omega
      rw [low_all h.lt] at hp
      have HP := Lib.hid hp
      have kl := Dig.two wr 3 ((p : Int) % 65536) ((p : Int) / 65536) 65536 p rfl rfl (by omega)
      clear hp
      go_wp2_with (at_builtin; go_loud (refine wpList_append_dig _ rfl _ _ 27 rfl w.heap.size 3 i0 (.int .i64 0) 8 Try.underlying27 hi hz0 hz1 hz2 rfl .i64 65536 _ kk (low 65536 kk (x * m + add)) rfl (hown.alloc _) _ 2 2 p rfl kl (by unfold maxLen; omega) (by omega) (Nat.le_trans hbel.size (by simp)) (by decide) (low_bound (by decide) _ _) ?_))
      intro v2 w1 hown2 hgrow2
      have hb1 : Below w.heap.size w w1 := (hbel.alloc hbel.size _).grown hgrow2 (Nat.le_trans hbel.size (by simp)) (fun k hk => (hown.lt k hk).1)
      have hX : low 65536 kk (x * m + add) + p * 65536 ^ kk = x * m + add := by rw [HP.out, Nat.mul_comm _ (65536 ^ kk)]; exact Nat.mod_add_div _ _
      have hlt : x * m + add < 65536 ^ (kk + 2) := by
        rw [← hX]
        have h2 : p * 65536 ^ kk ≤ 4294967295 * 65536 ^ kk := Nat.mul_le_mul_right _ hpq
        have h3 := low_bound (b := 65536) (by decide) kk (x * m + add)
        rw [Nat.pow_add, Nat.mul_comm (65536 ^ kk)]
        omega
      rw [hX] at hown2
      obtain ⟨A1, c1, rfl, hd1, hf⟩ := own_form hown2 hlt
      clear hown hown2 hgrow2 hX hlt kl hbel
      go_wp2_with fail
      refine (ref2_Trim _ _ _ _ _ hd1 (by omega)).mono ?_
      rintro e w2 ⟨A2, n2, c2, rfl, hd2, hb2, hf2⟩
      go_wp2_with fail
      go_ret
      exact ⟨A2, n2, c2, rfl, hd2, nx hb1 hb2, hf2.mono hb1.size⟩
end Go.Proofs.Ytflleaifmeiikaa
namespace Go.Proofs.Ytflleaifmeiikaa
open Go.RowKit
theorem ref2_Power (K : Int) (v : Nat) (w : World) (hK : ∃ j : Nat, K = (j : Int) ∧ v = 2 ^ j ∧ j ≤ 40) :
    Calls Try.prog 50 #[.int .i64 K] w fun e w' => e = .returned (.int .i64 (v : Nat)) ∧ w = w' := by
  obtain ⟨j, rfl, hv, hj⟩ := hK
  have HV := Lib.hid hv
  clear hv
  go_enter Try.func50, Try.ntmps50
  go_wp2
  go_loop [3, 4] (fun v i => ∃ t p : Nat, t ≤ j ∧ i = .int .i64 (t : Int) ∧ v = .int .i64 (p : Int) ∧ p = 2 ^ t) (fun _ i => j - (intOf i).toNat)
  case atStart => exact ⟨0, 1, by omega, rfl, rfl, rfl⟩
  case round =>
    obtain ⟨t, p, ht, rfl, rfl, hp⟩ := hrel
    have hpl : p ≤ 1099511627776 := by rw [hp]; exact Nat.le_trans (Nat.pow_le_pow_right (by decide) (show t ≤ 40 by omega)) (by decide)
    have HP := Lib.hid hp
    clear hp
    by_cases hlt : t < j
    · go_wp2
      go_round
      case rel => exact ⟨t + 1, 2 * p, by omega, by go_num, by go_num, by rw [HP.out, Nat.pow_succ, Nat.mul_comm]⟩
      case measure => simp [intOf]; omega
    · obtain rfl : t = j := by omega
      obtain rfl : p = v := by rw [HP.out, HV.out]
      go_wp2
      go_ret
      exact ⟨rfl, rfl⟩
theorem pow_split (k : Nat) : 65536 ^ (k / 16) * 2 ^ (k % 16) = 2 ^ k := by
  rw [show 65536 = 2 ^ 16 from rfl, ← Nat.pow_mul, ← Nat.pow_add, Nat.div_add_mod]
end Go.Proofs.Ytflleaifmeiikaa
set_option linter.unusedVariables false
set_option linter.unusedSimpArgs false
namespace Go.Proofs.Ytflleaifmeiikaa
open Go.RowKit
set_option maxRecDepth 100000
theorem blen_half {z : Nat} (hz : 0 < z) : blen z = 1 + blen (z / 2) := by
  rcases Nat.eq_zero_or_pos (z / 2) with h | h
  · obtain rfl : z = 1 := by omega
    decide
  · have := blen_shift (x := z) (k := 1) (by simpa using (show z / 2 ≠ 0 by omega))
    simpa using this
theorem ref_bits_top {x n : Nat} (h1 : x < 65536 ^ (n + 1)) (h2 : 65536 ^ n ≤ x) : 16 * n + blen (dg 65536 n x) = blen x := by
  have hp : 0 < 65536 ^ n := Nat.pow_pos (by decide)
  have hd : dg 65536 n x = x / 65536 ^ n := by
    unfold dg
    rw [Nat.mod_eq_of_lt]
    apply Nat.div_lt_of_lt_mul
    rw [← Nat.pow_succ]; exact h1
  have hne : x / 65536 ^ n ≠ 0 := by have := Nat.div_pos h2 hp; omega
  rw [hd]
  rw [show 65536 = 2 ^ 16 from rfl, ← Nat.pow_mul] at hne ⊢
  exact (blen_shift hne).symm
set_option maxHeartbeats 1000000 in
theorem ref2_Bits (A : Option Addr) (n c x : Nat) (w : World) (h : NumAt .i64 65536 w A n c x) (hn : n ≤ 4000000000) :
    Calls Try.prog 21 #[.slice A n c] w fun e w' => e = .returned (.int .i64 (blen x : Nat)) ∧ w = w' := by
  have m1 := h.1.max
  have m2 := h.1.cap
  rcases n with _ | j
  · have hx := h.1.zero
    subst hx
    go_enter Try.func21, Try.ntmps21
    go_wp2
    go_ret
    exact ⟨rfl, rfl⟩
  · obtain ⟨g, o, rfl, hg, hcell⟩ := h.1.at_ (by omega)
    have hc := hcell j (by omega)
    have E := Lib.hid (ref_bits_top h.1.lt (by have := h.2 (by omega); simpa using this))
    obtain ⟨d, hd⟩ : ∃ d, d = dg 65536 j x := ⟨_, rfl⟩
    have hdw : d < 65536 := by rw [hd]; exact dg_lt (by decide) _ _
    rw [← hd] at hc
    have ej : ((j + 1 : Nat) : Int) - 1 = (j : Int) := by omega
    have hne : (((j + 1 : Nat) : Int) == 0) = false := by simp; omega
    have HD := Lib.hid hd
    have hb16 : blen d ≤ 16 := blen_le_of_lt hdw
    clear hcell hd
    go_enter Try.func21, Try.ntmps21
    go_wp2
    go_loop [3, 4] (fun a b => ∃ i z : Nat, a = .int .i64 ((16 * j + i : Nat) : Int) ∧ b = .int .i64 (z : Nat) ∧ i + blen z = blen d ∧ z < 65536) (fun _ b => natOf b)
    case atStart => exact ⟨0, d, by simp, rfl, by omega, hdw⟩
    case round =>
      obtain ⟨i, z, rfl, rfl, hz, hzw⟩ := hrel
      have hi : i ≤ 16 := by omega
      by_cases h0 : 0 < z
      · have h0I : (0 : Int) < (z : Int) := by omega
        have hh := blen_half h0
        obtain ⟨y, hy⟩ : ∃ y, y = z / 2 := ⟨_, rfl⟩
        rw [← hy] at hh
        have HZ := Lib.hid (show i + 1 + blen y = blen d by omega)
        have hyz : y < z := by omega
        have zt : (z : Int).tdiv 2 = (y : Int) := by rw [Int.tdiv_eq_ediv_of_nonneg (by omega)]; omega
        have ze : (z : Int) / 2 = (y : Int) := by omega
        have zw : IntKind.i64.wrap (y : Int) = (y : Int) := IntWalk.i64_in _ (by omega)
        clear hh hz hy
        go_wp2
        go_round
        case rel => exact ⟨i + 1, y, by go_num, by first | rfl | (rw [ze]; done) | simp, HZ.out, by omega⟩
        case measure => simp [natOf]; omega
      · obtain rfl : z = 0 := by omega
        have HZ := Lib.hid (show i = blen d by rw [← hz, blen_zero]; omega)
        clear hz
        go_wp2
        go_ret
        exact ⟨ret1 (by have := E.out; rw [← HD.out, ← HZ.out] at this; omega), rfl⟩
theorem ref_bit_at (x k : Nat) : dg 65536 (k / 16) x / 2 ^ (k % 16) % 2 = x / 2 ^ k % 2 := by
  unfold dg
  have hk : k % 16 < 16 := Nat.mod_lt _ (by decide)
  rw [← pow_split k, ← Nat.div_div_eq_div_mul]
  generalize x / 65536 ^ (k / 16) = y
  have e2 : 65536 = 2 ^ (k % 16) * (2 * 2 ^ (15 - k % 16)) := by
    rw [← Nat.pow_succ', ← Nat.pow_add, show 65536 = 2 ^ 16 from rfl]; congr 1; omega
  rw [e2, Nat.mod_mul_right_div_self, Nat.mod_mul_right_mod]
theorem ref2_Bit_neg (A : Option Addr) (n c : Nat) (k : Int) (w : World) (hk : k < 0) :
    Calls Try.prog 22 #[.slice A n c, .int .i64 k] w fun e w' => e = .returned (.int .i64 0) ∧ w = w' := by
  go_enter Try.func22, Try.ntmps22
  go_wp2_with fail
  go_ret
  exact ⟨rfl, rfl⟩
theorem ref2_Bit (A : Option Addr) (n c x k : Nat) (w : World) (h : Dig .i64 65536 w A n c x) (hk : k ≤ 9223372036854775807) :
    Calls Try.prog 22 #[.slice A n c, .int .i64 (k : Nat)] w fun e w' => e = .returned (.int .i64 (x / 2 ^ k % 2 : Nat)) ∧ w = w' := by
  have hk0 : ¬ (k : Int) < 0 := by omega
  obtain ⟨q, hq⟩ : ∃ q, q = k / 16 := ⟨_, rfl⟩
  obtain ⟨r, hr⟩ : ∃ r, r = k % 16 := ⟨_, rfl⟩
  have e1 : (k : Int) / 16 = (q : Int) := by omega
  have e2 : (k : Int) % 16 = (r : Int) := by omega
  have hB := ref_bit_at x k
  rw [← hq, ← hr] at hB
  have HB := Lib.hid hB
  have hqk : q ≤ k := by omega
  have hr6 : r ≤ 15 := by omega
  obtain ⟨pw, hpw⟩ : ∃ pw, pw = 2 ^ r := ⟨_, rfl⟩
  have HP := Lib.hid hpw
  have hp0 : (pw : Int) ≠ 0 := by have : 0 < pw := by rw [hpw]; exact Nat.pow_pos (by decide)
                                  omega
  obtain ⟨d, hd⟩ : ∃ d, d = dg 65536 q x := ⟨_, rfl⟩
  have hdw : d < 65536 := by rw [hd]; exact dg_lt (by decide) _ _
  have HD := Lib.hid hd
  have hpp : pw ≤ 65536 := by rw [hpw]; exact Nat.le_trans (Nat.pow_le_pow_right (by decide) hr6) (by decide)
  obtain ⟨t, ht⟩ : ∃ t, t = d / pw := ⟨_, rfl⟩
  have htd : t ≤ d := by rw [ht]; exact Nat.div_le_self _ _
  have zt : (d : Int) / (pw : Int) = (t : Int) := by rw [ht]; rfl
  have HT := Lib.hid ht
  clear hB hq hr hpw hd ht
  go_enter Try.func22, Try.ntmps22
  go_wp2_with fail
  refine (ref2_Digit A n c x _ d _ h ⟨q, rfl, HD.out, by omega⟩).mono ?_
  rintro e w1 ⟨rfl, rfl⟩
  go_wp2_with fail
  refine (ref2_Power _ pw _ ⟨r, rfl, HP.out, by omega⟩).mono ?_
  rintro e w2 ⟨rfl, rfl⟩
  have zw : wrap64 (t : Int) = (t : Int) := by unfold wrap64; omega
  go_wp2_with fail
  go_ret
  exact ⟨ret1 (by rw [← HB.out, ← HD.out, ← HP.out, ← HT.out]; simp), rfl⟩
end Go.Proofs.Ytflleaifmeiikaa
namespace Go.Proofs.Ytflleaifmeiikaa
open Go.RowKit
theorem half_step {b : Nat} (hb : 0 < b) (j X m : Nat) (hm : 0 < m) :
    up b j (X / m) = (up b (j + 1) X % m * b + dg b j X) / m + b * up b (j + 1) (X / m) ∧ (up b (j + 1) X % m * b + dg b j X) % m = up b j X % m ∧ (up b (j + 1) X % m * b + dg b j X) / m < b := by
  have e0 : ∀ i, up b i (X / m) = up b i X / m := fun i => by unfold up; rw [Nat.div_div_eq_div_mul, Nat.div_div_eq_div_mul, Nat.mul_comm]
  have e1 := up_step (b := b) j X
  have e2 := Nat.mod_add_div (up b (j + 1) X) m
  have hd := dg_lt hb j X
  have e3 : up b j X = (up b (j + 1) X % m * b + dg b j X) + m * (b * (up b (j + 1) X / m)) := by
    rw [e1]
    conv => lhs; rw [← e2]
    rw [Nat.mul_add, ← Nat.mul_assoc, Nat.mul_comm b m, Nat.mul_assoc, Nat.mul_comm b (_ % m)]; omega
  refine ⟨?_, ?_, ?_⟩
  · rw [e0, e0, e3, Nat.add_mul_div_left _ _ hm]
  · rw [e3, Nat.add_mul_mod_self_left]
  · have hl := Nat.mod_lt (up b (j + 1) X) hm
    apply Nat.div_lt_of_lt_mul
    have := Nat.mul_le_mul_right b (show up b (j + 1) X % m + 1 ≤ m by omega)
    rw [Nat.add_mul] at this; omega
theorem put_up {b : Nat} (hb : 0 < b) (j U d : Nat) : put b j (U * b ^ (j + 1)) d = (d + b * U) * b ^ j := by
  unfold put
  rw [Nat.mul_div_cancel _ (Nat.pow_pos hb), Nat.pow_succ, show U * (b ^ j * b) % b ^ j = 0 by rw [← Nat.mul_assoc, Nat.mul_comm U, Nat.mul_assoc]; exact Nat.mul_mod_right _ _, Nat.zero_add, Nat.add_mul, Nat.mul_comm b U, Nat.mul_assoc U b, Nat.mul_comm b]
def RetHalf (w : World) (q r : Nat) (e : Ending) (w' : World) : Prop := ∃ A n c, e = .returned (.tuple #[.slice A n c, .int .i64 (r : Nat)]) ∧ NumAt .i64 65536 w' A n c q ∧ Below w.heap.size w w' ∧ Fresh w.heap.size A
end Go.Proofs.Ytflleaifmeiikaa
set_option linter.unusedVariables false
set_option linter.unusedSimpArgs false
namespace Go.Proofs.Ytflleaifmeiikaa
open Go.RowKit
set_option maxRecDepth 100000
theorem like_len {w w' : World} {A A' : Option Addr} {n c n' c' x : Nat} (h : NatAt w A n c x) (h' : NumAt .i64 65536 w' A' n' c' x) : (n' + 3) / 4 = n := by
  have hW : W = 65536 ^ 4 := by decide
  rcases Nat.eq_zero_or_pos n with h0 | h0
  · have hx := h.zero_iff.2 h0
    have := (h'.zero_iff (by decide)).1 hx
    omega
  · have hx : x ≠ 0 := fun e => by have := h.zero_iff.1 e; omega
    have h1 : 0 < n' := by
      rcases Nat.eq_zero_or_pos n' with h1 | h1
      · exact absurd ((h'.zero_iff (by decide)).2 h1) hx
      · exact h1
    have a1 := h.2 h0
    have a2 := h.lt
    have b1 := h'.2 h1
    have b2 := h'.lt
    rw [hW, ← Nat.pow_mul] at a1 a2
    have c1 := pow_lt_inv (b := 65536) (by decide) a1 b2
    have c2 := pow_lt_inv (b := 65536) (by decide) b1 a2
    omega
set_option maxHeartbeats 1000000 in
theorem law_Like (A : Option Addr) (n c x : Nat) (A' : Option Addr) (n' c' : Nat) (w : World) (h : NatAt w A n c x) (h' : NumAt .i64 65536 w A' n' c' x) (hn : n ≤ 17592186044416) (hn' : n' ≤ 4000000000) :
    Calls Try.prog 18 #[.agg #[.slice A n c], .slice A' n' c'] w (Ret w (.bool true)) := by
  have HL := Lib.hid (like_len h h')
  have B0 := Blk1.new w 25 (.slice A n c)
  have hbe : Below w.heap.size w (w.alloc (.cells #[.slice A n c] 25)) := nxa (Below.refl _ _) _
  have hx := h.to hbe
  have hr := h'.to hbe
  go_enter Try.func18, Try.ntmps18
  go_wp2_with fail
  refine (nat_Words A n c x _ hx hn).mono ?_
  rintro e w1 ⟨A1, c1, rfl, ho1, hb1⟩
  obtain ⟨A1', c1', hv, hd1, hf1⟩ := own_form ho1 h.lt
  cases hv
  go_wp2_with fail
  refine (ref2_Is A' n' c' x A1 n c1 x _ (hr.to hb1).1 hd1 hn').mono ?_
  rw [decide_eq_true (⟨HL.out, rfl⟩ : (n' + 3) / 4 = n ∧ x = x)]
  rintro e w2 ⟨rfl, hb2⟩
  have c0 := ((B0.to hb1).to hb2).cell
  go_wp2_with fail
  refine (nat_Len A n c _).mono ?_
  rintro e w3 ⟨rfl, hb3⟩
  go_wp2_with fail
  refine (ref2_Words A' n' c' x _ (((hr.to hb1).to hb2).to hb3).1 hn').mono ?_
  rw [HL.out]
  rintro e w4 ⟨A4, c4, rfl, ho4, hb4⟩
  go_wp2_with fail
  go_ret
  exact ⟨rfl, nx (nx (nx (nx hbe hb1) hb2) hb3) hb4⟩
end Go.Proofs.Ytflleaifmeiikaa
set_option linter.unusedVariables false
set_option linter.unusedSimpArgs false
namespace Go.Proofs.Ytflleaifmeiikaa
open Go.RowKit
set_option maxRecDepth 100000
theorem ref_len {w : World} {A : Option Addr} {n c x m : Nat} (h : NumAt .i64 65536 w A n c x) (hx : x < W ^ m) : n ≤ 4 * m := by
  refine h.le_of (by decide) _ ?_
  rw [show W = 65536 ^ 4 from by decide, ← Nat.pow_mul] at hx
  exact hx
theorem dig_oneAt (w : World) (g : Nat) (e : TypeId) (d : Nat) (hg : w.heap.size = g) (hd : d < W) : Dig .u64 W (w.alloc (.cells #[.int .u64 (d : Nat)] e)) (some ⟨g, 0, none⟩) 1 1 d := by
  subst hg
  have := Dig.lit w e [d] (by simpa using hd) (by simp)
  simpa [val] using this
theorem dig_one (w : World) (e : TypeId) (d : Nat) (hd : d < W) : Dig .u64 W (w.alloc (.cells #[.int .u64 (d : Nat)] e)) (some ⟨w.heap.size, 0, none⟩) 1 1 d := by
  have := Dig.lit w e [d] (by simpa using hd) (by simp)
  simpa [val] using this
end Go.Proofs.Ytflleaifmeiikaa
