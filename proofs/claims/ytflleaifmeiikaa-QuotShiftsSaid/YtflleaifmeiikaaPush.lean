/- One more digit at an owned row's end; numbers without a nought above, to any base. -/
import Derived.Test.YtflleaifmeiikaaMem
import Derived.IntWalk
import Derived.Maps.AppendAt
namespace Go.Proofs.Ytflleaifmeiikaa
open Go.RowKit
section
variable {P : Program}
theorem wpList_push {ops : Array Oper} {rest : List Oper} {o : Oper} {a : Act} {Q : Exit → Act → World → Prop} {wn : World} (hgd : o.guard = none) (s x : Operand) (t : TypeId)
    (ho : o.op = .call { callee := .builtin .append, args := #[s, x], argTypes := #[t, t] })
    (ws w0 : World) (e : TypeId) (i : TypeInfo) (z : Value) (bytes : Nat) (ht : P.underlying t = some (.slice e)) (hi : P.info? e = some i) (hz : i.zero = some z)
    (hsize : i.size = 1) (hby : i.bytes = bytes) (hzs : z.cells.size = 1) (k : IntKind) (b : Nat)
    (v : Value) (n X : Nat) (hs : a.eval s = v) (hown : w0.ownsRow ws.heap.size e 1 v n (dl k b n X)) (hbel : Below ws.heap.size ws w0)
    (u : Int) (hwn : wn = w0.alloc (.cells #[.int k u] e)) (d : Nat) (hu : u = (d : Nat)) (hd : d < b) (hX : X < b ^ n) (hx : a.eval x = .slice (some ⟨w0.heap.size, 0, none⟩) 1 1)
    (h63 : n + 1 ≤ maxLen) (hbytes : (n + 1) * bytes ≤ 140737488355328)
    (h : ∀ v' w1, w1.ownsRow ws.heap.size e 1 v' (n + 1) (dl k b (n + 1) (X + d * b ^ n)) → Below ws.heap.size ws w1 → wpList P ops Q rest (a.put o.dst v') w1) :
    wpList P ops Q (o :: rest) a wn := by
  subst hwn hu
  refine wpList_append_own _ hgd s x t ho ws.heap.size e i z 1 bytes ht hi hz hsize hby hzs (by decide) v n _ hs (hown.alloc _) ⟨w0.heap.size, 0, none⟩ 1 1 [.int k (d : Nat)] hx rfl (news_one _ _ _) (one_one _ _) h63 hbytes (Nat.le_trans hbel.size (by simp)) ?_
  intro v' w1 h1 h2 _
  refine h v' w1 ?_ ((hbel.alloc hbel.size _).grown h2 (Nat.le_trans hbel.size (by simp)) fun k hk => (hown.lt k hk).1)
  rw [← dl_snoc (Nat.lt_of_le_of_lt (Nat.zero_le _) hd) hX hd]
  exact h1
/-- append's second type is looked at only to see whether it is a number's -/
theorem append_types (w : World) (t t' ty e e' : TypeId) (ht : P.underlying t = some (.slice e)) (ht' : P.underlying t' = some (.slice e')) (v x : Value) :
    (Builtin.append_ #[t, t'] ty #[v, x]).run P w = (Builtin.append_ #[t, t] ty #[v, x]).run P w := by
  cases v <;> simp [Builtin.append_, run_underlying ht, run_underlying ht']
theorem wpList_append_dig2 {ops : Array Oper} {rest : List Oper} {o : Oper} {a : Act} {Q : Exit → Act → World → Prop} (w : World) (hgd : o.guard = none) (s x : Operand) (t t' : TypeId)
    (ho : o.op = .call { callee := .builtin .append, args := #[s, x], argTypes := #[t, t'] })
    (base : Nat) (e e' : TypeId) (i : TypeInfo) (z : Value) (bytes : Nat) (ht : P.underlying t = some (.slice e)) (ht' : P.underlying t' = some (.slice e')) (hi : P.info? e = some i) (hz : i.zero = some z)
    (hsize : i.size = 1) (hby : i.bytes = bytes) (hzs : z.cells.size = 1) (k : IntKind) (b : Nat)
    (v : Value) (n X : Nat) (hs : a.eval s = v) (hown : w.ownsRow base e 1 v n (dl k b n X)) (A : Option Addr) (m c Y : Nat) (hx : a.eval x = .slice A m c) (hd : Dig k b w A m c Y)
    (h63 : n + m ≤ maxLen) (hbytes : (n + m) * bytes ≤ 140737488355328) (hbase : base ≤ w.heap.size) (hb : 0 < b) (hX : X < b ^ n)
    (h : ∀ v' w', w'.ownsRow base e 1 v' (n + m) (dl k b (n + m) (X + Y * b ^ n)) → w.grownBy w' v.ownBlock → wpList P ops Q rest (a.put o.dst v') w') : wpList P ops Q (o :: rest) a w := by
  rw [← dl_append hb hX] at h
  rcases A with _ | ad
  · have hm : m = 0 := by
      rcases Nat.eq_zero_or_pos m with h0 | h0
      · exact h0
      · obtain ⟨g, o, h, _⟩ := hd.at_ h0
        cases h
    subst hm
    refine wpList_plain hgd fun K hK => ?_
    have hrun := (append_types (P := P) w t t' o.type e e' ht ht' v (.slice none 0 c)).trans (run_append_of_nil (P := P) w base t o.type e i 1 ht hi v n _ hown c)
    unfold Oper.wp execOp
    simp only [ho, resolve, invoke, builtin, Sem.run_bind, Sem.run_pure, Result.andThen_ok, List.map_toArray, List.map_cons, List.map_nil, hs, hx, hrun]
    refine hK _ _ (h v w ?_ (World.grownBy.refl w _))
    rw [dl_zero, List.append_nil]; exact hown
  · refine wpList_plain hgd fun K hK => ?_
    obtain ⟨v', w', hr, h2, h3, h4, h5⟩ := run_append_own_at (P := P) w base t o.type e i z 1 bytes ht hi hz hsize hby hzs (by decide) v n _ hown ad m c (dl k b m Y) (by rw [dl_length]; omega) (hd.news ad rfl) (dl_one _ _ _ _) h63 hbytes hbase
    have hrun := (append_types (P := P) w t t' o.type e e' ht ht' v (.slice (some ad) m c)).trans hr
    unfold Oper.wp execOp
    simp only [ho, resolve, invoke, builtin, Sem.run_bind, Sem.run_pure, Result.andThen_ok, List.map_toArray, List.map_cons, List.map_nil, hs, hx, hrun]
    exact hK _ _ (h v' w' h2 h3)
/-- the same at the operation itself, met in a region that draws its order -/
theorem wp_push {o : Oper} {a : Act} {K : Act → World → Prop} {Q : Exit → Act → World → Prop} {wn : World} (s x : Operand) (t : TypeId)
    (ho : o.op = .call { callee := .builtin .append, args := #[s, x], argTypes := #[t, t] })
    (ws w0 : World) (e : TypeId) (i : TypeInfo) (z : Value) (bytes : Nat) (ht : P.underlying t = some (.slice e)) (hi : P.info? e = some i) (hz : i.zero = some z)
    (hsize : i.size = 1) (hby : i.bytes = bytes) (hzs : z.cells.size = 1) (k : IntKind) (b : Nat)
    (v : Value) (n X : Nat) (hs : a.eval s = v) (hown : w0.ownsRow ws.heap.size e 1 v n (dl k b n X)) (hbel : Below ws.heap.size ws w0)
    (u : Int) (hwn : wn = w0.alloc (.cells #[.int k u] e)) (d : Nat) (hu : u = (d : Nat)) (hd : d < b) (hX : X < b ^ n) (hx : a.eval x = .slice (some ⟨w0.heap.size, 0, none⟩) 1 1)
    (h63 : n + 1 ≤ maxLen) (hbytes : (n + 1) * bytes ≤ 140737488355328)
    (h : ∀ v' w1, w1.ownsRow ws.heap.size e 1 v' (n + 1) (dl k b (n + 1) (X + d * b ^ n)) → Below ws.heap.size ws w1 → K (a.put o.dst v') w1) :
    Oper.wp P o a wn K Q := by
  subst hwn hu
  obtain ⟨v', w1, hr, h1, h2, -, -⟩ := run_append_own_at (P := P) (w0.alloc (.cells #[.int k (d : Nat)] e)) ws.heap.size t o.type e i z 1 bytes ht hi hz hsize hby hzs (by decide) v n _ (hown.alloc _) ⟨w0.heap.size, 0, none⟩ 1 1 [.int k (d : Nat)] rfl (news_one _ _ _) (one_one _ _) h63 hbytes (Nat.le_trans hbel.size (by simp))
  unfold Oper.wp execOp
  simp only [ho, resolve, invoke, builtin, Sem.run_bind, Sem.run_pure, Result.andThen_ok, List.map_toArray, List.map_cons, List.map_nil, hs, hx, hr]
  refine h v' w1 ?_ ((hbel.alloc hbel.size _).grown h2 (Nat.le_trans hbel.size (by simp)) fun k hk => (hown.lt k hk).1)
  rw [← dl_snoc (Nat.lt_of_le_of_lt (Nat.zero_le _) hd) hX hd]
  exact h1
end
/-- a number's digits, without a nought above -/
def NumAt (k : IntKind) (b : Nat) (w : World) (A : Option Addr) (n c x : Nat) : Prop := Dig k b w A n c x ∧ (0 < n → b ^ (n - 1) ≤ x)
section
variable {k : IntKind} {b : Nat} {w w' : World} {A A' : Option Addr} {n n' c c' x : Nat}
theorem NumAt.below {B : Nat} (h : NumAt k b w A n c x) (hb : Below B w w') (hB : w.heap.size ≤ B) : NumAt k b w' A n c x := ⟨h.1.below hb hB, h.2⟩
theorem NumAt.to (h : NumAt k b w A n c x) (hb : Below w.heap.size w w') : NumAt k b w' A n c x := h.below hb (Nat.le_refl _)
theorem NumAt.lt (h : NumAt k b w A n c x) : x < b ^ n := h.1.lt
theorem NumAt.nil (k : IntKind) (b : Nat) (w : World) : NumAt k b w none 0 0 0 := ⟨Dig.nil _ _ _ _ (by omega), fun h => absurd h (by omega)⟩
theorem NumAt.zero_iff (hb : 0 < b) (h : NumAt k b w A n c x) : x = 0 ↔ n = 0 := by
  constructor
  · rintro rfl
    rcases Nat.eq_zero_or_pos n with h0 | h0
    · exact h0
    · have := h.2 h0
      have := Nat.pow_pos (n := n - 1) hb
      omega
  · rintro rfl; exact h.1.zero
theorem pow_lt_inv' {b i j x : Nat} (hb : 0 < b) (h1 : b ^ i ≤ x) (h2 : x < b ^ j) : i < j := by
  rcases Nat.lt_or_ge i j with h | h
  · exact h
  · have := Nat.pow_le_pow_right hb h; omega
theorem NumAt.len_eq (hb : 0 < b) (h : NumAt k b w A n c x) {k' : IntKind} (h' : NumAt k' b w' A' n' c' x) : n = n' := by
  rcases Nat.eq_zero_or_pos n with h0 | h0
  · have hx := (h.zero_iff hb).2 h0
    rw [h0, (h'.zero_iff hb).1 hx]
  · rcases Nat.eq_zero_or_pos n' with h1 | h1
    · have hx := (h'.zero_iff hb).2 h1
      rw [h1, (h.zero_iff hb).1 hx]
    · have a := pow_lt_inv' hb (h.2 h0) h'.1.lt
      have b' := pow_lt_inv' hb (h'.2 h1) h.1.lt
      omega
theorem NumAt.le_of (hb : 0 < b) (h : NumAt k b w A n c x) (m : Nat) (hx : x < b ^ m) : n ≤ m := by
  rcases Nat.eq_zero_or_pos n with h0 | h0
  · omega
  · have := pow_lt_inv' hb (h.2 h0) hx
    omega
end
/-- a call's answer: a new number of the reference -/
def RetRef (b : Nat) (w : World) (x : Nat) (e : Ending) (w' : World) : Prop := ∃ A n c, e = .returned (.slice A n c) ∧ NumAt .i64 b w' A n c x ∧ Below w.heap.size w w' ∧ Fresh w.heap.size A
end Go.Proofs.Ytflleaifmeiikaa
