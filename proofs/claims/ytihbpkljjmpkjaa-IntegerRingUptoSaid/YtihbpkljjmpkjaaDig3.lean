/- The walks of package digits, third part: Text. -/
import Derived.Test.YtihbpkljjmpkjaaDig2
import Derived.Test.YtihbpkljjmpkjaaTxtLaw
import Derived.Test.YtihbpkljjmpkjaaBuild
import Derived.Test.YtihbpkljjmpkjaaFresh
import Derived.Test.YtihbpkljjmpkjaaKI
import Derived.Test.YtihbpkljjmpkjaaKD
import Derived.Test.YtihbpkljjmpkjaaKC
import Derived.Deep.LoopGhost
set_option linter.unusedVariables false
set_option linter.unusedSimpArgs false
namespace Go.Proofs.Ytihbpkljjmpkjaa
open Go.RowKit
set_option maxRecDepth 100000
theorem byteCells_snoc (l : List UInt8) (d : Nat) (hd : d < 10) : Lib.byteCells l ++ [.int .u8 ((48 + d : Nat) : Int)] = Lib.byteCells (l ++ [UInt8.ofNat (48 + d)]) := by
  unfold Lib.byteCells
  rw [List.map_append]
  congr 1
  simp only [List.map_cons, List.map_nil, UInt8.toNat_ofNat']
  rw [Nat.mod_eq_of_lt (by omega)]
theorem chunk_dg (x g i : Nat) (hi : i < 19) : x / 10 ^ (19 * g) % 10 ^ 19 / 10 ^ i % 10 = dg 10 (19 * g + i) x := by
  unfold dg
  rw [Nat.pow_add, ← Nat.div_div_eq_div_mul]
  generalize x / 10 ^ (19 * g) = y
  have e : 10 ^ 19 = 10 ^ i * (10 * 10 ^ (18 - i)) := by
    rw [← Nat.pow_succ', ← Nat.pow_add]; congr 1; omega
  rw [e, Nat.mod_mul_right_div_self, Nat.mod_mul_right_mod]
theorem rounds_le {x g n : Nat} (h : x < W ^ n) (hg : x / 10 ^ (19 * g) ≠ 0) : g ≤ 2 * n := by
  rcases Nat.lt_or_ge (2 * n) g with h1 | h1
  · exfalso
    apply hg
    apply Nat.div_eq_of_lt
    refine Nat.lt_of_lt_of_le h ?_
    have h2 : W ≤ 10 ^ 38 := by unfold W; decide
    refine Nat.le_trans (Nat.pow_le_pow_left h2 n) ?_
    rw [← Nat.pow_mul]
    exact Nat.pow_le_pow_right (by decide) (by omega)
  · exact h1
theorem digits_le {x n N : Nat} (h : x < W ^ n) (hN : IsLen 10 x N) : N ≤ 20 * n := by
  rcases Nat.lt_or_ge (20 * n) N with h1 | h1
  · exfalso
    have h2 := hN.2 (by omega)
    have h3 : W ^ n ≤ 10 ^ (20 * n) := by rw [Nat.pow_mul]; exact Nat.pow_le_pow_left (by unfold W; decide) n
    have h4 := Nat.pow_le_pow_right (show 0 < 10 by decide) (show 20 * n ≤ N - 1 by omega)
    omega
  · exact h1
/-- a number that lies elsewhere while a row grows -/
theorem NatAt.grown {w w' : World} {A : Option Addr} {n c x : Nat} {row : Option Nat} (h : NatAt w A n c x) (hg : w.grownBy w' row) (hne : 0 < n → ∀ a, A = some a → some a.block ≠ row) : NatAt w' A n c x := by
  refine ⟨⟨h.1.1, h.1.2.1, h.1.2.2.1, fun hn => ?_⟩, h.2⟩
  obtain ⟨g, o, e, hg', hc⟩ := h.1.2.2.2 hn
  exact ⟨g, o, e, Nat.lt_of_lt_of_le hg' hg.size, fun j hj => (World.cell?_of_block (hg.block g hg' (hne hn _ e))).trans (hc j hj)⟩
theorem grown_of_alloc {w w' : World} {o : Obj} {row : Option Nat} (h : (w.alloc o).grownBy w' row) : w.grownBy w' row :=
  ⟨h.os, h.tape, h.output, Nat.le_trans (by simp) h.size, fun k hk hr => (h.block k (by simp; omega) hr).trans (Below.heap_alloc w o k hk)⟩
section
variable {P : Program}
theorem wpList_push2 {ops : Array Oper} {rest : List Oper} {o : Oper} {a : Act} {Q : Exit → Act → World → Prop} {wn : World} (hgd : o.guard = none) (s x : Operand) (t : TypeId)
    (ho : o.op = .call { callee := .builtin .append, args := #[s, x], argTypes := #[t, t] })
    (base : Nat) (w0 : World) (e : TypeId) (i : TypeInfo) (z : Value) (bytes : Nat) (ht : P.underlying t = some (.slice e)) (hi : P.info? e = some i) (hz : i.zero = some z)
    (hsize : i.size = 1) (hby : i.bytes = bytes) (hzs : z.cells.size = 1) (k : IntKind) (b : Nat)
    (v : Value) (n X : Nat) (hs : a.eval s = v) (hown : w0.ownsRow base e 1 v n (dl k b n X)) (hbase : base ≤ w0.heap.size)
    (u : Int) (hwn : wn = w0.alloc (.cells #[.int k u] e)) (d : Nat) (hu : u = (d : Nat)) (hd : d < b) (hX : X < b ^ n) (hx : a.eval x = .slice (some ⟨w0.heap.size, 0, none⟩) 1 1)
    (h63 : n + 1 ≤ maxLen) (hbytes : (n + 1) * bytes ≤ 140737488355328)
    (h : ∀ v' w1, w1.ownsRow base e 1 v' (n + 1) (dl k b (n + 1) (X + d * b ^ n)) → w0.grownBy w1 v.ownBlock → (v'.ownBlock = v.ownBlock ∨ ∃ g, v'.ownBlock = some g ∧ w0.heap.size ≤ g) → wpList P ops Q rest (a.put o.dst v') w1) :
    wpList P ops Q (o :: rest) a wn := by
  subst hwn hu
  refine wpList_plain hgd fun K hK => ?_
  obtain ⟨v', w1, hr, h1, h2, -, h4⟩ := run_append_own_at (P := P) (w0.alloc (.cells #[.int k (d : Nat)] e)) base t o.type e i z 1 bytes ht hi hz hsize hby hzs (by decide) v n _ (hown.alloc _) ⟨w0.heap.size, 0, none⟩ 1 1 [.int k (d : Nat)] rfl (news_one _ _ _) (one_one _ _) h63 hbytes (Nat.le_trans hbase (by simp))
  unfold Oper.wp execOp
  simp only [ho, resolve, invoke, builtin, Sem.run_bind, Sem.run_pure, Result.andThen_ok, List.map_toArray, List.map_cons, List.map_nil, hs, hx, hr]
  refine hK _ _ (h v' w1 ?_ (grown_of_alloc h2) (h4.imp id fun h5 => ⟨_, h5, by simp⟩))
  rw [← dl_snoc (Nat.lt_of_le_of_lt (Nat.zero_le _) hd) hX hd]
  exact h1
end
def RetStr (w : World) (l : List UInt8) (e : Ending) (w' : World) : Prop := e = .returned (.string ⟨l.toArray⟩) ∧ Below w.heap.size w w'
set_option maxHeartbeats 4000000 in
theorem digits_Text_zero (A : Option Addr) (n c x : Nat) (w : World) (h : NatAt w A n c x) (hx : x = 0) :
    Calls Try.prog 52 #[.agg #[.slice A n c]] w (RetStr w [48]) := by
  have HZ := Lib.hid (decide_eq_true hx)
  clear hx
  go_enter Try.func52, Try.ntmps52
  go_wp2_with fail
  have X1 := Blk1.newAt w (w.heap.size) 27 (.slice A n c) (by first | rfl | simp)
  have hbwe1 : Below w.heap.size w (w.alloc (.cells #[.slice A n c] 27)) := bW
  generalize (w.alloc (.cells #[.slice A n c] 27)) = we1 at X1 hbwe1  ⊢
  refine (nat_Zero _ _ _ _ _ (h.to bW)).mono ?_
  rw [HZ.out]
  rintro e w1 ⟨rfl, hb1⟩
  go_wp2_with fail
  go_ret
  exact ⟨rfl, bW⟩
set_option maxHeartbeats 4000000 in
theorem digits_Text (A : Option Addr) (n c x : Nat) (w : World) (h : NatAt w A n c x) (hn : n ≤ 1099511627776) (N : Nat) (hN : IsLen 10 x N) (hx : 0 < x) :
    Calls Try.prog 52 #[.agg #[.slice A n c]] w (RetStr w (txt N x)) := by
  have HZ := Lib.hid (decide_eq_false (show ¬ x = 0 by omega))
  obtain ⟨i0, hi, hz0, hz1, hz2⟩ := info_parts info_u8
  have HN := Lib.hid hN
  clear hN
  go_enter Try.func52, Try.ntmps52
  go_wp2_with fail
  have X1 := Blk1.newAt w (w.heap.size) 27 (.slice A n c) (by first | rfl | simp)
  have hbwe1 : Below w.heap.size w (w.alloc (.cells #[.slice A n c] 27)) := bW
  generalize (w.alloc (.cells #[.slice A n c] 27)) = we1 at X1 hbwe1  ⊢
  refine (nat_Zero _ _ _ _ _ (h.to bW)).mono ?_
  rw [HZ.out]
  rintro e w1 ⟨rfl, hb1⟩
  go_wp2_with fail
  go_loopg [3] x (fun k t3 wr => ∃ g A1 n1 c1, Blk1 wr w.heap.size 27 (.slice A1 n1 c1) ∧ NatAt wr A1 n1 c1 k ∧ k = x / 10 ^ (19 * g) ∧ n1 ≤ n ∧ wr.ownsRow (w.heap.size + 1) 5 1 t3 (19 * g) (dl .u8 256 (19 * g) (asc 256 10 48 (19 * g) x)) ∧ Below w.heap.size w wr ∧ (0 < n1 → ∀ a, A1 = some a → some a.block ≠ t3.ownBlock))
  case atStart => exact ⟨0, A, n, c, X1.to bW, h.to bW, by simp, Nat.le_refl _, own_nil _ _ _ _ _, bW, fun _ a _ e => by cases e⟩
  case round =>
    clear X1
    obtain ⟨g, A1, n1, c1, B1, h1, hk, hn1, ho, hbl, hne⟩ := hrel
    have B1c := B1.cell
    rcases Nat.eq_zero_or_pos gk with h0 | h0
    · have hx19 : x < 10 ^ (19 * g) := by
        rcases Nat.lt_or_ge x (10 ^ (19 * g)) with h5 | h5
        · exact h5
        · have := Nat.div_pos h5 (Nat.pow_pos (by decide)); omega
      have HZ1 := Lib.hid (decide_eq_true h0)
      obtain ⟨A3, c3, rfl, h3, hf3⟩ := own_form ho (asc_lt (by decide) (by decide) _ _)
      have H10 := Lib.hid hk
      have m1 := h3.max
      have m2 := h3.cap
      clear hk h0
      go_wp2_with fail
      refine (nat_Zero _ _ _ _ _ h1).mono ?_
      rw [HZ1.out]
      rintro e w1 ⟨rfl, hb1⟩
      go_wp2_with fail
      have FB := Lib.fresh_isBuilder 113 5 w1
      have ba : Below w1.heap.size w1 (w1.alloc (.cells #[.pointer none, .slice none 0 0] 113)) := nxa (Below.refl _ _) _
      have hbA := nx (nx hbl hb1) ba
      have hwbs := ba.size
      have h4 := (h3.to hb1).to ba
      have hgl : 0 < 19 * g → ∀ a, A3 = some a → a.block < w1.heap.size := by
        intro h0 a ha
        obtain ⟨g9, o9, e9, hg9, _⟩ := (h3.to hb1).at_ h0
        rw [e9] at ha
        cases ha
        exact hg9
      have hGB : w.heap.size ≤ w1.heap.size := (nx hbl hb1).size
      clear ba hb1 h1 B1 B1c hbl hne ho hf3 h3
      generalize w1.alloc (.cells #[.pointer none, .slice none 0 0] 113) = wb at FB hbA h4 hwbs ⊢
      have hGw : w1.heap.size ≤ wb.heap.size := hwbs
      generalize w1.heap.size = GB at FB hGB hgl hGw ⊢
      have hN0 := isLen_pos HN.out hx
      have hN20 := digits_le h.lt HN.out
      have hN19 : N ≤ 19 * g := by
        rcases Nat.lt_or_ge (19 * g) N with h5 | h5
        · have := HN.out.2 hN0
          have := Nat.pow_le_pow_right (show 0 < 10 by decide) (show 19 * g ≤ N - 1 by omega)
          omega
        · exact h5
      go_loop [8] (fun t8 => ∃ j : Nat, t8 = .int .i64 (j : Int) ∧ N ≤ j + 1 ∧ j < 19 * g) (fun t => (intOf t).toNat)
      case atStart => exact ⟨19 * g - 1, by go_num, by omega, by omega⟩
      case round =>
        obtain ⟨j, rfl, hj1, hj2⟩ := hrel
        obtain ⟨g3, o3, rfl, hg3, hc⟩ := h4.at_ (by omega)
        have cj := hc j hj2
        rw [dg_asc (by decide) (by decide) hj2] at cj
        have jI : (j : Int) < 19 * (g : Int) := by omega
        have hd10 := dg_lt (b := 10) (by decide) j x
        obtain ⟨D, hD⟩ : ∃ D, D = dg 10 j x := ⟨_, rfl⟩
        rw [← hD] at cj hd10
        by_cases hD0 : D = 0
        · have z1 : ((48 + D : Nat) : Int) = 48 := by omega
          rw [z1] at cj
          have hNj : N ≤ j := by
            rcases Nat.lt_or_ge j N with h5 | h5
            · have e5 : N = j + 1 := by omega
              exact absurd (hD.symm.trans hD0) (isLen_top (by decide) (e5 ▸ HN.out))
            · exact h5
          clear hD hc
          go_wp2_with fail
          go_round
          case rel => exact ⟨j - 1, by go_num, by omega, by omega⟩
          case measure => simp [intOf]; omega
        · have hNj : N = j + 1 := isLen_unique (by decide) HN.out (isLen_of_top (b := 10) (x := x) (n := j) (by decide) (Nat.lt_of_lt_of_le HN.out.1 (Nat.pow_le_pow_right (by decide) hj1)) (by rw [← hD]; exact hD0))
          have z1 : (48 + (D : Int) == 48) = false := by simp; omega
          have hg4 := hgl (by omega) _ rfl
          have HC := Lib.hid hc
          clear hD hgl hc
          go_wp2_with fail
          clear cj z1
          have hc := HC.out
          have HNj := Lib.hid hNj
          clear HC hNj
          go_loopw [8] (fun t8 wr => ∃ m : Nat, m ≤ N ∧ t8 = .int .i64 ((N : Int) - 1 - (m : Int)) ∧ Lib.IsBuilder 113 5 GB GB (Lib.byteCells (txtTo N m x)) wr ∧ Below GB wb wr) (fun t _ => (intOf t + 1).toNat)
          case atStart => exact ⟨0, Nat.zero_le _, by rw [HNj.out]; simp, FB, Below.refl _ _⟩
          case round =>
            obtain ⟨m, hm, rfl, hB, hb4⟩ := hrel
            have hBl : GB < wr.heap.size := by rcases hB with k | k <;> exact k.lt
            by_cases hlt : m < N
            · have hci := hc (N - 1 - m) (by omega)
              rw [dg_asc (by decide) (by decide) (by omega)] at hci
              have hcw := (hb4.cell (p := ⟨g3, o3 + (N - 1 - m), none⟩) hg4).trans hci
              have ht := txtTo_succ N m x
              have hd10 := dg_lt (b := 10) (by decide) (N - 1 - m) x
              have hlen := txtTo_length N m x
              obtain ⟨q, hq⟩ : ∃ q, q = N - 1 - m := ⟨_, rfl⟩
              have qI : (N : Int) - 1 - (m : Int) = (q : Int) := by omega
              have q1 : (q : Int) < 19 * (g : Int) := by omega
              rw [← hq] at hcw ht hd10
              rw [qI]
              have HQ := Lib.hid hq
              clear hc hci hq qI
              go_wp2_with fail
              refine (builder_WriteByte GB GB _ _ _ hB (by simp only [Lib.byteCells, List.length_map, hlen]; omega) (Nat.le_of_lt hBl)).mono ?_
              rintro e w7 ⟨rfl, hB7, hb7⟩
              have hsn := byteCells_snoc (txtTo N m x) _ hd10
              rw [← ht] at hsn
              have hI7 : Lib.IsBuilder 113 5 GB GB (Lib.byteCells (txtTo N (m + 1) x)) w7 := by
                rw [← hsn]
                exact .inr hB7
              have hb8 := hb4.trans hb7
              clear hB hb4 hB7 hb7 hsn ht hcw hBl hlen
              go_wp2_with fail
              go_roundw
              case rel => exact ⟨m + 1, by omega, by rw [show (q : Int) - 1 = (N : Int) - 1 - ((m + 1 : Nat) : Int) by have := HQ.out; omega], hI7, hb8⟩
              case measure => simp [intOf]
            · obtain rfl : m = N := by omega
              rw [show (m : Int) - 1 - (m : Int) = -1 by omega]
              clear hc
              go_wp2_with fail
              refine (builder_String GB GB _ _ hB (Nat.le_of_lt hBl)).mono ?_
              rintro e w7 ⟨rfl, hb7⟩
              have hbz := (hbA.trans (hb4.mono hGB)).trans (hb7.mono hGB)
              go_wp2_with fail
              go_ret
              exact ⟨rfl, hbz⟩
    · have HZ1 := Lib.hid (decide_eq_false (show ¬ gk = 0 by omega))
      have hg2 : g ≤ 2 * n := rounds_le h.lt (by rw [← hk]; omega)
      have H10 := Lib.hid hk
      clear hk
      go_wp2_with fail
      refine (nat_Zero _ _ _ _ _ h1).mono ?_
      rw [HZ1.out]
      rintro e w1 ⟨rfl, hb1⟩
      have B1c := (B1.to hb1).cell
      go_wp2_with fail
      refine (quot_ByWord_own _ _ _ _ 10000000000000000000 _ (h1.to hb1) (by decide) (by unfold W; decide) (by omega)).mono ?_
      rintro e w2 ⟨A2, n2, c2, rfl, h2, hb2, hf2⟩
      go_wp2_with fail
      have Z4 := Blk1.new w2 27 (.slice A2 n2 c2)
      have Z1 := ((B1.to hb1).to hb2).alloc (.cells #[.slice A2 n2 c2] 27)
      have ba : Below w2.heap.size w2 (w2.alloc (.cells #[.slice A2 n2 c2] 27)) := nxa (Below.refl _ _) _
      have k2 := h2.to ba
      have ho2 := own_below (own_below (own_below ho hb1) hb2) ba
      have hbz := nx (nx (nx hbl hb1) hb2) ba
      have hnz : 0 < n2 → ∀ a, A2 = some a → some a.block ≠ u3.ownBlock := fun _ a ha e => by
        have := hf2 a ha
        have := (ho.lt _ e.symm).2
        have := hb1.size
        omega
      have hn4 : some w2.heap.size ≠ u3.ownBlock := fun e => by
        have := (ho.lt _ e.symm).2
        have := hb1.size
        have := hb2.size
        omega
      have hn1 : w.heap.size < w2.heap.size := by have := B1.lt; have := hb1.size; have := hb2.size; omega
      clear ba hb1 hb2 B1 B1c h2 ho hbl hf2 h1 hne
      generalize w2.alloc (.cells #[.slice A2 n2 c2] 27) = wz at Z4 Z1 k2 ho2 hbz ⊢
      generalize w2.heap.size = G4 at Z4 hn4 hn1 ⊢
      go_loopw [3, 5, 20] (fun t3 t5 t20 wr => ∃ i : Nat, i ≤ 19 ∧ t20 = .int .i64 (i : Int) ∧ t5 = .int .u64 ((gk % 10000000000000000000 / 10 ^ i : Nat) : Int) ∧ wr.ownsRow (w.heap.size + 1) 5 1 t3 (19 * g + i) (dl .u8 256 (19 * g + i) (asc 256 10 48 (19 * g + i) x)) ∧ Blk1 wr w.heap.size 27 (.slice A1 n1 c1) ∧ Blk1 wr G4 27 (.slice A2 n2 c2) ∧ NatAt wr A2 n2 c2 (gk / 10000000000000000000) ∧ Below w.heap.size w wr ∧ (0 < n2 → ∀ a, A2 = some a → some a.block ≠ t3.ownBlock) ∧ some G4 ≠ t3.ownBlock) (fun _ _ t _ => 19 - (intOf t).toNat)
      case atStart => exact ⟨0, by omega, rfl, by rw [Nat.pow_zero, Nat.div_one]; rfl, ho2, Z1, Z4, k2, hbz, hnz, hn4⟩
      case round =>
        clear ho2 Z1 Z4 k2 hbz hnz hn4
        obtain ⟨i, hi19, rfl, rfl, ho, Z1, Z4, k2, hb, hnz, hn4⟩ := hrel
        by_cases hlt : i < 19
        · have iI : (i : Int) < 19 := by omega
          obtain ⟨D, hD⟩ : ∃ D, D = dg 10 (19 * g + i) x := ⟨_, rfl⟩
          obtain ⟨T, hT⟩ : ∃ T, T = gk % 10000000000000000000 / 10 ^ i := ⟨_, rfl⟩
          have hTD : T % 10 = D := by rw [hT, hD, H10.out]; exact chunk_dg x g i hlt
          have hTn : T / 10 = gk % 10000000000000000000 / 10 ^ (i + 1) := by rw [hT, Nat.pow_succ, Nat.div_div_eq_div_mul]
          have hTW : T < W := by
            rw [hT]
            have : gk % 10000000000000000000 < 10000000000000000000 := Nat.mod_lt _ (by decide)
            have := Nat.div_le_self (gk % 10000000000000000000) (10 ^ i)
            unfold W; omega
          have hD10 : D < 10 := by omega
          have s5 : asc 256 10 48 (19 * g + i) x + (48 + D) * 256 ^ (19 * g + i) = asc 256 10 48 (19 * g + (i + 1)) x := by rw [hD]; rfl
          have S5 := Lib.hid s5
          have HTn := Lib.hid hTn
          have m1 : (T : Int) % 10 = (D : Int) := by omega
          have m2 : (T : Int).tmod 10 = (D : Int) := by rw [Int.tmod_eq_emod_of_nonneg (by omega)]; exact m1
          have u1 : IntKind.u8.wrap (48 + (D : Int)) = 48 + (D : Int) := IntWalk.u8_in _ (by omega)
          have hal := asc_lt (B := 256) (b := 10) (a := 48) (by decide) (by decide) (19 * g + i) x
          rw [← hT]
          clear hD hT s5 hTn hTD
          go_wp2_with (at_builtin; go_loud (refine wpList_push2 rfl _ _ 80 rfl (w.heap.size + 1) _ 5 i0 (.int .u8 0) 1 Try.underlying80 hi hz0 hz1 hz2 rfl .u8 256 _ (19 * g + i) (asc 256 10 48 (19 * g + i) x) rfl ho (by have := Z1.lt; omega) _ rfl (48 + D) (by push_cast; rfl) (by omega) hal rfl (by unfold maxLen; omega) (by omega) ?_))
          intro v' w5 ho5 hg5 hob
          rw [S5.out] at ho5
          have Z1' := Z1.grown hg5 (fun e => by have := (ho.lt _ e.symm).1; omega)
          have Z4' := Z4.grown hg5 hn4
          have k2' := k2.grown hg5 hnz
          have hb' := hb.grown hg5 (by have := Z1.lt; omega) (fun k hk => by have := (ho.lt k hk).1; omega)
          have hnz' : 0 < n2 → ∀ a, A2 = some a → some a.block ≠ v'.ownBlock := by
            intro h0 a ha e
            rcases hob with e1 | ⟨q, e1, h2⟩
            · exact hnz h0 a ha (e.trans e1)
            · obtain ⟨g9, o9, e9, hg9, _⟩ := k2.1.at_ h0
              rw [e1] at e
              rw [e9] at ha
              cases ha
              have := Option.some.inj e
              dsimp only at this
              omega
          have hn4' : some G4 ≠ v'.ownBlock := by
            intro e
            rcases hob with e1 | ⟨q, e1, h2⟩
            · exact hn4 (e.trans e1)
            · rw [e1] at e
              have := Option.some.inj e
              have := Z4.lt
              omega
          clear hob hg5 ho Z1 Z4 k2 hb hnz hn4
          go_wp2_with fail
          go_roundw
          case rel => exact ⟨i + 1, by omega, by go_num, by rw [← HTn.out, show ((T : Int) / 10) = ((T / 10 : Nat) : Int) by omega, wrap_nat, Nat.mod_eq_of_lt (by omega)], ho5, Z1', Z4', k2', hb', hnz', hn4'⟩
          case measure => simp [intOf]; omega
        · obtain rfl : i = 19 := by omega
          have e4 := Z4.cell
          have e1 := Z1.cell
          have f1 := Z1.free
          have ks := k2.put_ e1 (.slice A2 n2 c2)
          have bs := hb.setCell (p := ⟨w.heap.size, 0, none⟩) (Nat.le_refl _) (.slice A2 n2 c2)
          have os := ho.kept (row := some w.heap.size) (gb_set (gb_refl _ _) (p := ⟨w.heap.size, 0, none⟩) rfl (.slice A2 n2 c2)) (.inr fun e => by have := (ho.lt _ e).1; omega)
          have Zs := Z1.set (.slice A2 n2 c2)
          go_wp2_with fail
          go_roundg (gk / 10000000000000000000)
          case measure => exact Nat.div_lt_self h0 (by decide)
          case rel =>
            refine ⟨g + 1, A2, n2, c2, Zs, ks, ?_, k2.le_of n ?_, os, bs, hnz⟩
            · rw [H10.out, Nat.div_div_eq_div_mul, show 19 * (g + 1) = 19 * g + 19 from rfl, Nat.pow_add]
            · rw [H10.out]; exact Nat.lt_of_le_of_lt (Nat.le_trans (Nat.div_le_self _ _) (Nat.div_le_self _ _)) h.lt
theorem digits_Text_any (A : Option Addr) (n c x : Nat) (w : World) (h : NatAt w A n c x) (hn : n ≤ 1099511627776) :
    Calls Try.prog 52 #[.agg #[.slice A n c]] w (RetStr w (tx x)) := by
  rcases Nat.eq_zero_or_pos x with h0 | h0
  · rw [tx_zero h0]; exact digits_Text_zero A n c x w h h0
  · rw [tx_pos h0]; exact digits_Text A n c x w h hn _ (tlen_is (by decide) x) h0
end Go.Proofs.Ytihbpkljjmpkjaa
