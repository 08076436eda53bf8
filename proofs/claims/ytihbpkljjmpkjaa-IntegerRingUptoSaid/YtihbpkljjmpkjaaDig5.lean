/- The walks of package digits and actuaryref06 in one form each; bytes as strings. -/
import Derived.Test.YtihbpkljjmpkjaaDig4
import Derived.Test.YtihbpkljjmpkjaaRef6b
import Derived.Test.YtihbpkljjmpkjaaTxtLaw2
set_option linter.unusedVariables false
set_option linter.unusedSimpArgs false
namespace Go.Proofs.Ytihbpkljjmpkjaa
open Go.RowKit
set_option maxRecDepth 100000
theorem pv_lt (n v : Nat) : pv n v < 256 ^ n := by
  unfold pv
  split
  · exact rv_lt (by decide) _ _
  · exact Nat.pow_pos (by decide)
theorem pv_words (n v : Nat) : pv n v < W ^ ((n + 7) / 8) := Nat.lt_of_lt_of_le (pv_lt n v) (words_fit n)
theorem pv_ref (n v : Nat) : pv n v < 65536 ^ n := Nat.lt_of_lt_of_le (pv_lt n v) (Nat.pow_le_pow_left (by decide) n)
theorem rdv_lt (s : ByteArray) : rdv s < 10 ^ s.size := by
  unfold rdv
  split
  · rename_i h; exact dv_lt h.2.2
  · exact Nat.pow_pos (by decide)
theorem rdv_words (s : ByteArray) : rdv s < W ^ (s.size / 19 + 1) := by
  unfold rdv
  split
  · rename_i h; exact dv_words h.2.2
  · exact Nat.pow_pos W_pos
theorem rdv_ref (s : ByteArray) : rdv s < 65536 ^ s.size := Nat.lt_of_lt_of_le (rdv_lt s) (Nat.pow_le_pow_left (by decide) _)
/-- bytes as a string -/
theorem conv_dig {P : Program} {w : World} {src dst e : TypeId} {A : Option Addr} {n c v : Nat} (h : Dig .u8 256 w A n c v) (hs : P.underlying src = some (.slice e)) (he : P.underlying e = some (.int .u8)) (hd : P.underlying dst = some .string) :
    (convert src dst (.slice A n c)).run P w = .ok (.string ⟨(bl n v).toArray⟩) w := by
  rcases A with _ | a
  · have hn : n = 0 := by
      rcases Nat.eq_zero_or_pos n with h0 | h0
      · exact h0
      · obtain ⟨g, o, e1, _⟩ := h.at_ h0
        cases e1
    subst hn
    exact run_convert_bytes_nil w src e hs he 0 c dst hd
  · have hl := bl_length n v
    have := run_convert_bytes_back w src dst e a c (bl n v) hs he hd (fun j hj => ?_)
    · rw [hl] at this; exact this
    · have hj2 : j < n := by rw [hl] at hj; exact hj
      obtain ⟨g, o, e1, hg, hc⟩ := h.at_ (by omega)
      cases e1
      rw [Addr.add_lit, hc j hj2]
      have hd := dg_lt (b := 256) (by decide) j v
      have h5 : (bl n v)[j]? = some (UInt8.ofNat (dg 256 j v)) := by unfold bl; rw [List.getElem?_map, List.getElem?_range hj2]; rfl
      rw [List.getElem?_eq_getElem hj] at h5
      rw [Option.some.inj h5, UInt8.toNat_ofNat', Nat.mod_eq_of_lt (by omega)]
theorem own8_dig {w : World} {n x : Nat} {e : Ending} {w' : World} (hx : x < 256 ^ n) (h : RetOwn8 w n x e w') : RetDig .u8 256 w n x e w' := by
  obtain ⟨A, c, rfl, ho, hb⟩ := h
  obtain ⟨A2, c2, hv, h2, hf⟩ := own_form ho hx
  cases hv
  exact ⟨A, c, rfl, h2, hb, hf⟩
theorem Dig.lit8 (w : World) (e : TypeId) (l : List Nat) (hl : ∀ d ∈ l, d < 256) (hn : l.length ≤ 9223372036854775807) : Dig .u8 256 (w.alloc (.cells (l.map fun d : Nat => Value.int .u8 (d : Int)).toArray e)) (some ⟨w.heap.size, 0, none⟩) l.length l.length (val 256 l) := by
  refine ⟨val_lt (by decide) hl, Nat.le_refl _, hn, fun _ => ⟨w.heap.size, 0, rfl, by simp, fun j hj => ?_⟩⟩
  rw [Nat.zero_add, World.cell?_alloc_new, dg_val (by decide) hl hj]
  simp [List.getD_eq_getElem?_getD, hj]
theorem rdv_tx (x : Nat) : rdv ⟨(tx x).toArray⟩ = x := by
  unfold rdv
  rw [if_pos (okd_tx x)]
  exact dv_tx x
theorem tx_rdv {s : ByteArray} (h : okd s) : tx (rdv s) = s.data.toList := by
  unfold rdv
  rw [if_pos h]
  exact tx_dv h
theorem bsize_pv {n v : Nat} (h : okb n v) (hv : v < 256 ^ n) : bsize (pv n v) = n := by
  unfold pv
  rw [if_pos h]
  exact isLen_unique (by decide) (bsize_len _) (isLen_rv h hv)
theorem rv_pv {n v : Nat} (h : okb n v) (hv : v < 256 ^ n) : rv 256 n (pv n v) = v := by
  unfold pv
  rw [if_pos h, rv_rv (by decide) hv]
theorem bsize_le {x n : Nat} (h : x < W ^ n) : bsize x ≤ 8 * n := by
  have hbl : blen x ≤ 64 * n := blen_le_of_lt (by rw [← W_pow]; exact h)
  unfold bsize; omega
theorem tw_fit {x n : Nat} (h : x < W ^ n) : (ByteArray.mk (tx x).toArray).size ≤ 20 * n + 1 := by
  rw [str_size, tx_length]
  have := digits_le h (tlen_is (by decide) x)
  unfold tw
  omega
theorem digits_Text_as (s : ByteArray) (A : Option Addr) (n c x : Nat) (w : World) (h : NatAt w A n c x) (hs : tx x = s.data.toList) (hn : n ≤ 1099511627776) :
    Calls Try.prog 52 #[.agg #[.slice A n c]] w (Ret w (.string s)) := by
  refine (digits_Text_any A n c x w h hn).mono fun e w' h => ?_
  obtain ⟨rfl, hb⟩ := h
  exact ⟨by rw [hs], hb⟩
end Go.Proofs.Ytihbpkljjmpkjaa
