/- Plain mathematics of the stream (bytes, turned), and byte buffers in memory; no program in sight. -/
import Derived.Test.YtilbebjjmnncdaaDoorPlain
import Derived.Laws.IdiomStrings
namespace Go.Proofs.YtilbebjjmnncdaaDoor
open Go.RowKit

/-- the stream's byte at a place. -/
def sx (k nonce : List UInt8) (n : Wd) (i : Nat) : UInt8 := bt (chacha k nonce (n + BitVec.ofNat 32 (i / 64))) (i % 64)
/-- the first m bytes of data, turned; the others as they are. -/
def xorTo (k nonce : List UInt8) (n : Wd) (data : List UInt8) : Nat → List UInt8
  | 0 => data
  | m + 1 => (xorTo k nonce n data m).set m (bt data m ^^^ sx k nonce n m)
/-- bytes, turned. -/
def xorS (k nonce : List UInt8) (n : Wd) (data : List UInt8) : List UInt8 := xorTo k nonce n data data.length
theorem xorTo_len (k nonce : List UInt8) (n : Wd) (data : List UInt8) (m : Nat) : (xorTo k nonce n data m).length = data.length := by
  induction m with
  | zero => rfl
  | succ m ih => simp [xorTo, ih]
theorem xorS_len (k nonce : List UInt8) (n : Wd) (data : List UInt8) : (xorS k nonce n data).length = data.length := xorTo_len _ _ _ _ _
theorem bt_set (l : List UInt8) (i j : Nat) (x : UInt8) (h : i < l.length) : bt (l.set i x) j = if i = j then x else bt l j := by
  unfold bt; simp only [List.getD_eq_getElem?_getD, List.getElem?_set]; split <;> simp_all
theorem xorTo_at (k nonce : List UInt8) (n : Wd) (data : List UInt8) (m : Nat) (hm : m ≤ data.length) (j : Nat) :
    bt (xorTo k nonce n data m) j = if j < m then bt data j ^^^ sx k nonce n j else bt data j := by
  induction m with
  | zero => simp [xorTo]
  | succ m ih =>
    rw [xorTo, bt_set _ _ _ _ (by rw [xorTo_len]; omega), ih (by omega)]
    by_cases h : m = j
    · subst h; simp
    · rw [if_neg h]
      by_cases h2 : j < m
      · rw [if_pos h2, if_pos (by omega)]
      · rw [if_neg h2, if_neg (by omega)]
theorem xorS_at (k nonce : List UInt8) (n : Wd) (data : List UInt8) (j : Nat) (hj : j < data.length) : bt (xorS k nonce n data) j = bt data j ^^^ sx k nonce n j := by
  unfold xorS; rw [xorTo_at _ _ _ _ _ (Nat.le_refl _), if_pos hj]
theorem ext_bt {l m : List UInt8} (h : l.length = m.length) (hb : ∀ i, i < l.length → bt l i = bt m i) : l = m := by
  apply List.ext_getElem h
  intro i h1 h2
  have := hb i h1
  simp [bt, h1, h2] at this
  exact this
theorem nm_succ (n : Wd) (j : Nat) : (nm (n + BitVec.ofNat 32 j) + 1) % 4294967296 = nm (n + BitVec.ofNat 32 (j + 1)) := by
  unfold nm; rw [BitVec.toNat_add, BitVec.toNat_add, BitVec.toNat_ofNat, BitVec.toNat_ofNat]; omega
theorem xor8 (a b : UInt8) : bits .xor .u8 (a.toNat : Int) (b.toNat : Int) = ((a ^^^ b).toNat : Int) := by
  have h : bits .xor .u8 (a.toNat : Int) (b.toNat : Int) = IntKind.u8.wrap (((BitVec.ofInt 8 (a.toNat : Int)) ^^^ (BitVec.ofInt 8 (b.toNat : Int))).toNat) := rfl
  have e : ∀ x : UInt8, BitVec.ofInt 8 (x.toNat : Int) = x.toBitVec := by
    intro x; apply BitVec.eq_of_toNat_eq; rw [BitVec.toNat_ofInt]; have := x.toNat_lt; show _ = x.toNat; omega
  rw [h, e, e, wrap_u8]
  have e2 : (a ^^^ b).toNat = (a.toBitVec ^^^ b.toBitVec).toNat := rfl
  have := (a.toBitVec ^^^ b.toBitVec).isLt
  omega

/-- block g holds the bytes l at its beginning; none of these cells is frozen. -/
def Buf (w : World) (g : Nat) (l : List UInt8) : Prop :=
  ∃ cs t fr, w.heap[g]? = some (.cells cs t fr) ∧ l.length ≤ cs.size ∧ (∀ j, j < l.length → cs[j]? = some (.int .u8 ((bt l j).toNat : Int))) ∧ (l.length ≤ fr.1 ∨ fr.2 ≤ fr.1)
section
variable {w w' : World} {g : Nat} {l : List UInt8}
theorem Buf.cell (h : Buf w g l) (j : Nat) (hj : j < l.length) : w.cell? ⟨g, j, none⟩ = some (.int .u8 ((bt l j).toNat : Int)) := by
  obtain ⟨cs, t, fr, h1, _, h2, _⟩ := h
  rw [cell_of_row w g j cs t fr h1]; exact h2 j hj
theorem Buf.frozen (h : Buf w g l) (j : Nat) (hj : j < l.length) : w.frozen? ⟨g, j, none⟩ = false := by
  obtain ⟨cs, t, fr, h1, _, _, h3⟩ := h
  obtain ⟨lo, hi⟩ := fr
  simp only [World.frozen?, h1]
  rcases h3 with h3 | h3 <;> simp at h3 ⊢ <;> omega
theorem Buf.lt (h : Buf w g l) : g < w.heap.size := by
  obtain ⟨cs, t, fr, h1, _⟩ := h
  rcases Nat.lt_or_ge g w.heap.size with hlt | hge
  · exact hlt
  · rw [Array.getElem?_eq_none hge] at h1; cases h1
theorem Buf.keep (h : Buf w g l) (hk : w'.heap[g]? = w.heap[g]?) : Buf w' g l := by
  obtain ⟨cs, t, fr, h1, h2⟩ := h
  exact ⟨cs, t, fr, by rw [hk]; exact h1, h2⟩
theorem Buf.drew (h : Buf w g l) : Buf w.drew g l := h
theorem Buf.alloc (h : Buf w g l) (o : Obj) : Buf (w.alloc o) g l := h.keep (Below.heap_alloc w o g h.lt)
theorem Buf.far (h : Buf w g l) {p : Addr} (hp : g ≠ p.block) (u : Value) : Buf (w.setCell p u) g l := h.keep (Below.heap_setCell w p u g hp)
theorem Buf.below {B : Nat} (h : Buf w g l) (hb : Below B w w') (hg : g < B) : Buf w' g l := h.keep (hb.block g hg)
theorem Buf.set_ (h : Buf w g l) (i : Nat) (x : UInt8) (hi : i < l.length) : Buf (w.setCell ⟨g, i, none⟩ (.int .u8 (x.toNat : Int))) g (l.set i x) := by
  obtain ⟨cs, t, fr, h1, h2, h3, h4⟩ := h
  refine ⟨cs.setIfInBounds i (.int .u8 (x.toNat : Int)), t, fr, ?_, by simp; exact h2, fun j hj => ?_, by simpa using h4⟩
  · simp [World.setCell, Array.getElem?_modify, h1]
  · rw [List.length_set] at hj
    rw [bt_set _ _ _ _ hi, Array.getElem?_setIfInBounds]
    by_cases e : i = j
    · subst e; rw [if_pos rfl, if_pos rfl, if_pos (by omega)]
    · rw [if_neg e, if_neg e]; exact h3 j hj
/-- what '[]byte(s)' lays. -/
theorem Buf.ofBytes (w : World) (l : List UInt8) (e : TypeId) (c g : Nat) (hg : w.heap.size = g) :
    Buf (w.alloc (.cells (bytesRow ⟨l.toArray⟩ c) e ((bytesRow ⟨l.toArray⟩ c).size, (bytesRow ⟨l.toArray⟩ c).size + 1))) g l := by
  subst hg
  have hs : l.length ≤ (bytesRow ⟨l.toArray⟩ c).size := by simp [bytesRow]
  refine ⟨_, _, _, heap_alloc_new w _, hs, fun j hj => ?_, .inl hs⟩
  simp [bytesRow, Array.getElem?_append, hj, bt]
end
theorem own_keep' {w w' : World} {base : Nat} {e : TypeId} {size n : Nat} {v : Value} {xs : List Value} (h : w.ownsRow base e size v n xs) (hk : ∀ g, v.ownBlock = some g → w'.heap[g]? = w.heap[g]?) : w'.ownsRow base e size v n xs := by
  refine ⟨h.1, ?_⟩
  rcases h.2 with h2 | ⟨g, cap, cur, rfl, hb, hh, h3⟩
  · exact .inl h2
  · exact .inr ⟨g, cap, cur, rfl, hb, (hk g rfl).trans hh, h3⟩
theorem own_keep {w w' : World} {base : Nat} {e : TypeId} {size n : Nat} {v : Value} {xs : List Value} (h : w.ownsRow base e size v n xs) (hk : ∀ g, g < w.heap.size → w'.heap[g]? = w.heap[g]?) : w'.ownsRow base e size v n xs := by
  refine own_keep' h (fun g hg => ?_)
  rcases h.2 with ⟨rfl, _⟩ | ⟨g', cap, cur, rfl, hb, hh, h3⟩
  · simp [Value.ownBlock] at hg
  · have e1 : g' = g := by simpa [Value.ownBlock] using hg
    subst e1
    refine hk _ ?_
    rcases Nat.lt_or_ge g' w.heap.size with hlt | hge
    · exact hlt
    · rw [Array.getElem?_eq_none hge] at hh; cases hh
end Go.Proofs.YtilbebjjmnncdaaDoor
