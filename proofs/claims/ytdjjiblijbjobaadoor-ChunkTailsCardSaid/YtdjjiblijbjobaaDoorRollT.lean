/- Plain: the rolling sum is the window's sum; where a first piece ends; the places that two texts with one tail are cut at. -/
import Derived.Test.YtdjjiblijbjobaaDoorRollS
namespace Go.Proofs.YtdjjiblijbjobaaDoor

/-- the sum of so many bytes from a place on. -/
def wsum (b : List UInt8) (lo : Nat) : Nat → Nat
  | 0 => 0
  | n + 1 => wsum b lo n * 69069 + (b.getD (lo + n) 0).toNat + 1
theorem wsum_front (b : List UInt8) (lo : Nat) : ∀ n, wsum b lo (n + 1) = ((b.getD lo 0).toNat + 1) * 69069 ^ n + wsum b (lo + 1) n
  | 0 => by simp [wsum]
  | n + 1 => by
    rw [wsum, wsum_front b lo n, wsum, Nat.pow_succ, Nat.add_mul, Nat.mul_assoc, show lo + 1 + n = lo + (n + 1) by omega]
    omega
theorem step_mod (W x y P C : Nat) (h : W * 69069 + x + 1 = (y + 1) * P + C) : ((W % 2 ^ 32 * 69069 + x + 1) % 2 ^ 32 + (2 ^ 32 - (y + 1) * (P % 2 ^ 32) % 2 ^ 32)) % 2 ^ 32 = C % 2 ^ 32 := by
  have hp : (y + 1) * (P % 2 ^ 32) % 2 ^ 32 = (y + 1) * P % 2 ^ 32 := by rw [Nat.mul_mod, Nat.mod_mod, ← Nat.mul_mod]
  rw [hp]
  generalize (y + 1) * P = B at h
  omega
theorem rsm_wsum (b : List UInt8) : ∀ i, rsm b i = wsum b (i - 16) (min i 16) % 2 ^ 32
  | 0 => rfl
  | i + 1 => by
    rw [rsm, rsm_wsum b i]
    by_cases h : 16 ≤ i
    · rw [if_pos h, show min i 16 = 16 by omega, show min (i + 1) 16 = 16 by omega, show i + 1 - 16 = i - 16 + 1 by omega]
      have hs : wsum b (i - 16) (16 + 1) = wsum b (i - 16) 16 * 69069 + (b.getD i 0).toNat + 1 := by
        rw [wsum, show i - 16 + 16 = i by omega]
      exact step_mod _ _ _ _ _ (hs.symm.trans (wsum_front b (i - 16) 16))
    · rw [if_neg h, show min i 16 = i by omega, show min (i + 1) 16 = i + 1 by omega, show i - 16 = 0 by omega, show i + 1 - 16 = 0 by omega, wsum, Nat.zero_add]
      generalize wsum b 0 i = W
      generalize (b.getD i 0).toNat = x
      omega
theorem rsm_lt (b : List UInt8) (i : Nat) : rsm b i < 2 ^ 32 := by rw [rsm_wsum]; omega
theorem cutS_len : ∀ (n : Nat) (b : List UInt8), b.length ≤ n → (cutS b).length ≤ b.length
  | 0, b, hn => by
    have : b = [] := List.eq_nil_of_length_eq_zero (by omega)
    subst this
    rw [cutS_nil]; exact Nat.le_refl _
  | n + 1, b, hn => by
    by_cases hb : b = []
    · subst hb; rw [cutS_nil]; exact Nat.le_refl _
    · have hp := endS_pos hb
      have h0 : 0 < b.length := List.length_pos_iff.2 hb
      have := cutS_len n (b.drop (endS b)) (by rw [List.length_drop]; omega)
      rw [List.length_drop] at this
      rw [cutS_cons hb, List.length_cons]
      omega
theorem endS_hit {b : List UInt8} {k : Nat} (hk : k < min b.length 1024) (hno : ∀ j, j < k → hitB b j = false) (h : hitB b k = true) : endS b = k + 1 := by
  unfold endS
  have : (List.range (min b.length 1024)).find? (hitB b) = some k := by
    rw [List.find?_range_eq_some]
    refine ⟨h, List.mem_range.2 hk, fun j hj => by rw [hno j hj]; rfl⟩
  rw [this]
theorem endS_no {b : List UInt8} (hno : ∀ j, j < min b.length 1024 → hitB b j = false) : endS b = min b.length 1024 := by
  unfold endS
  have : (List.range (min b.length 1024)).find? (hitB b) = none := by
    rw [List.find?_eq_none]
    intro j hj
    rw [hno j (List.mem_range.1 hj)]
    decide
  rw [this]
/-- the end of the first piece, as the reference counts: from 64 on. -/
theorem endS_ref {b : List UInt8} {n : Nat} (h64 : 64 ≤ n) (hn : n = 64 ∨ n ≤ min b.length 1024) (hno : ∀ m, 64 ≤ m → m < n → rsm b m % 256 ≠ 255) (h : b.length ≤ n ∨ 1024 ≤ n ∨ rsm b n % 256 = 255) : endS b = min n b.length := by
  have hf : ∀ j, j + 1 < n → hitB b j = false := by
    intro j hj
    simp only [hitB, Bool.and_eq_false_iff, decide_eq_false_iff_not]
    by_cases h1 : 64 ≤ j + 1
    · exact .inr (hno _ h1 hj)
    · exact .inl h1
  by_cases hs : b.length < n
  · rw [endS_no (fun j hj => hf j (by omega))]
    omega
  · by_cases hh : hitB b (n - 1) = true
    · rw [endS_hit (k := n - 1) (by omega) (fun j hj => hf j (by omega)) hh]
      omega
    · have h2 : ¬ rsm b n % 256 = 255 := by
        intro h3
        apply hh
        simp only [hitB, Bool.and_eq_true, decide_eq_true_eq]
        rw [show n - 1 + 1 = n by omega]
        exact ⟨h64, h3⟩
      rw [endS_no (fun j hj => ?_)]
      · omega
      · by_cases he : j = n - 1
        · rw [he]; exact Bool.eq_false_iff.2 hh
        · exact hf j (by omega)
/-- how many bytes are behind each place of a cut. -/
def leftS (b : List UInt8) : List Nat := if _h : b = [] then [] else (b.length - endS b) :: leftS (b.drop (endS b))
termination_by b.length
decreasing_by
  have := endS_pos _h
  have h2 : 0 < b.length := List.length_pos_iff.2 _h
  rw [List.length_drop]
  omega
theorem leftS_nil : leftS [] = [] := by rw [leftS, dif_pos rfl]
theorem leftS_cons {b : List UInt8} (h : b ≠ []) : leftS b = (b.length - endS b) :: leftS (b.drop (endS b)) := by rw [leftS, dif_neg h]
theorem leftS_lt : ∀ (m : Nat) (b : List UInt8), b.length ≤ m → ∀ x ∈ leftS b, x < b.length
  | 0, b, hm, x, hx => by
    have : b = [] := List.eq_nil_of_length_eq_zero (by omega)
    subst this
    rw [leftS_nil] at hx
    cases hx
  | m + 1, b, hm, x, hx => by
    by_cases hb : b = []
    · subst hb; rw [leftS_nil] at hx; cases hx
    · have hp := endS_pos hb
      have hle := endS_le b
      rw [leftS_cons hb] at hx
      rcases List.mem_cons.1 hx with rfl | hx
      · omega
      · have := leftS_lt m (b.drop (endS b)) (by rw [List.length_drop]; omega) x hx
        rw [List.length_drop] at this
        omega
theorem leftS_at : ∀ (m : Nat) (b : List UInt8), b.length ≤ m → ∀ i n, (leftS b)[i]? = some n → (leftS b).drop (i + 1) = leftS (b.drop (b.length - n))
  | 0, b, hm, i, n, h => by
    have : b = [] := List.eq_nil_of_length_eq_zero (by omega)
    subst this
    rw [leftS_nil] at h
    simp at h
  | m + 1, b, hm, i, n, h => by
    by_cases hb : b = []
    · subst hb; rw [leftS_nil] at h; simp at h
    · have hp := endS_pos hb
      have hle := endS_le b
      rw [leftS_cons hb] at h ⊢
      match i with
      | 0 =>
        simp only [List.getElem?_cons_zero, Option.some.injEq] at h
        rw [← h, show b.length - (b.length - endS b) = endS b by omega]
        rfl
      | i + 1 =>
        rw [List.getElem?_cons_succ] at h
        have hx := leftS_lt _ _ (Nat.le_refl _) n (List.mem_of_getElem? h)
        have := leftS_at m (b.drop (endS b)) (by rw [List.length_drop]; omega) i n h
        rw [List.drop_succ_cons, this, List.drop_drop, List.length_drop]
        rw [List.length_drop] at hx
        congr 2
        omega
/-- the places with at most so many bytes behind. -/
def endsS (b : List UInt8) (most : Nat) : List Nat := (leftS b).filter (fun x => decide (x ≤ most))
theorem endsS_nil (most : Nat) : endsS [] most = [] := by rw [endsS, leftS_nil]; rfl
theorem filter_all {l : List Nat} {m : Nat} (h : ∀ x ∈ l, x ≤ m) : l.filter (fun x => decide (x ≤ m)) = l := by
  rw [List.filter_eq_self]
  intro x hx
  exact decide_eq_true (h x hx)
theorem endsS_at (most : Nat) : ∀ (m : Nat) (b : List UInt8), b.length ≤ m → ∀ i n, (endsS b most)[i]? = some n → n ≤ most ∧ n < b.length ∧ (endsS b most).drop (i + 1) = leftS (b.drop (b.length - n))
  | 0, b, hm, i, n, h => by
    have : b = [] := List.eq_nil_of_length_eq_zero (by omega)
    subst this
    rw [endsS_nil] at h
    simp at h
  | m + 1, b, hm, i, n, h => by
    have hmem := List.mem_of_getElem? h
    have hn : n ≤ most := of_decide_eq_true (List.mem_filter.1 hmem).2
    have hlt := leftS_lt _ _ (Nat.le_refl _) n (List.mem_filter.1 hmem).1
    refine ⟨hn, hlt, ?_⟩
    by_cases hb : b = []
    · subst hb; simp at hlt
    · have hp := endS_pos hb
      have hle := endS_le b
      have hcons : endsS b most = if b.length - endS b ≤ most then (b.length - endS b) :: endsS (b.drop (endS b)) most else endsS (b.drop (endS b)) most := by
        unfold endsS
        rw [leftS_cons hb, List.filter_cons]
        simp only [decide_eq_true_eq]
      have hall : b.length - endS b ≤ most → endsS (b.drop (endS b)) most = leftS (b.drop (endS b)) := by
        intro hq
        refine filter_all fun x hx => ?_
        have := leftS_lt _ _ (Nat.le_refl _) x hx
        rw [List.length_drop] at this
        omega
      by_cases hq : b.length - endS b ≤ most
      · rw [hcons, if_pos hq, hall hq, ← leftS_cons hb] at h ⊢
        exact leftS_at _ b (Nat.le_refl _) i n h
      · rw [hcons, if_neg hq] at h ⊢
        obtain ⟨_, h4, h3⟩ := endsS_at most m (b.drop (endS b)) (by rw [List.length_drop]; omega) i n h
        rw [List.length_drop] at h4
        rw [h3, List.drop_drop, List.length_drop]
        congr 2
        omega
theorem ends_tail {a b t : List UInt8} {i k n : Nat} (hi : (endsS (a ++ t) t.length)[i]? = some n) (hk : (endsS (b ++ t) t.length)[k]? = some n) : (endsS (a ++ t) t.length).drop i = (endsS (b ++ t) t.length).drop k := by
  obtain ⟨h1, _, h3⟩ := endsS_at _ _ _ (Nat.le_refl _) i n hi
  obtain ⟨_, _, h6⟩ := endsS_at _ _ _ (Nat.le_refl _) k n hk
  have e : ∀ c : List UInt8, (c ++ t).drop ((c ++ t).length - n) = t.drop (t.length - n) := by
    intro c
    rw [List.length_append, show c.length + t.length - n = c.length + (t.length - n) by omega, List.drop_append]
    rw [List.drop_of_length_le (by omega), List.nil_append]
    congr 1
    omega
  rw [e] at h3 h6
  have hil := (List.getElem?_eq_some_iff.1 hi)
  have hkl := (List.getElem?_eq_some_iff.1 hk)
  obtain ⟨hil, hie⟩ := hil
  obtain ⟨hkl, hke⟩ := hkl
  rw [List.drop_eq_getElem_cons hil, List.drop_eq_getElem_cons hkl, hie, hke, h3, h6]
end Go.Proofs.YtdjjiblijbjobaaDoor
