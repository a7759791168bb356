/- Plain: the chain of places with the same four bytes finds what the search over all distances finds. -/
import Derived.Test.YtpobmaklgnioeaaDoorLzL
namespace Go.Proofs.YtpobmaklgnioeaaDoor

def fourS (s : List UInt8) (p : Nat) : List UInt8 := (s.drop p).take 4
theorem fourS_len {s : List UInt8} {p : Nat} (h : p + 4 ≤ s.length) : (fourS s p).length = 4 := by unfold fourS; rw [List.length_take, List.length_drop]; omega
theorem fourS_at {s : List UInt8} {p : Nat} (h : (fourS s p).length = 4) : p + 4 ≤ s.length := by unfold fourS at h; rw [List.length_take, List.length_drop] at h; omega
theorem fourS_get (s : List UInt8) (p i : Nat) (h : i < 4) : (fourS s p)[i]? = s[p + i]? := by unfold fourS; rw [List.getElem?_take_of_lt h, List.getElem?_drop]
/-- the last place ahead of q at which these four bytes stand. -/
def lastS (s K : List UInt8) : Nat → Option Nat
  | 0 => none
  | q + 1 => if fourS s q = K then some q else lastS s K q
def encS : Option Nat → Int
  | none => -1
  | some j => j
theorem lastS_some {s K : List UInt8} : ∀ {q j : Nat}, lastS s K q = some j → j < q ∧ fourS s j = K ∧ ∀ i, j < i → i < q → fourS s i ≠ K
  | 0, j, h => by simp [lastS] at h
  | q + 1, j, h => by
    unfold lastS at h
    split at h
    · rename_i e
      injection h with h
      subst h
      exact ⟨by omega, e, fun i h1 h2 => by omega⟩
    · rename_i e
      obtain ⟨h1, h2, h3⟩ := lastS_some h
      refine ⟨by omega, h2, fun i h4 h5 => ?_⟩
      rcases Nat.lt_or_ge i q with h6 | h6
      · exact h3 i h4 h6
      · obtain rfl : i = q := by omega
        exact e
theorem lastS_none {s K : List UInt8} : ∀ {q : Nat}, lastS s K q = none → ∀ i, i < q → fourS s i ≠ K
  | 0, _, i, hi => by omega
  | q + 1, h, i, hi => by
    unfold lastS at h
    split at h
    · cases h
    · rename_i e
      rcases Nat.lt_or_ge i q with h6 | h6
      · exact lastS_none h i h6
      · obtain rfl : i = q := by omega
        exact e
theorem same_ge4 {s : List UInt8} {p i : Nat} (hi : i < p) (hp : p + 4 ≤ s.length) (h : fourS s i = fourS s p) : 4 ≤ sameS s p (p - i) := by
  refine sameS_ge (by unfold mostS; omega) fun j hj => ?_
  rw [← fourS_get s p j hj, ← h, fourS_get s i j hj, show p - (p - i) + j = i + j by omega]
theorem same_lt4 {s : List UInt8} {p i : Nat} (hi : i < p) (h : fourS s i ≠ fourS s p) : sameS s p (p - i) < 4 := by
  rcases Nat.lt_or_ge (sameS s p (p - i)) 4 with h4 | h4
  · exact h4
  · exfalso
    apply h
    have hl := sameS_le s p (p - i)
    unfold mostS at hl
    apply List.ext_getElem?
    intro j
    rcases Nat.lt_or_ge j 4 with hj | hj
    · have := sameS_get (s := s) (at' := p) (far := p - i) (i := j) (by omega)
      rw [fourS_get s i j hj, fourS_get s p j hj, this, show p - (p - i) + j = i + j by omega]
    · rw [List.getElem?_eq_none (by unfold fourS; rw [List.length_take]; omega), List.getElem?_eq_none (by unfold fourS; rw [List.length_take]; omega)]
theorem same_le_of {s : List UInt8} {p i x : Nat} (hi : i < p) (h : s[i + x]? ≠ s[p + x]?) : sameS s p (p - i) ≤ x := by
  rcases Nat.lt_or_ge x (sameS s p (p - i)) with h4 | h4
  · exfalso
    have := sameS_get (s := s) (at' := p) (far := p - i) (i := x) h4
    rw [show p - (p - i) + x = i + x by omega] at this
    exact h this.symm
  · exact h4
/-- what the chain had found ahead of q: nothing behind j more. -/
theorem best4_to {s : List UInt8} {p q j : Nat} (hj : j < q) (hq : q ≤ p) (h : ∀ i, j < i → i < q → fourS s i ≠ fourS s p) : best4 s p (p - j - 1) = best4 s p (p - q) := by
  have := best4_skip s p (p - q) (q - j - 1) fun d h1 h2 => .inr ?_
  · rwa [show p - q + (q - j - 1) = p - j - 1 by omega] at this
  · have := same_lt4 (s := s) (p := p) (i := p - d) (by omega) (h _ (by omega) (by omega))
    rwa [show p - (p - d) = d by omega] at this
theorem best4_one (s : List UInt8) (p j : Nat) (hj : j < p) : best4 s p (p - j) = if (best4 s p (p - j - 1)).1 < sameS s p (p - j) ∧ 4 ≤ sameS s p (p - j) then (sameS s p (p - j), p - j) else best4 s p (p - j - 1) := by
  have e : p - j = p - j - 1 + 1 := by omega
  conv => lhs; rw [e]
  rw [best4, show p - j - 1 + 1 = p - j by omega]
theorem best4_end1 {s : List UInt8} {p q : Nat} (hq : q ≤ p) (h : ∀ i, i < q → fourS s i ≠ fourS s p) (hd : p - q ≤ 65535) : best4 s p (min p 65535) = best4 s p (p - q) := by
  have := best4_skip s p (p - q) (min p 65535 - (p - q)) fun d h1 h2 => .inr ?_
  · rwa [show p - q + (min p 65535 - (p - q)) = min p 65535 by omega] at this
  · have := same_lt4 (s := s) (p := p) (i := p - d) (by omega) (h _ (by omega))
    rwa [show p - (p - d) = d by omega] at this
theorem best4_end2 {s : List UInt8} {p q j : Nat} (hj : j < q) (hq : q ≤ p) (hd : p - q ≤ 65535) (hf : 65535 < p - j) (h : ∀ i, j < i → i < q → fourS s i ≠ fourS s p) : best4 s p (min p 65535) = best4 s p (p - q) := by
  have := best4_skip s p (p - q) (65535 - (p - q)) fun d h1 h2 => .inr ?_
  · rwa [show p - q + (65535 - (p - q)) = min p 65535 by omega] at this
  · have := same_lt4 (s := s) (p := p) (i := p - d) (by omega) (h _ (by omega) (by omega))
    rwa [show p - (p - d) = d by omega] at this
theorem best4_end3 {s : List UInt8} {p q : Nat} (hq : q ≤ p) (hd : p - q ≤ 65535) (hm : mostS s p ≤ (best4 s p (p - q)).1) : best4 s p (min p 65535) = best4 s p (p - q) := by
  have := best4_skip s p (p - q) (min p 65535 - (p - q)) fun d _ _ => .inl (Nat.le_trans (sameS_le s p d) hm)
  rwa [show p - q + (min p 65535 - (p - q)) = min p 65535 by omega] at this
theorem best4_few {s : List UInt8} {p : Nat} (h : s.length - p < 4) : ∀ k, best4 s p k = (0, 0)
  | 0 => rfl
  | k + 1 => by
    have hl := sameS_le s p (k + 1)
    unfold mostS at hl
    rw [best4, if_neg (by omega), best4_few h k]
theorem lastS_far {s K : List UInt8} (hK : K.length = 4) : ∀ {q n : Nat}, s.length < q + 4 → lastS s K (q + n) = lastS s K q
  | q, 0, _ => rfl
  | q, n + 1, h => by
    show lastS s K (q + n + 1) = _
    rw [lastS, if_neg ?_, lastS_far hK h]
    intro e
    have := fourS_at (s := s) (p := q + n) (by rw [e]; exact hK)
    omega
end Go.Proofs.YtpobmaklgnioeaaDoor
