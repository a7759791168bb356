/- Plain: bytes cut where they themselves say so (windows of 16, pieces of 64 to 1024 bytes). -/
import Derived.ProofKit
namespace Go.Proofs.YtdjjiblijbjobaaDoor

/-- 69069 to the power 16, in 32 bits. -/
def powW : Nat := 69069 ^ 16 % 2 ^ 32
/-- the sum behind so many bytes, as the program keeps it (numbers of 32 bits). -/
def rsm (b : List UInt8) : Nat → Nat
  | 0 => 0
  | i + 1 => ((rsm b i * 69069 + (b.getD i 0).toNat + 1) % 2 ^ 32 + (2 ^ 32 - (if 16 ≤ i then ((b.getD (i - 16) 0).toNat + 1) * powW % 2 ^ 32 else 0))) % 2 ^ 32
def hitB (b : List UInt8) (k : Nat) : Bool := decide (64 ≤ k + 1) && decide (rsm b (k + 1) % 256 = 255)
def endS (b : List UInt8) : Nat := match (List.range (min b.length 1024)).find? (hitB b) with
  | some k => k + 1
  | none => min b.length 1024
theorem endS_le (b : List UInt8) : endS b ≤ min b.length 1024 := by
  unfold endS
  split
  · rename_i k hk
    have := List.mem_range.1 (List.mem_of_find?_eq_some hk)
    omega
  · exact Nat.le_refl _
theorem endS_pos {b : List UInt8} (h : b ≠ []) : 1 ≤ endS b := by
  have : 0 < b.length := List.length_pos_iff.2 h
  unfold endS
  split
  · omega
  · omega
theorem endS_min (b : List UInt8) (h : endS b < 64) : endS b = b.length := by
  unfold endS at h ⊢
  split at h
  · rename_i k hk
    have := List.find?_some hk
    simp only [hitB, Bool.and_eq_true, decide_eq_true_eq] at this
    omega
  · omega
def cutS (b : List UInt8) : List (List UInt8) := if _h : b = [] then [] else b.take (endS b) :: cutS (b.drop (endS b))
termination_by b.length
decreasing_by
  have := endS_pos _h
  have h2 : 0 < b.length := List.length_pos_iff.2 _h
  rw [List.length_drop]
  omega
theorem cutS_nil : cutS [] = [] := by rw [cutS, dif_pos rfl]
theorem cutS_cons {b : List UInt8} (h : b ≠ []) : cutS b = b.take (endS b) :: cutS (b.drop (endS b)) := by rw [cutS, dif_neg h]
theorem cutS_flat : ∀ (n : Nat) (b : List UInt8), b.length ≤ n → (cutS b).flatten = b
  | 0, b, hn => by
    have : b = [] := List.eq_nil_of_length_eq_zero (by omega)
    subst this
    rw [cutS_nil]; rfl
  | n + 1, b, hn => by
    by_cases hb : b = []
    · subst hb; rw [cutS_nil]; rfl
    · have hp := endS_pos hb
      rw [cutS_cons hb, List.flatten_cons, cutS_flat n (b.drop (endS b)) (by rw [List.length_drop]; omega), List.take_append_drop]
/-- each piece has from 1 to 1024 bytes, and each but the last one 64 at least. -/
theorem cutS_sizes : ∀ (n : Nat) (b : List UInt8), b.length ≤ n → ∀ i s, (cutS b)[i]? = some s → 1 ≤ s.length ∧ s.length ≤ 1024 ∧ (i + 1 < (cutS b).length → 64 ≤ s.length)
  | 0, b, hn, i, s, h => by
    have : b = [] := List.eq_nil_of_length_eq_zero (by omega)
    subst this
    rw [cutS_nil] at h
    simp at h
  | n + 1, b, hn, i, s, h => by
    by_cases hb : b = []
    · subst hb; rw [cutS_nil] at h; simp at h
    · have hp := endS_pos hb
      have hle := endS_le b
      rw [cutS_cons hb] at h ⊢
      match i with
      | 0 =>
        simp only [List.getElem?_cons_zero, Option.some.injEq] at h
        subst h
        have hl : (b.take (endS b)).length = endS b := by rw [List.length_take]; omega
        rw [hl]
        refine ⟨hp, by omega, fun hlt => ?_⟩
        refine Classical.byContradiction fun hc => ?_
        have hq := endS_min b (by omega)
        rw [hq, List.drop_length, cutS_nil] at hlt
        simp at hlt
      | i + 1 =>
        rw [List.getElem?_cons_succ] at h
        obtain ⟨h1, h2, h3⟩ := cutS_sizes n (b.drop (endS b)) (by rw [List.length_drop]; omega) i s h
        exact ⟨h1, h2, fun hlt => h3 (by simpa using hlt)⟩
end Go.Proofs.YtdjjiblijbjobaaDoor
